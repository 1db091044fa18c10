/- What the functions of this law compute, and their plain laws. Conditions: none. -/
import Derived.Test.YtcklhipdldpkhaaWireTurnedP4
/- Bytes are written, into rows of one's own. Own work. -/
namespace Go.Proofs.Ytcklhipdldpkhaa.Rx
open Go
set_option linter.unusedVariables false
set_option linter.unusedSimpArgs false
set_option maxRecDepth 100000
set_option maxHeartbeats 1000000
noncomputable def run96o : List PV → List Ent → (Res → Option Res) → Option Res
  | [.ro 5 z f b, .sc (.int .i64 n)], [], k => bif slB z b then k ⟨.ow 5 16 [] 0 (b.length + 1) none, [], [.vec false 5 false (b ++ pu .u8 [IntKind.u8.wrap n])]⟩ else none
  | _, _, _ => none
noncomputable def s96o : Sig := { own := [], run := run96o }
theorem ok96o : CallOk tau Try.prog 96 s96o := CallOk.mk' fun xs es k res hl hr => by
  change run96o xs es k = some res at hr
  unfold run96o at hr
  split at hr
  · rename_i z f b n
    obtain ⟨hc, hr⟩ := of_bif hr
    obtain ⟨h1, h2⟩ := slB_iff.1 hc
    have hg : g96o 0 z f b n k = some res := by
      have hf : flat [PV.ro 5 z f b, PV.ro 5 false false [PV.sc (Value.int IntKind.u8 (IntKind.u8.wrap n))]] = b ++ pu .u8 [IntKind.u8.wrap n] := by simp [PV.els, pu]
      have hf2 : flat [PV.ro 5 z f b, PV.ro 5 false true [PV.sc (Value.int IntKind.u8 (IntKind.u8.wrap n))]] = b ++ pu .u8 [IntKind.u8.wrap n] := by simp [PV.els, pu]
      have he : (b ++ pu .u8 [IntKind.u8.wrap n]).isEmpty = false := by simp
      have hlen : (b ++ pu .u8 [IntKind.u8.wrap n]).length = b.length + 1 := by simp
      unfold g96o
      simp only [hf, hf2, List.take_length, List.drop_zero, List.take_succ_cons, List.take_zero, he, hlen, Ent.nil]
      rw [bif_t (by simp; omega)]
      exact hr
    exact fn_at tabOk F96o_ok mixed fo96o bo96o an96o [] 0 0 (ia96o 0) hl rfl ((e96o 0 z f b n k).trans hg)
  · cases hr
noncomputable def run98o : List PV → List Ent → (Res → Option Res) → Option Res
  | [.ro 5 z f b, .sc (.string s)], [], k => bif slB z b && Nat.ble s.size 65535 then k ⟨.ow 5 16 [] 0 (b.length + (s.size + 2)) none, [], [.vec false 5 false (b ++ pu .u8 (textB s))]⟩ else none
  | _, _, _ => none
noncomputable def s98o : Sig := { own := [], run := run98o }
theorem ok98o : CallOk tau Try.prog 98 s98o := CallOk.mk' fun xs es k res hl hr => by
  change run98o xs es k = some res at hr
  unfold run98o at hr
  split at hr
  · rename_i z f b s
    obtain ⟨hc, hr⟩ := of_bif hr
    rw [Bool.and_eq_true, Nat.ble_eq] at hc
    obtain ⟨h1, h2⟩ := slB_iff.1 hc.1
    have hg : g98o 0 z f b s k = some res := by
      have hm : minI (zi s.size) 65535 = (s.size : Int) := by unfold minI; rw [if_neg (by simp only [zi]; omega)]
      unfold g98o
      simp only [hm, Int.toNat_natCast, extract_all]
      have hf : ∀ x y : Bool, flat [PV.ro 5 z f b, PV.ro 5 false x [PV.sc (Value.int IntKind.u8 (IntKind.u8.wrap (zi s.size))), PV.sc (Value.int IntKind.u8 (IntKind.u8.wrap (shrI IntKind.i64 (zi s.size) 8)))], PV.ro 5 false y (List.take s.size (ofBytes s))] = b ++ pu .u8 (textB s) := by
        intro x y
        rw [ofBytes_pu, List.take_of_length_le (by simp), textB_eq, textB0]
        simp [PV.els, pu]
      have he : (b ++ pu .u8 (textB s)).isEmpty = false := by
        rw [textB_eq, textB0]; simp
      have hlen : (b ++ pu .u8 (textB s)).length = b.length + (s.size + 2) := by simp
      simp only [hf, List.take_length, List.drop_zero, List.take_succ_cons, List.take_zero, he, hlen, Ent.nil]
      rw [bif_t (by simp), bif_t (by simp [roomy]; omega), bif_t (by simp; omega)]
      exact hr
    exact fn_at tabOk F98o_ok mixed fo98o bo98o an98o [] 0 0 (ia98o 0) hl rfl ((e98o 0 z f b s k).trans hg)
  · cases hr
end Go.Proofs.Ytcklhipdldpkhaa.Rx

/- Bytes are written: the same rules, that stand still while their arguments are unknown. Own work. -/
namespace Go.Proofs.Ytcklhipdldpkhaa.Rx
open Go
set_option linter.unusedVariables false
set_option linter.unusedSimpArgs false
set_option maxRecDepth 100000
noncomputable def apI : List PV → Int → List PV := hid fun b n => b ++ pu .u8 (intB n)
noncomputable def apY : List PV → Int → List PV := hid fun b n => b ++ pu .u8 [IntKind.u8.wrap n]
noncomputable def apT : List PV → ByteArray → List PV := hid fun b s => b ++ pu .u8 (textB s)
noncomputable def okZ : Bool → List PV → Bool := hid slB
theorem apI_eq (b : List PV) (n : Int) : apI b n = b ++ pu .u8 (intB n) := by rw [apI, hid_eq]
theorem apY_eq (b : List PV) (n : Int) : apY b n = b ++ pu .u8 [IntKind.u8.wrap n] := by rw [apY, hid_eq]
theorem apT_eq (b : List PV) (s : ByteArray) : apT b s = b ++ pu .u8 (textB s) := by rw [apT, hid_eq]
theorem okZ_eq (z : Bool) (b : List PV) : okZ z b = slB z b := by rw [okZ, hid_eq]
noncomputable def run97h : List PV → List Ent → (Res → Option Res) → Option Res
  | [.ro 5 z f b, .sc (.int .i64 n)], [], k => bif okZ z b then k ⟨.ro 5 false false (apI b n), [], []⟩ else none
  | _, _, _ => none
noncomputable def s97h : Sig := { own := [], run := run97h }
theorem ok97h : CallOk tau Try.prog 97 s97h := fun xs es k res hl hr => ok97' xs es k res hl (by
  change run97h xs es k = some res at hr
  show run97' xs es k = some res
  unfold run97h at hr
  split at hr
  · rw [okZ_eq, apI_eq] at hr; exact hr
  · cases hr)
noncomputable def run96h : List PV → List Ent → (Res → Option Res) → Option Res
  | [.ro 5 z f b, .sc (.int .i64 n)], [], k => bif okZ z b then k ⟨.ow 5 16 [] 0 (apY b n).length none, [], [.vec false 5 false (apY b n)]⟩ else none
  | _, _, _ => none
noncomputable def s96h : Sig := { own := [], run := run96h }
theorem ok96h : CallOk tau Try.prog 96 s96h := fun xs es k res hl hr => ok96o xs es k res hl (by
  change run96h xs es k = some res at hr
  show run96o xs es k = some res
  unfold run96h at hr
  split at hr
  · rename_i z f b n
    rw [okZ_eq, apY_eq, show (b ++ pu .u8 [IntKind.u8.wrap n]).length = b.length + 1 by simp] at hr; exact hr
  · cases hr)
noncomputable def run98h : List PV → List Ent → (Res → Option Res) → Option Res
  | [.ro 5 z f b, .sc (.string s)], [], k => bif okZ z b && Nat.ble s.size 65535 then k ⟨.ow 5 16 [] 0 (apT b s).length none, [], [.vec false 5 false (apT b s)]⟩ else none
  | _, _, _ => none
noncomputable def s98h : Sig := { own := [], run := run98h }
theorem ok98h : CallOk tau Try.prog 98 s98h := fun xs es k res hl hr => ok98o xs es k res hl (by
  change run98h xs es k = some res at hr
  show run98o xs es k = some res
  unfold run98h at hr
  split at hr
  · rename_i z f b s
    rw [okZ_eq, apT_eq, show (b ++ pu .u8 (textB s)).length = b.length + (s.size + 2) by simp] at hr; exact hr
  · cases hr)
end Go.Proofs.Ytcklhipdldpkhaa.Rx

/- What comitia/wire.Bytes computes. Own work, printed by a program of the worker's own. -/
namespace Go.Proofs.Ytcklhipdldpkhaa.Rx
open Go
set_option linter.unusedVariables false
set_option maxRecDepth 100000
set_option maxHeartbeats 0
def N41 : Nat := 53
noncomputable def F41 : Fns := addF 98 s98h (addF 97 s97h (addF 96 s96h (addF 93 s93 (addF 81 s81' (addF 80 s80' (F0))))))
theorem F41_ok : FnsOk tau Try.prog F41 := ((((((F0_ok).add ok80' en80).add ok81' en81).add ok93 en93).add ok96h en96).add ok97h en97).add ok98h en98
def nm41_0 : Nm := [(2, .any), (3, .any), (5, .any), (14, .any), (15, .any), (16, .any)]
def x41_0 : An := (.seq .leaf (.seq (.cond .leaf .leaf) (.seq (.block none (.seq .leaf .leaf)) .leaf)))
noncomputable def c41_1 : Code := subC (Try.f41.body.get!) [1, 1, 1, 1, 0, 1, 0, 0]
def nm41_1 : Nm := [(2, .any), (3, .any), (5, .own), (32, .any), (33, .any), (34, .any)]
def nx41_1 : Nm := [(2, .any), (3, .any), (5, .any)]
def x41_1 : An := (.seq .leaf (.seq (.cond .leaf .leaf) (.seq (.block none (.seq .leaf .leaf)) .leaf)))
def an41 (r1 : RunL) : An := (.seq .leaf (.seq .leaf (.seq (.seq .leaf (.block none (.loop nm41_0 x41_0))) (.seq .leaf (.seq (.seq .leaf (.block none (.sum nm41_1 N41 r1))) (.seq .leaf (.seq .leaf .leaf)))))))
noncomputable def lpS41_1 (f : Nat) (rc : Nat → Bool → Bool → List PV → Int → Int → Bool → Bool → List PV → Bool → Bool → List PV → Bool → Bool → List PV → Int → Int → Int → Int → Int → Int → Int → Int → Int → Int → Int → Int → Int → Bool → Bool → List PV → List PV → Option Res) (k0 : Nat → Bool → Bool → List PV → Bool → Bool → List PV → Bool → Bool → List PV → Int → Int → Int → Int → Int → Int → Int → Int → Int → Int → Int → Int → Int → Bool → Bool → List PV → List PV → Option Res) (v0 : Nat) (v1 : Bool) (v2 : Bool) (v3 : List PV) (v4 : Int) (v5 : Int) (v6 : Bool) (v7 : Bool) (v8 : List PV) (v9 : Bool) (v10 : Bool) (v11 : List PV) (v12 : Bool) (v13 : Bool) (v14 : List PV) (v15 : Int) (v16 : Int) (v17 : Int) (v18 : Int) (v19 : Int) (v20 : Int) (v21 : Int) (v22 : Int) (v23 : Int) (v24 : Int) (v25 : Int) (v26 : Int) (v27 : Int) (v28 : Bool) (v29 : Bool) (v30 : List PV) (v31 : List PV) : Option Res := bif decide (v5 < v4) then bif decide (0 ≤ v5) && decide (v5 < zi v3.length) && PV.isRo 5 (v3.getD v5.toNat PV.top) && true then bif allInt IntKind.u8 (v3.getD v5.toNat PV.top).els && true then bif okZ false (List.take v0 v31) && (ByteArray.mk (Array.mk (toBytes ((v3.getD v5.toNat PV.top).nl, (v3.getD v5.toNat PV.top).els).snd))).size.ble 65535 then rc ((apT (List.take v0 v31) (ByteArray.mk (Array.mk (toBytes ((v3.getD v5.toNat PV.top).nl, (v3.getD v5.toNat PV.top).els).snd)))).length) v1 v2 v3 v4 (IntKind.i64.wrap (v5 + 1)) v6 v7 v8 v9 v10 v11 v12 v13 v14 v15 v16 v17 v18 v19 v20 v21 v22 v23 v24 v25 v26 v27 v28 v29 v30 (apT (List.take v0 v31) (ByteArray.mk (Array.mk (toBytes ((v3.getD v5.toNat PV.top).nl, (v3.getD v5.toNat PV.top).els).snd)))) else none else none else none else k0 v0 v6 v7 v8 v9 v10 v11 v12 v13 v14 v15 v16 v17 v18 v19 v20 v21 v22 v23 v24 v25 v26 v27 v28 v29 v30 v31
noncomputable def lp41_1 (f : Nat) (k0 : Nat → Bool → Bool → List
  PV → Bool → Bool → List
  PV → Bool → Bool → List
  PV → Int → Int → Int → Int → Int → Int → Int → Int → Int → Int → Int → Int → Int → Bool → Bool → List
  PV → List
  PV → Option Res) : Nat → Nat → Bool → Bool → List
  PV → Int → Int → Bool → Bool → List
  PV → Bool → Bool → List PV → Bool → Bool → List PV → Int → Int → Int → Int → Int → Int → Int → Int → Int → Int → Int → Int → Int → Bool → Bool → List PV → List PV → Option Res
  | 0, _, _, _, _, _, _, _, _, _, _, _, _, _, _, _, _, _, _, _, _, _, _, _, _, _, _, _, _, _, _, _, _ => none
  | n + 1, v0, v1, v2, v3, v4, v5, v6, v7, v8, v9, v10, v11, v12, v13, v14, v15, v16, v17, v18, v19, v20, v21, v22, v23, v24, v25, v26, v27, v28, v29, v30, v31 => lpS41_1 f (lp41_1 f k0 n) k0 v0 v1 v2 v3 v4 v5 v6 v7 v8 v9 v10 v11 v12 v13 v14 v15 v16 v17 v18 v19 v20 v21 v22 v23 v24 v25 v26 v27 v28 v29 v30 v31
theorem lpR41_1 (f : Nat) (k : Kont) (n : Nat) (v0 : Nat) (v1 : Bool) (v2 : Bool) (v3 : List PV) (v4 : Int) (v5 : Int) (v6 : Bool) (v7 : Bool) (v8 : List PV) (v9 : Bool) (v10 : Bool) (v11 : List PV) (v12 : Bool) (v13 : Bool) (v14 : List PV) (v15 : Int) (v16 : Int) (v17 : Int) (v18 : Int) (v19 : Int) (v20 : Int) (v21 : Int) (v22 : Int) (v23 : Int) (v24 : Int) (v25 : Int) (v26 : Int) (v27 : Int) (v28 : Bool) (v29 : Bool) (v30 : List PV) (v31 : List PV) : evLoop tau 0 nm41_1 (fun s k => ev tau F41 0 0 c41_1 (x41_1 ) s k) (n + 1) (fillS nm41_1 N41 [.ptr 864 [], .ptr 865 [], .ow 5 866 [] 0 v0 none, .ro 29 v1 v2 v3, .sc (.int .i64 v4), .sc (.int .i64 v5)] [(864, .box false 31 (PV.st 31 [.ro 5 v6 v7 v8, .ro 5 v9 v10 v11, .ro 5 v12 v13 v14])), (865, .box false 54 (PV.st 54 [.sc (.int .i64 v15), .sc (.int .i64 v16), .sc (.int .i64 v17), .st 34 [.sc (.int .i64 v18), .sc (.int .i64 v19)], .st 45 [.sc (.int .i64 v20), .sc (.int .i64 v21)], .sc (.int .i64 v22), .sc (.int .i64 v23), .st 45 [.sc (.int .i64 v24), .sc (.int .i64 v25)], .sc (.int .i64 v26), .sc (.int .i64 v27), .ro 29 v28 v29 v30])), (866, .vec false 5 false v31)]) (kNorm tau 0 nx41_1 k) = lpS41_1 f (fun v0 v1 v2 v3 v4 v5 v6 v7 v8 v9 v10 v11 v12 v13 v14 v15 v16 v17 v18 v19 v20 v21 v22 v23 v24 v25 v26 v27 v28 v29 v30 v31 => evLoop tau 0 nm41_1 (fun s k => ev tau F41 0 0 c41_1 (x41_1 ) s k) n (fillS nm41_1 N41 [.ptr 864 [], .ptr 865 [], .ow 5 866 [] 0 v0 none, .ro 29 v1 v2 v3, .sc (.int .i64 v4), .sc (.int .i64 v5)] [(864, .box false 31 (PV.st 31 [.ro 5 v6 v7 v8, .ro 5 v9 v10 v11, .ro 5 v12 v13 v14])), (865, .box false 54 (PV.st 54 [.sc (.int .i64 v15), .sc (.int .i64 v16), .sc (.int .i64 v17), .st 34 [.sc (.int .i64 v18), .sc (.int .i64 v19)], .st 45 [.sc (.int .i64 v20), .sc (.int .i64 v21)], .sc (.int .i64 v22), .sc (.int .i64 v23), .st 45 [.sc (.int .i64 v24), .sc (.int .i64 v25)], .sc (.int .i64 v26), .sc (.int .i64 v27), .ro 29 v28 v29 v30])), (866, .vec false 5 false v31)]) (kNorm tau 0 nx41_1 k)) (fun x0 x1 x2 x3 x4 x5 x6 x7 x8 x9 x10 x11 x12 x13 x14 x15 x16 x17 x18 x19 x20 x21 x22 x23 x24 x25 x26 => k (Ex.exit 2) (fillS nx41_1 N41 [.ptr 864 [], .ptr 865 [], .ow 5 866 [] 0 x0 none] [(864, .box false 31 (PV.st 31 [.ro 5 x1 x2 x3, .ro 5 x4 x5 x6, .ro 5 x7 x8 x9])), (865, .box false 54 (PV.st 54 [.sc (.int .i64 x10), .sc (.int .i64 x11), .sc (.int .i64 x12), .st 34 [.sc (.int .i64 x13), .sc (.int .i64 x14)], .st 45 [.sc (.int .i64 x15), .sc (.int .i64 x16)], .sc (.int .i64 x17), .sc (.int .i64 x18), .st 45 [.sc (.int .i64 x19), .sc (.int .i64 x20)], .sc (.int .i64 x21), .sc (.int .i64 x22), .ro 29 x23 x24 x25])), (866, .vec false 5 false x26)])) v0 v1 v2 v3 v4 v5 v6 v7 v8 v9 v10 v11 v12 v13 v14 v15 v16 v17 v18 v19 v20 v21 v22 v23 v24 v25 v26 v27 v28 v29 v30 v31 := by kernel_rfl
theorem lpE41_1 (f : Nat) (k : Kont) : ∀ (n : Nat) (v0 : Nat) (v1 : Bool) (v2 : Bool) (v3 : List PV) (v4 : Int) (v5 : Int) (v6 : Bool) (v7 : Bool) (v8 : List PV) (v9 : Bool) (v10 : Bool) (v11 : List PV) (v12 : Bool) (v13 : Bool) (v14 : List PV) (v15 : Int) (v16 : Int) (v17 : Int) (v18 : Int) (v19 : Int) (v20 : Int) (v21 : Int) (v22 : Int) (v23 : Int) (v24 : Int) (v25 : Int) (v26 : Int) (v27 : Int) (v28 : Bool) (v29 : Bool) (v30 : List PV) (v31 : List PV), evLoop tau 0 nm41_1 (fun s k => ev tau F41 0 0 c41_1 (x41_1 ) s k) n (fillS nm41_1 N41 [.ptr 864 [], .ptr 865 [], .ow 5 866 [] 0 v0 none, .ro 29 v1 v2 v3, .sc (.int .i64 v4), .sc (.int .i64 v5)] [(864, .box false 31 (PV.st 31 [.ro 5 v6 v7 v8, .ro 5 v9 v10 v11, .ro 5 v12 v13 v14])), (865, .box false 54 (PV.st 54 [.sc (.int .i64 v15), .sc (.int .i64 v16), .sc (.int .i64 v17), .st 34 [.sc (.int .i64 v18), .sc (.int .i64 v19)], .st 45 [.sc (.int .i64 v20), .sc (.int .i64 v21)], .sc (.int .i64 v22), .sc (.int .i64 v23), .st 45 [.sc (.int .i64 v24), .sc (.int .i64 v25)], .sc (.int .i64 v26), .sc (.int .i64 v27), .ro 29 v28 v29 v30])), (866, .vec false 5 false v31)]) (kNorm tau 0 nx41_1 k) = lp41_1 f (fun x0 x1 x2 x3 x4 x5 x6 x7 x8 x9 x10 x11 x12 x13 x14 x15 x16 x17 x18 x19 x20 x21 x22 x23 x24 x25 x26 => k (Ex.exit 2) (fillS nx41_1 N41 [.ptr 864 [], .ptr 865 [], .ow 5 866 [] 0 x0 none] [(864, .box false 31 (PV.st 31 [.ro 5 x1 x2 x3, .ro 5 x4 x5 x6, .ro 5 x7 x8 x9])), (865, .box false 54 (PV.st 54 [.sc (.int .i64 x10), .sc (.int .i64 x11), .sc (.int .i64 x12), .st 34 [.sc (.int .i64 x13), .sc (.int .i64 x14)], .st 45 [.sc (.int .i64 x15), .sc (.int .i64 x16)], .sc (.int .i64 x17), .sc (.int .i64 x18), .st 45 [.sc (.int .i64 x19), .sc (.int .i64 x20)], .sc (.int .i64 x21), .sc (.int .i64 x22), .ro 29 x23 x24 x25])), (866, .vec false 5 false x26)])) n v0 v1 v2 v3 v4 v5 v6 v7 v8 v9 v10 v11 v12 v13 v14 v15 v16 v17 v18 v19 v20 v21 v22 v23 v24 v25 v26 v27 v28 v29 v30 v31 | 0, _, _, _, _, _, _, _, _, _, _, _, _, _, _, _, _, _, _, _, _, _, _, _, _, _, _, _, _, _, _, _, _ => rfl | n + 1, v0, v1, v2, v3, v4, v5, v6, v7, v8, v9, v10, v11, v12, v13, v14, v15, v16, v17, v18, v19, v20, v21, v22, v23, v24, v25, v26, v27, v28, v29, v30, v31 => (lpR41_1 f k n v0 v1 v2 v3 v4 v5 v6 v7 v8 v9 v10 v11 v12 v13 v14 v15 v16 v17 v18 v19 v20 v21 v22 v23 v24 v25 v26 v27 v28 v29 v30 v31).trans (congrArg (fun r => lpS41_1 f r (fun x0 x1 x2 x3 x4 x5 x6 x7 x8 x9 x10 x11 x12 x13 x14 x15 x16 x17 x18 x19 x20 x21 x22 x23 x24 x25 x26 => k (Ex.exit 2) (fillS nx41_1 N41 [.ptr 864 [], .ptr 865 [], .ow 5 866 [] 0 x0 none] [(864, .box false 31 (PV.st 31 [.ro 5 x1 x2 x3, .ro 5 x4 x5 x6, .ro 5 x7 x8 x9])), (865, .box false 54 (PV.st 54 [.sc (.int .i64 x10), .sc (.int .i64 x11), .sc (.int .i64 x12), .st 34 [.sc (.int .i64 x13), .sc (.int .i64 x14)], .st 45 [.sc (.int .i64 x15), .sc (.int .i64 x16)], .sc (.int .i64 x17), .sc (.int .i64 x18), .st 45 [.sc (.int .i64 x19), .sc (.int .i64 x20)], .sc (.int .i64 x21), .sc (.int .i64 x22), .ro 29 x23 x24 x25])), (866, .vec false 5 false x26)])) v0 v1 v2 v3 v4 v5 v6 v7 v8 v9 v10 v11 v12 v13 v14 v15 v16 v17 v18 v19 v20 v21 v22 v23 v24 v25 v26 v27 v28 v29 v30 v31) (by funext v0 v1 v2 v3 v4 v5 v6 v7 v8 v9 v10 v11 v12 v13 v14 v15 v16 v17 v18 v19 v20 v21 v22 v23 v24 v25 v26 v27 v28 v29 v30 v31; exact lpE41_1 f k n v0 v1 v2 v3 v4 v5 v6 v7 v8 v9 v10 v11 v12 v13 v14 v15 v16 v17 v18 v19 v20 v21 v22 v23 v24 v25 v26 v27 v28 v29 v30 v31))
noncomputable def r41_1 (f : Nat) : List PV → List (Nat × Ent) → Kont → Option Res
  | [.ptr 864 [], .ptr 865 [], .ow 5 866 [] 0 v0 none, .ro 29 v1 v2 v3, .sc (.int .i64 v4),
  PV.sc
    (Value.int IntKind.i64
      v5)], [(864, .box false 31 (PV.st 31 [.ro 5 v6 v7 v8, .ro 5 v9 v10 v11, .ro 5 v12 v13 v14])),
  (865,
    Ent.box false 54
      (PV.st 54
        [.sc (.int .i64 v15), .sc (.int .i64 v16), .sc (.int .i64 v17), .st 34 [.sc (.int .i64 v18), .sc (.int .i64 v19)],
          PV.st 45 [.sc (.int .i64 v20), .sc (.int .i64 v21)], .sc (.int .i64 v22), .sc (.int .i64 v23),
          PV.st 45 [.sc (.int .i64 v24), .sc (.int .i64 v25)], .sc (.int .i64 v26), .sc (.int .i64 v27), .ro 29 v28 v29 v30])),
  (866,
    Ent.vec false 5 false
      v31)], k => lp41_1 f (fun x0 x1 x2 x3 x4 x5 x6 x7 x8 x9 x10 x11 x12 x13 x14 x15 x16 x17 x18 x19 x20 x21 x22 x23 x24 x25 x26 => k (Ex.exit
  2) (fillS nx41_1 N41 [.ptr 864 [], .ptr 865 [],
  PV.ow 5 866 [] 0 x0
    none] [(864, .box false 31 (PV.st 31 [.ro 5 x1 x2 x3, .ro 5 x4 x5 x6, .ro 5 x7 x8 x9])),
  (865,
    Ent.box false 54
      (PV.st 54
        [.sc (.int .i64 x10), .sc (.int .i64 x11), .sc (.int .i64 x12), .st 34 [.sc (.int .i64 x13), .sc (.int .i64 x14)],
          PV.st 45 [.sc (.int .i64 x15), .sc (.int .i64 x16)], .sc (.int .i64 x17), .sc (.int .i64 x18),
          PV.st 45 [.sc (.int .i64 x19), .sc (.int .i64 x20)], .sc (.int .i64 x21), .sc (.int .i64 x22), .ro 29 x23 x24 x25])),
  (866, .vec false 5 false x26)])) f v0 v1 v2 v3 v4 v5 v6 v7 v8 v9 v10 v11 v12 v13 v14 v15 v16 v17 v18 v19 v20 v21 v22 v23 v24 v25 v26 v27 v28 v29 v30 v31
  | _, _, _ => none
theorem it41_1 (f : Nat) : items c41_1 x41_1 = [] := by kernel_rfl
theorem i41_1 (f : Nat) : (Item.l c41_1 nm41_1 N41 (r41_1 f)).Ok tau Try.prog 0 := loop_item tabOk F41_ok mixed (x := x41_1) (nm2 := nx41_1) (anOk_items _ _ (by rw [it41_1 f]; intro q hq; cases hq)) fun vs hp k res hr => by
  unfold r41_1 at hr
  split at hr
  · exact ⟨f, 0, (lpE41_1 f _ f _ _ _ _ _ _ _ _ _ _ _ _ _ _ _ _ _ _ _ _ _ _ _ _ _ _ _ _ _ _ _ _ ).trans hr⟩
  · cases hr
noncomputable def g41 (f : Nat) (k0_z : Bool) (k0_f : Bool) (k0 : List PV) (k1_z : Bool) (k1_f : Bool) (k1 : List PV) (k2_z : Bool) (k2_f : Bool) (k2 : List PV) (m_Kind : Int) (m_From : Int) (m_To : Int) (m_W_Host : Int) (m_W_N : Int) (m_Creator_D : Int) (m_Creator_U : Int) (m_Version : Int) (m_Commit : Int) (m_Author_D : Int) (m_Author_U : Int) (m_Sub : Int) (m_Err : Int) (m_Body_z : Bool) (m_Body_f : Bool) (m_Body : List PV) (k : Res → Option Res) : Option Res := bif okZ true [] then bif okZ false (List.take (apY [] m_Kind).length (apY [] m_Kind)) then bif okZ false (apI (List.take (apY [] m_Kind).length (apY [] m_Kind)) m_From) then bif okZ false (apI (apI (List.take (apY [] m_Kind).length (apY [] m_Kind)) m_From) m_To) then bif okZ false (apI (apI (apI (List.take (apY [] m_Kind).length (apY [] m_Kind)) m_From) m_To) m_W_Host) then bif okZ false (apI (apI (apI (apI (List.take (apY [] m_Kind).length (apY [] m_Kind)) m_From) m_To) m_W_Host) m_W_N) then bif okZ false (apI (apI (apI (apI (apI (List.take (apY [] m_Kind).length (apY [] m_Kind)) m_From) m_To) m_W_Host) m_W_N) m_Creator_D) then bif okZ false (apI (apI (apI (apI (apI (apI (List.take (apY [] m_Kind).length (apY [] m_Kind)) m_From) m_To) m_W_Host) m_W_N) m_Creator_D) m_Creator_U) then bif okZ false (apI (apI (apI (apI (apI (apI (apI (List.take (apY [] m_Kind).length (apY [] m_Kind)) m_From) m_To) m_W_Host) m_W_N) m_Creator_D) m_Creator_U) m_Version) then bif okZ false (apI (apI (apI (apI (apI (apI (apI (apI (List.take (apY [] m_Kind).length (apY [] m_Kind)) m_From) m_To) m_W_Host) m_W_N) m_Creator_D) m_Creator_U) m_Version) m_Commit) then bif okZ false (apI (apI (apI (apI (apI (apI (apI (apI (apI (List.take (apY [] m_Kind).length (apY [] m_Kind)) m_From) m_To) m_W_Host) m_W_N) m_Creator_D) m_Creator_U) m_Version) m_Commit) m_Author_D) then bif okZ false (apI (apI (apI (apI (apI (apI (apI (apI (apI (apI (List.take (apY [] m_Kind).length (apY [] m_Kind)) m_From) m_To) m_W_Host) m_W_N) m_Creator_D) m_Creator_U) m_Version) m_Commit) m_Author_D) m_Author_U) then bif okZ false (apI (apI (apI (apI (apI (apI (apI (apI (apI (apI (apI (List.take (apY [] m_Kind).length (apY [] m_Kind)) m_From) m_To) m_W_Host) m_W_N) m_Creator_D) m_Creator_U) m_Version) m_Commit) m_Author_D) m_Author_U) m_Sub) then bif okZ false (apI (apI (apI (apI (apI (apI (apI (apI (apI (apI (apI (apI (List.take (apY [] m_Kind).length (apY [] m_Kind)) m_From) m_To) m_W_Host) m_W_N) m_Creator_D) m_Creator_U) m_Version) m_Commit) m_Author_D) m_Author_U) m_Sub) m_Err) then lp41_1 f (fun x0_0 x1_0 x2_0 x3_0 x4_0 x5_0 x6_0 x7_0 x8_0 x9_0 x10_0 x11_0 x12_0 x13_0 x14_0 x15_0 x16_0 x17_0 x18_0 x19_0 x20_0 x21_0 x22_0 x23_0 x24_0 x25_0 x26_0 => bif allInt IntKind.u8 (keyF (K3.mk [.ro 5 x1_0 x2_0 x3_0, .ro 5 x4_0 x5_0 x6_0, .ro 5 x7_0 x8_0 x9_0] x11_0)) && decide ((keyF (K3.mk [.ro 5 x1_0 x2_0 x3_0, .ro 5 x4_0 x5_0 x6_0, .ro 5 x7_0 x8_0 x9_0] x11_0)).length ≤ 1000000000) && (allInt IntKind.u8 (flat [.ro 5 false false (List.take x0_0 x26_0)]) && decide ((flat [.ro 5 false false (List.take x0_0 x26_0)]).length ≤ 1000000000)) && true then bif roomy (x0_0 + (List.take 32 (pu IntKind.u8 (macP (ints (keyF (K3.mk [.ro 5 x1_0 x2_0 x3_0, .ro 5 x4_0 x5_0 x6_0, .ro 5 x7_0 x8_0 x9_0] x11_0))) (ints (flat [.ro 5 false false (List.take x0_0 x26_0)]))))).length) 1 && true then k (Res.mk (.ow 5 16 [] 0 (x0_0 + (List.take 32 (pu IntKind.u8 (macP (ints (keyF (K3.mk [.ro 5 x1_0 x2_0 x3_0, .ro 5 x4_0 x5_0 x6_0, .ro 5 x7_0 x8_0 x9_0] x11_0))) (ints (flat [.ro 5 false false (List.take x0_0 x26_0)]))))).length) none) [] [.vec false 5 false (List.take x0_0 x26_0 ++ List.take 32 (pu IntKind.u8 (macP (ints (keyF (K3.mk [.ro 5 x1_0 x2_0 x3_0, .ro 5 x4_0 x5_0 x6_0, .ro 5 x7_0 x8_0 x9_0] x11_0))) (ints (flat [.ro 5 false false (List.take x0_0 x26_0)])))))]) else none else none) f ((apY (apI (apI (apI (apI (apI (apI (apI (apI (apI (apI (apI (apI (List.take (apY [] m_Kind).length (apY [] m_Kind)) m_From) m_To) m_W_Host) m_W_N) m_Creator_D) m_Creator_U) m_Version) m_Commit) m_Author_D) m_Author_U) m_Sub) m_Err) (zi m_Body.length)).length) m_Body_z m_Body_f m_Body (zi m_Body.length) (0) k0_z k0_f k0 k1_z k1_f k1 k2_z k2_f k2 m_Kind m_From m_To m_W_Host m_W_N m_Creator_D m_Creator_U m_Version m_Commit m_Author_D m_Author_U m_Sub m_Err m_Body_z m_Body_f m_Body (apY (apI (apI (apI (apI (apI (apI (apI (apI (apI (apI (apI (apI (List.take (apY [] m_Kind).length (apY [] m_Kind)) m_From) m_To) m_W_Host) m_W_N) m_Creator_D) m_Creator_U) m_Version) m_Commit) m_Author_D) m_Author_U) m_Sub) m_Err) (zi m_Body.length)) else none else none else none else none else none else none else none else none else none else none else none else none else none else none
theorem e41 (f : Nat) (k0_z : Bool) (k0_f : Bool) (k0 : List PV) (k1_z : Bool) (k1_f : Bool) (k1 : List PV) (k2_z : Bool) (k2_f : Bool) (k2 : List PV) (m_Kind : Int) (m_From : Int) (m_To : Int) (m_W_Host : Int) (m_W_N : Int) (m_Creator_D : Int) (m_Creator_U : Int) (m_Version : Int) (m_Commit : Int) (m_Author_D : Int) (m_Author_U : Int) (m_Sub : Int) (m_Err : Int) (m_Body_z : Bool) (m_Body_f : Bool) (m_Body : List PV) (k : Res → Option Res) : evFn tau F41 Try.f41 (Try.f41.body.get!) (an41 (r41_1 f)) [] 13 [.st 31 [.ro 5 k0_z k0_f k0, .ro 5 k1_z k1_f k1, .ro 5 k2_z k2_f k2], .st 54 [.sc (.int .i64 m_Kind), .sc (.int .i64 m_From), .sc (.int .i64 m_To), .st 34 [.sc (.int .i64 m_W_Host), .sc (.int .i64 m_W_N)], .st 45 [.sc (.int .i64 m_Creator_D), .sc (.int .i64 m_Creator_U)], .sc (.int .i64 m_Version), .sc (.int .i64 m_Commit), .st 45 [.sc (.int .i64 m_Author_D), .sc (.int .i64 m_Author_U)], .sc (.int .i64 m_Sub), .sc (.int .i64 m_Err), .ro 29 m_Body_z m_Body_f m_Body]] [] k = g41 f k0_z k0_f k0 k1_z k1_f k1 k2_z k2_f k2 m_Kind m_From m_To m_W_Host m_W_N m_Creator_D m_Creator_U m_Version m_Commit m_Author_D m_Author_U m_Sub m_Err m_Body_z m_Body_f m_Body k := by kernel_rfl
theorem it41 (f : Nat) : items (Try.f41.body.get!) (an41 (r41_1 f)) = [.l c41_1 nm41_1 N41 (r41_1 f)] := by kernel_rfl
theorem ia41 (f : Nat) : ∀ q ∈ items (Try.f41.body.get!) (an41 (r41_1 f)), q.Ok tau Try.prog 0 := by
  rw [it41 f]; simp only [List.forall_mem_cons, List.not_mem_nil, false_implies, implies_true, and_true]; exact i41_1 f
theorem fo41 : Try.prog.funcs[41]? = some Try.f41 := by kernel_rfl
theorem bo41 : Try.f41.body = some (Try.f41.body.get!) := by kernel_rfl
theorem en41 : Enters Try.prog 41 := enters_of fo41 (by kernel_rfl) bo41
end Go.Proofs.Ytcklhipdldpkhaa.Rx

/- What bytes.Equal computes. Own work, printed by a program of the worker's own. -/
namespace Go.Proofs.Ytcklhipdldpkhaa.Rx
open Go
set_option linter.unusedVariables false
set_option maxRecDepth 100000
set_option maxHeartbeats 0
end Go.Proofs.Ytcklhipdldpkhaa.Rx

/- What slices.EqualFunc[[][]byte,[][]byte,[]byte,[]byte] computes. Own work, printed by a program of the worker's own. -/
namespace Go.Proofs.Ytcklhipdldpkhaa.Rx
open Go
set_option linter.unusedVariables false
set_option maxRecDepth 100000
set_option maxHeartbeats 0
end Go.Proofs.Ytcklhipdldpkhaa.Rx

/- What comitia/comitiaref16.Same computes. Own work, printed by a program of the worker's own. -/
namespace Go.Proofs.Ytcklhipdldpkhaa.Rx
open Go
set_option linter.unusedVariables false
set_option maxRecDepth 100000
set_option maxHeartbeats 0
end Go.Proofs.Ytcklhipdldpkhaa.Rx

-- FN slices.EqualFunc[[][]byte,[][]byte,[]byte,[]byte] | ref16.Same
/- Messages that are the same. Own work. -/
namespace Go.Proofs.Ytcklhipdldpkhaa.Rx
open Go
set_option linter.unusedVariables false
set_option linter.unusedSimpArgs false
set_option maxRecDepth 100000
set_option maxHeartbeats 1000000
def rOk0 (l : List PV) : Bool := l.all (PV.isRo 5) && (allInt .u8 (flat l) && (l.all (fun p => decide (p.els.length ≤ 65535)) && decide (l.length ≤ 1000)))
noncomputable def rOk : List PV → Bool := hid rOk0
theorem rOk_eq (l : List PV) : rOk l = rOk0 l := by rw [rOk, hid_eq]
theorem rOk_iff {l : List PV} : rOk l = true ↔ l.all (PV.isRo 5) = true ∧ allInt .u8 (flat l) = true ∧ (∀ p ∈ l, p.els.length ≤ 65535) ∧ l.length ≤ 1000 := by
  rw [rOk_eq]; unfold rOk0
  simp only [Bool.and_eq_true, List.all_eq_true, decide_eq_true_eq]
theorem flat_els {l : List PV} (h : allInt .u8 (flat l) = true) {i : Nat} (hi : i < l.length) : allInt .u8 (l.getD i .top).els = true := by
  induction l generalizing i with
  | nil => simp at hi
  | cons p ps ih =>
    rw [flat_cons, allInt_append, Bool.and_eq_true] at h
    cases i with
    | zero => exact h.1
    | succ i => simpa using ih h.2 (by simpa using hi)
structure MS where
  (c : C13) (b : List PV)
end Go.Proofs.Ytcklhipdldpkhaa.Rx

-- FN wire.Bytes
/- A message is written. Own work. -/
namespace Go.Proofs.Ytcklhipdldpkhaa.Rx
open Go
set_option linter.unusedVariables false
set_option linter.unusedSimpArgs false
set_option maxRecDepth 100000
set_option maxHeartbeats 1000000
structure WM where
  (l : List PV) (c : C13) (b : List PV)
def numsOf (c : C13) : List Int := [c.fr, c.to, c.wh, c.wn, c.cd, c.cu, c.ve, c.co, c.ad, c.au, c.su, c.er]
def txB (p : PV) : ByteArray := ByteArray.mk (Array.mk (toBytes p.els))
theorem txB_size (p : PV) : (txB p).size = p.els.length := toBytes_len p.els
noncomputable def wB0 (w : WM) : List Int := msgB w.c.kd (numsOf w.c) (w.b.map txB)
noncomputable def wB : WM → List Int := hid fun w => wB0 w ++ macP (ints (keyF ⟨w.l, w.c.fr⟩)) (wB0 w)
theorem wB_eq (w : WM) : wB w = wB0 w ++ macP (ints (keyF ⟨w.l, w.c.fr⟩)) (wB0 w) := by rw [wB, hid_eq]
theorem textsB_len (m : Nat) : ∀ l : List ByteArray, (∀ t ∈ l, t.size ≤ m) → (textsB l).length ≤ l.length * (m + 2)
  | [], _ => by simp [textsB]
  | t :: l, h => by
      have h1 := h t List.mem_cons_self
      have h2 := textsB_len m l fun x hx => h x (List.mem_cons_of_mem _ hx)
      simp only [textsB, List.flatMap_cons, List.length_append, textB_length, List.length_cons, Nat.add_mul] at h2 ⊢
      omega
theorem wB0_length (w : WM) : (wB0 w).length = 98 + (textsB (w.b.map txB)).length := by
  simp only [wB0, msgB, List.length_append, List.length_cons, List.length_nil, numsB_length, numsOf]; omega
theorem txs_small {m : Nat} {b : List PV} (h : ∀ p ∈ b, p.els.length ≤ m) : ∀ t ∈ b.map txB, t.size ≤ m := by
  intro t ht
  obtain ⟨p, hp, rfl⟩ := List.mem_map.1 ht
  rw [txB_size]; exact h p hp
theorem wB0_small {w : WM} (h : rOk w.b = true) : (wB0 w).length ≤ 65537098 := by
  obtain ⟨_, _, h3, h4⟩ := rOk_iff.1 h
  have := textsB_len 65535 (w.b.map txB) (txs_small h3)
  rw [List.length_map] at this
  have h5 : w.b.length * 65537 ≤ 1000 * 65537 := Nat.mul_le_mul_right _ h4
  rw [wB0_length]; omega
theorem wB_length (w : WM) : (wB w).length = (wB0 w).length + 32 := by rw [wB_eq, List.length_append, macP_length]
theorem wB_by (w : WM) : ∀ x ∈ wB0 w, 0 ≤ x ∧ x < 256 := msgB_by _ _ _
theorem okZ_t {l : List PV} (h : l.length ≤ 1000000000) : okZ false l = true := by rw [okZ_eq]; exact slB_iff.2 ⟨fun h => (by cases h), h⟩
theorem l41_1 (f : Nat) (k0 : Nat → Bool → Bool → List PV → Bool → Bool → List PV → Bool → Bool → List PV → Int → Int → Int → Int → Int → Int → Int → Int → Int → Int → Int → Int → Int → Bool → Bool → List PV → List PV → Option Res) (b : List PV) (h1 : b.all (PV.isRo 5) = true) (h2 : allInt .u8 (flat b) = true) (h3 : ∀ p ∈ b, p.els.length ≤ 65535) (h4 : b.length ≤ 1000)
    {z fl za fa za1 fa1 za2 fa2 zb fb : Bool} {ka kc ke bb : List PV} {kd fr to wh wn cd cu ve co ad au su er : Int} : ∀ (d i n : Nat) (L : List PV), i + d = b.length → d < n → L.length ≤ 1000 + i * 65537 →
    lp41_1 f k0 n L.length z fl b (zi b.length) (i : Int) za fa ka za1 fa1 kc za2 fa2 ke kd fr to wh wn cd cu ve co ad au su er zb fb bb L = k0 (L ++ pu .u8 (textsB ((b.drop i).map txB))).length za fa ka za1 fa1 kc za2 fa2 ke kd fr to wh wn cd cu ve co ad au su er zb fb bb (L ++ pu .u8 (textsB ((b.drop i).map txB)))
  | 0, i, n + 1, L, hi, hn, hL => by
      rw [List.drop_of_length_le (by omega)]
      simp only [lp41_1, lpS41_1, List.map_nil, textsB, List.flatMap_nil, pu_nil, List.append_nil]
      exact bif_f (by simp [zi]; omega)
  | d + 1, i, n + 1, L, hi, hn, hL => by
      have g1 : ((i : Int)).toNat = i := by omega
      have w1 : IntKind.i64.wrap ((i : Int) + 1) = ((i + 1 : Nat) : Int) := by rw [wrap_i64 (by omega) (by omega)]; omega
      have hd : b.drop i = b.getD i .top :: b.drop (i + 1) := by
        rw [List.drop_eq_getElem_cons (by omega)]; simp [List.getD_eq_getElem?_getD, show i < b.length by omega]
      have hmem : b.getD i .top ∈ b := by rw [List.getD_eq_getElem?_getD, List.getElem?_eq_getElem (by omega)]; exact List.getElem_mem (by omega)
      have hsz := h3 _ hmem
      have hi2 : i * 65537 ≤ 999 * 65537 := Nat.mul_le_mul_right _ (by omega)
      have ht : ByteArray.mk (Array.mk (toBytes ((b.getD i .top).nl, (b.getD i .top).els).snd)) = txB (b.getD i .top) := rfl
      have hap : apT L (txB (b.getD i .top)) = L ++ pu .u8 (textB (txB (b.getD i .top))) := apT_eq _ _
      simp only [lp41_1, lpS41_1, g1, w1, ht, List.take_length]
      refine (bif_t (by simp [zi]; omega)).trans ((bif_t (by rw [isRo_getD h1 (by omega)]; simp [zi]; omega)).trans ((bif_t (by rw [flat_els h2 (by omega)]; rfl)).trans ((bif_t (by rw [okZ_t (by omega), txB_size, Bool.true_and, Nat.ble_eq]; exact hsz)).trans ?_)))
      have ih := l41_1 f k0 b h1 h2 h3 h4 (z := z) (fl := fl) (za := za) (fa := fa) (za1 := za1) (fa1 := fa1) (za2 := za2) (fa2 := fa2) (zb := zb) (fb := fb) (ka := ka) (kc := kc) (ke := ke) (bb := bb) (kd := kd) (fr := fr) (to := to) (wh := wh) (wn := wn) (cd := cd) (cu := cu) (ve := ve) (co := co) (ad := ad) (au := au) (su := su) (er := er) d (i + 1) n (apT L (txB (b.getD i .top))) (by omega) (by omega) (by rw [hap, List.length_append, pu_length, textB_length, txB_size]; omega)
      refine ih.trans ?_
      rw [hd, hap]
      simp only [List.map_cons, textsB, List.flatMap_cons, pu_append, List.append_assoc]
noncomputable def run41' : List PV → List Ent → (Res → Option Res) → Option Res
  | [.st 31 [.ro 5 z0 f0 k0, .ro 5 z1 f1 k1, .ro 5 z2 f2 k2], .st 54 [.sc (.int .i64 kd), .sc (.int .i64 fr), .sc (.int .i64 to), .st 34 [.sc (.int .i64 wh), .sc (.int .i64 wn)], .st 45 [.sc (.int .i64 cd), .sc (.int .i64 cu)], .sc (.int .i64 ve), .sc (.int .i64 co), .st 45 [.sc (.int .i64 ad), .sc (.int .i64 au)], .sc (.int .i64 su), .sc (.int .i64 er), .ro 29 z f b]], [], k => bif rOk b && (kOk k0 && (kOk k1 && kOk k2)) then k ⟨.ow 5 16 [] 0 (wB ⟨[.ro 5 z0 f0 k0, .ro 5 z1 f1 k1, .ro 5 z2 f2 k2], ⟨kd, fr, to, wh, wn, cd, cu, ve, co, ad, au, su, er⟩, b⟩).length none, [], [.vec false 5 false (pu .u8 (wB ⟨[.ro 5 z0 f0 k0, .ro 5 z1 f1 k1, .ro 5 z2 f2 k2], ⟨kd, fr, to, wh, wn, cd, cu, ve, co, ad, au, su, er⟩, b⟩))]⟩ else none
  | _, _, _ => none
noncomputable def s41' : Sig := { own := [], run := run41' }
theorem wB0_parts (w : WM) : pu .u8 (wB0 w) = apY (apI (apI (apI (apI (apI (apI (apI (apI (apI (apI (apI (apI (apY [] w.c.kd) w.c.fr) w.c.to) w.c.wh) w.c.wn) w.c.cd) w.c.cu) w.c.ve) w.c.co) w.c.ad) w.c.au) w.c.su) w.c.er) (zi w.b.length) ++ pu .u8 (textsB (w.b.map txB)) := by
  simp only [apI_eq, apY_eq, wB0, msgB, numsOf, numsB, List.flatMap_cons, List.flatMap_nil, List.append_nil, List.nil_append, pu_append, List.append_assoc, List.length_map, zi]
theorem g41_eq (z0 f0 z1 f1 z2 f2 z f : Bool) (k0 k1 k2 b : List PV) (kd fr to wh wn cd cu ve co ad au su er : Int) (hb : rOk b = true) (h0 : kOk k0 = true) (h1 : kOk k1 = true) (h2 : kOk k2 = true) (k : Res → Option Res) :
    g41 1010 z0 f0 k0 z1 f1 k1 z2 f2 k2 kd fr to wh wn cd cu ve co ad au su er z f b k = k ⟨.ow 5 16 [] 0 (wB ⟨[.ro 5 z0 f0 k0, .ro 5 z1 f1 k1, .ro 5 z2 f2 k2], ⟨kd, fr, to, wh, wn, cd, cu, ve, co, ad, au, su, er⟩, b⟩).length none, [], [.vec false 5 false (pu .u8 (wB ⟨[.ro 5 z0 f0 k0, .ro 5 z1 f1 k1, .ro 5 z2 f2 k2], ⟨kd, fr, to, wh, wn, cd, cu, ve, co, ad, au, su, er⟩, b⟩))]⟩ := by
  obtain ⟨b1, b2, b3, b4⟩ := rOk_iff.1 hb
  have hsm := wB0_small (w := ⟨[.ro 5 z0 f0 k0, .ro 5 z1 f1 k1, .ro 5 z2 f2 k2], ⟨kd, fr, to, wh, wn, cd, cu, ve, co, ad, au, su, er⟩, b⟩) hb
  have hp := wB0_parts ⟨[.ro 5 z0 f0 k0, .ro 5 z1 f1 k1, .ro 5 z2 f2 k2], ⟨kd, fr, to, wh, wn, cd, cu, ve, co, ad, au, su, er⟩, b⟩
  unfold g41
  simp only [List.take_length]
  refine (bif_t (by rw [okZ_eq]; rfl)).trans ?_
  have ly : ∀ (l : List PV) (n : Int), (apY l n).length = l.length + 1 := fun l n => by rw [apY_eq]; simp
  have li : ∀ (l : List PV) (n : Int), (apI l n).length = l.length + 8 := fun l n => by rw [apI_eq]; simp
  iterate 13 (refine (bif_t (okZ_t (by simp only [li, ly, List.length_nil]; omega))).trans ?_)
  refine (l41_1 1010 _ b b1 b2 b3 b4 b.length 0 1010 _ (by omega) (by omega) (by simp only [li, ly, List.length_nil]; omega)).trans ?_
  rw [List.drop_zero]
  rw [show (apY (apI (apI (apI (apI (apI (apI (apI (apI (apI (apI (apI (apI (apY [] kd) fr) to) wh) wn) cd) cu) ve) co) ad) au) su) er) (zi b.length)) ++ pu .u8 (textsB (b.map txB)) = pu .u8 (wB0 ⟨[.ro 5 z0 f0 k0, .ro 5 z1 f1 k1, .ro 5 z2 f2 k2], ⟨kd, fr, to, wh, wn, cd, cu, ve, co, ad, au, su, er⟩, b⟩) from hp.symm]
  have hkf := keyF_ok (z0 := z0) (f0 := f0) (z1 := z1) (f1 := f1) (z2 := z2) (f2 := f2) h0 h1 h2 fr
  unfold kOk at hkf
  rw [Bool.and_eq_true, decide_eq_true_eq] at hkf
  have e2 : List.take 32 (pu .u8 (macP (ints (keyF ⟨[.ro 5 z0 f0 k0, .ro 5 z1 f1 k1, .ro 5 z2 f2 k2], fr⟩)) (wB0 ⟨[.ro 5 z0 f0 k0, .ro 5 z1 f1 k1, .ro 5 z2 f2 k2], ⟨kd, fr, to, wh, wn, cd, cu, ve, co, ad, au, su, er⟩, b⟩))) = pu .u8 (macP (ints (keyF ⟨[.ro 5 z0 f0 k0, .ro 5 z1 f1 k1, .ro 5 z2 f2 k2], fr⟩)) (wB0 ⟨[.ro 5 z0 f0 k0, .ro 5 z1 f1 k1, .ro 5 z2 f2 k2], ⟨kd, fr, to, wh, wn, cd, cu, ve, co, ad, au, su, er⟩, b⟩)) := List.take_of_length_le (by rw [pu_length, macP_length]; exact Nat.le_refl _)
  have hL := wB_length ⟨[.ro 5 z0 f0 k0, .ro 5 z1 f1 k1, .ro 5 z2 f2 k2], ⟨kd, fr, to, wh, wn, cd, cu, ve, co, ad, au, su, er⟩, b⟩
  have htk : List.take (wB0 ⟨[.ro 5 z0 f0 k0, .ro 5 z1 f1 k1, .ro 5 z2 f2 k2], ⟨kd, fr, to, wh, wn, cd, cu, ve, co, ad, au, su, er⟩, b⟩).length (pu .u8 (wB0 ⟨[.ro 5 z0 f0 k0, .ro 5 z1 f1 k1, .ro 5 z2 f2 k2], ⟨kd, fr, to, wh, wn, cd, cu, ve, co, ad, au, su, er⟩, b⟩)) = pu .u8 (wB0 ⟨[.ro 5 z0 f0 k0, .ro 5 z1 f1 k1, .ro 5 z2 f2 k2], ⟨kd, fr, to, wh, wn, cd, cu, ve, co, ad, au, su, er⟩, b⟩) := List.take_of_length_le (by simp)
  simp only [htk, flat_one, ints_pu, allInt_pu, e2, pu_length, macP_length]
  refine (bif_t (by rw [hkf.1]; simp; omega)).trans ((bif_t (by simp only [roomy, Nat.mul_one, Bool.and_true, decide_eq_true_eq]; omega)).trans ?_)
  rw [hL, ← pu_append, ← wB_eq ⟨[.ro 5 z0 f0 k0, .ro 5 z1 f1 k1, .ro 5 z2 f2 k2], ⟨kd, fr, to, wh, wn, cd, cu, ve, co, ad, au, su, er⟩, b⟩]
theorem ok41' : CallOk tau Try.prog 41 s41' := CallOk.mk' fun xs es k res hl hr => by
  change run41' xs es k = some res at hr
  unfold run41' at hr
  split at hr
  · rename_i z0 f0 k0 z1 f1 k1 z2 f2 k2 kd fr to wh wn cd cu ve co ad au su er z f b
    obtain ⟨hc, hr⟩ := of_bif hr
    simp only [Bool.and_eq_true] at hc
    have hg := (g41_eq z0 f0 z1 f1 z2 f2 z f k0 k1 k2 b kd fr to wh wn cd cu ve co ad au su er hc.1 hc.2.1 hc.2.2.1 hc.2.2.2 k).trans hr
    exact fn_at tabOk F41_ok mixed fo41 bo41 (an41 (r41_1 1010)) [] 0 13 (ia41 1010) hl rfl ((e41 1010 z0 f0 k0 z1 f1 k1 z2 f2 k2 kd fr to wh wn cd cu ve co ad au su er z f b k).trans hg)
  · cases hr
end Go.Proofs.Ytcklhipdldpkhaa.Rx

/- What comitia/comitialaw16.WireTurned computes. Own work, printed by a program of the worker's own. -/
namespace Go.Proofs.Ytcklhipdldpkhaa.Rx
open Go
set_option linter.unusedVariables false
set_option maxRecDepth 100000
set_option maxHeartbeats 0
noncomputable def F10 : Fns := addF 41 s41' (addF 38 s38' (addF 37 s37' (addF 35 s35' (addF 33 s33' (addF 32 s32' (addF 31 s31' (addF 21 s21' (F0))))))))
theorem F10_ok : FnsOk tau Try.prog F10 := ((((((((F0_ok).add ok21' en21).add ok31' en31).add ok32' en32).add ok33' en33).add ok35' en35).add ok37' en37).add ok38' en38).add ok41' en41
def an10 : An := (.seq .leaf (.seq (.seq .leaf (.cond (.seq .leaf .leaf) .leaf)) (.seq (.seq .leaf (.cond (.seq .leaf .leaf) .leaf)) (.seq .leaf (.seq .leaf (.seq (.seq .leaf (.cond (.seq .leaf .leaf) .leaf)) (.seq .leaf (.seq .leaf (.seq .leaf (.seq .leaf .leaf))))))))))
noncomputable abbrev q10_1 (m_Kind : Int) (m_From : Int) (m_To : Int) (m_W_Host : Int) (m_W_N : Int) (m_Creator_D : Int) (m_Creator_U : Int) (m_Version : Int) (m_Commit : Int) (m_Author_D : Int) (m_Author_U : Int) (m_Sub : Int) (m_Err : Int) (m_Body : List PV) := (wB (WM.mk [.ro 5 false false (kb 0 []), .ro 5 false false (kb 1 []), .ro 5 false false (kb 2 [])] (gcOf (C13.mk m_Kind m_From m_To m_W_Host m_W_N m_Creator_D m_Creator_U m_Version m_Commit m_Author_D m_Author_U m_Sub m_Err)) (gB m_Body)))
noncomputable abbrev q10_0 (m_Kind : Int) (m_From : Int) (m_To : Int) (m_W_Host : Int) (m_W_N : Int) (m_Creator_D : Int) (m_Creator_U : Int) (m_Version : Int) (m_Commit : Int) (m_Author_D : Int) (m_Author_U : Int) (m_Sub : Int) (m_Err : Int) (m_Body : List PV) (at1 : Int) (by1 : Int) := ((pu IntKind.u8 (q10_1 m_Kind m_From m_To m_W_Host m_W_N m_Creator_D m_Creator_U m_Version m_Commit m_Author_D m_Author_U m_Sub m_Err m_Body)).set (0 + (at1 % zi (q10_1 m_Kind m_From m_To m_W_Host m_W_N m_Creator_D m_Creator_U m_Version m_Commit m_Author_D m_Author_U m_Sub m_Err m_Body).length).toNat) (.sc (.int .u8 (IntKind.u8.wrap ((getP ((pu IntKind.u8 (q10_1 m_Kind m_From m_To m_W_Host m_W_N m_Creator_D m_Creator_U m_Version m_Commit m_Author_D m_Author_U m_Sub m_Err m_Body)).getD (0 + (at1 % zi (q10_1 m_Kind m_From m_To m_W_Host m_W_N m_Creator_D m_Creator_U m_Version m_Commit m_Author_D m_Author_U m_Sub m_Err m_Body).length).toNat) PV.top) []).int + by1)))))
noncomputable def g10 (f : Nat) (m_Kind : Int) (m_From : Int) (m_To : Int) (m_W_Host : Int) (m_W_N : Int) (m_Creator_D : Int) (m_Creator_U : Int) (m_Version : Int) (m_Commit : Int) (m_Author_D : Int) (m_Author_U : Int) (m_Sub : Int) (m_Err : Int) (m_Body_z : Bool) (m_Body_f : Bool) (m_Body : List PV) (at1 : Int) (by1 : Int) (k : Res → Option Res) : Option Res := bif m_Body.all (PV.isRo 5) && m_Body.length.ble 9223372036854775807 then bif !fewB m_Body then k (Res.mk (.sc (.bool true)) [] []) else bif by1 == 0 then k (Res.mk (.sc (.bool true)) [] []) else bif rOk (gB m_Body) && (kOk (kb 0 []) && (kOk (kb 1 []) && kOk (kb 2 []))) then bif zi (q10_1 m_Kind m_From m_To m_W_Host m_W_N m_Creator_D m_Creator_U m_Version m_Commit m_Author_D m_Author_U m_Sub m_Err m_Body).length == 0 then k (Res.mk (.sc (.bool false)) [] []) else bif okW (zi (q10_1 m_Kind m_From m_To m_W_Host m_W_N m_Creator_D m_Creator_U m_Version m_Commit m_Author_D m_Author_U m_Sub m_Err m_Body).length) then bif decide (0 ≤ at1 % zi (q10_1 m_Kind m_From m_To m_W_Host m_W_N m_Creator_D m_Creator_U m_Version m_Commit m_Author_D m_Author_U m_Sub m_Err m_Body).length) && decide (at1 % zi (q10_1 m_Kind m_From m_To m_W_Host m_W_N m_Creator_D m_Creator_U m_Version m_Commit m_Author_D m_Author_U m_Sub m_Err m_Body).length < zi (q10_1 m_Kind m_From m_To m_W_Host m_W_N m_Creator_D m_Creator_U m_Version m_Commit m_Author_D m_Author_U m_Sub m_Err m_Body).length) && true then bif PV.isInt IntKind.u8 (getP ((pu IntKind.u8 (q10_1 m_Kind m_From m_To m_W_Host m_W_N m_Creator_D m_Creator_U m_Version m_Commit m_Author_D m_Author_U m_Sub m_Err m_Body)).getD (0 + (at1 % zi (q10_1 m_Kind m_From m_To m_W_Host m_W_N m_Creator_D m_Creator_U m_Version m_Commit m_Author_D m_Author_U m_Sub m_Err m_Body).length).toNat) PV.top) []) && true then bif decide (0 ≤ at1 % zi (q10_1 m_Kind m_From m_To m_W_Host m_W_N m_Creator_D m_Creator_U m_Version m_Commit m_Author_D m_Author_U m_Sub m_Err m_Body).length) && decide (at1 % zi (q10_1 m_Kind m_From m_To m_W_Host m_W_N m_Creator_D m_Creator_U m_Version m_Commit m_Author_D m_Author_U m_Sub m_Err m_Body).length < zi (q10_1 m_Kind m_From m_To m_W_Host m_W_N m_Creator_D m_Creator_U m_Version m_Commit m_Author_D m_Author_U m_Sub m_Err m_Body).length) && true then bif slB (Ent.vec false 5 false (q10_0 m_Kind m_From m_To m_W_Host m_W_N m_Creator_D m_Creator_U m_Version m_Commit m_Author_D m_Author_U m_Sub m_Err m_Body at1 by1)).nil (List.take (q10_1 m_Kind m_From m_To m_W_Host m_W_N m_Creator_D m_Creator_U m_Version m_Commit m_Author_D m_Author_U m_Sub m_Err m_Body).length (List.drop 0 (q10_0 m_Kind m_From m_To m_W_Host m_W_N m_Creator_D m_Creator_U m_Version m_Commit m_Author_D m_Author_U m_Sub m_Err m_Body at1 by1))) && byB (List.take (q10_1 m_Kind m_From m_To m_W_Host m_W_N m_Creator_D m_Creator_U m_Version m_Commit m_Author_D m_Author_U m_Sub m_Err m_Body).length (q10_0 m_Kind m_From m_To m_W_Host m_W_N m_Creator_D m_Creator_U m_Version m_Commit m_Author_D m_Author_U m_Sub m_Err m_Body at1 by1)) && (kOk (kb 0 []) && (kOk (kb 1 []) && kOk (kb 2 []))) then bif byB (List.take (q10_1 m_Kind m_From m_To m_W_Host m_W_N m_Creator_D m_Creator_U m_Version m_Commit m_Author_D m_Author_U m_Sub m_Err m_Body).length (q10_0 m_Kind m_From m_To m_W_Host m_W_N m_Creator_D m_Creator_U m_Version m_Commit m_Author_D m_Author_U m_Sub m_Err m_Body at1 by1)) && (kOk (kb 0 []) && (kOk (kb 1 []) && kOk (kb 2 []))) then bif parE (PA.mk [.ro 5 false false (kb 0 []), .ro 5 false false (kb 1 []), .ro 5 false false (kb 2 [])] (List.take (q10_1 m_Kind m_From m_To m_W_Host m_W_N m_Creator_D m_Creator_U m_Version m_Commit m_Author_D m_Author_U m_Sub m_Err m_Body).length (q10_0 m_Kind m_From m_To m_W_Host m_W_N m_Creator_D m_Creator_U m_Version m_Commit m_Author_D m_Author_U m_Sub m_Err m_Body at1 by1))) == parE (PA.mk [.ro 5 false false (kb 0 []), .ro 5 false false (kb 1 []), .ro 5 false false (kb 2 [])] (List.take (q10_1 m_Kind m_From m_To m_W_Host m_W_N m_Creator_D m_Creator_U m_Version m_Commit m_Author_D m_Author_U m_Sub m_Err m_Body).length (q10_0 m_Kind m_From m_To m_W_Host m_W_N m_Creator_D m_Creator_U m_Version m_Commit m_Author_D m_Author_U m_Sub m_Err m_Body at1 by1))) then bif parE (PA.mk [.ro 5 false false (kb 0 []), .ro 5 false false (kb 1 []), .ro 5 false false (kb 2 [])] (List.take (q10_1 m_Kind m_From m_To m_W_Host m_W_N m_Creator_D m_Creator_U m_Version m_Commit m_Author_D m_Author_U m_Sub m_Err m_Body).length (q10_0 m_Kind m_From m_To m_W_Host m_W_N m_Creator_D m_Creator_U m_Version m_Commit m_Author_D m_Author_U m_Sub m_Err m_Body at1 by1))) != 0 then k (Res.mk (.sc (.bool true)) [] []) else k (Res.mk (.sc (.bool (parE (PA.mk [.ro 5 false false (kb 0 []), .ro 5 false false (kb 1 []), .ro 5 false false (kb 2 [])] (List.take (q10_1 m_Kind m_From m_To m_W_Host m_W_N m_Creator_D m_Creator_U m_Version m_Commit m_Author_D m_Author_U m_Sub m_Err m_Body).length (q10_0 m_Kind m_From m_To m_W_Host m_W_N m_Creator_D m_Creator_U m_Version m_Commit m_Author_D m_Author_U m_Sub m_Err m_Body at1 by1))) == 0))) [] []) else none else none else none else none else none else none else none else none else none
theorem e10 (f : Nat) (m_Kind : Int) (m_From : Int) (m_To : Int) (m_W_Host : Int) (m_W_N : Int) (m_Creator_D : Int) (m_Creator_U : Int) (m_Version : Int) (m_Commit : Int) (m_Author_D : Int) (m_Author_U : Int) (m_Sub : Int) (m_Err : Int) (m_Body_z : Bool) (m_Body_f : Bool) (m_Body : List PV) (at1 : Int) (by1 : Int) (k : Res → Option Res) : evFn tau F10 Try.f10 (Try.f10.body.get!) an10 [.ro] 0 [.st 54 [.sc (.int .i64 m_Kind), .sc (.int .i64 m_From), .sc (.int .i64 m_To), .st 34 [.sc (.int .i64 m_W_Host), .sc (.int .i64 m_W_N)], .st 45 [.sc (.int .i64 m_Creator_D), .sc (.int .i64 m_Creator_U)], .sc (.int .i64 m_Version), .sc (.int .i64 m_Commit), .st 45 [.sc (.int .i64 m_Author_D), .sc (.int .i64 m_Author_U)], .sc (.int .i64 m_Sub), .sc (.int .i64 m_Err), .ro 29 m_Body_z m_Body_f m_Body], .sc (.int .i64 at1), .sc (.int .u8 by1)] [] k = g10 f m_Kind m_From m_To m_W_Host m_W_N m_Creator_D m_Creator_U m_Version m_Commit m_Author_D m_Author_U m_Sub m_Err m_Body_z m_Body_f m_Body at1 by1 k := by kernel_rfl
theorem it10 (f : Nat) : items (Try.f10.body.get!) an10 = [] := by kernel_rfl
theorem ia10 (f : Nat) : ∀ q ∈ items (Try.f10.body.get!) an10, q.Ok tau Try.prog 0 := by
  rw [it10 f]; intro q hq; cases hq
theorem fo10 : Try.prog.funcs[10]? = some Try.f10 := by kernel_rfl
theorem bo10 : Try.f10.body = some (Try.f10.body.get!) := by kernel_rfl
end Go.Proofs.Ytcklhipdldpkhaa.Rx

/- What its type says of a message that is handed in. Own work. -/
namespace Go.Proofs.Ytcklhipdldpkhaa.Rx
open Go
set_option linter.unusedVariables false
set_option linter.unusedSimpArgs false
set_option maxRecDepth 100000
noncomputable def fldsOf (T : TypeId) : List TypeId := match tau.und T with | some (.struct fds) => fds.toList.map (·.type) | _ => []
theorem tyL_of {τ : Tab} {n : Nat} : ∀ (ts : List TypeId) (ps : List PV), ts.length = ps.length → (∀ (i : Nat) (t : TypeId) (q : PV), ts[i]? = some t → ps[i]? = some q → Ty τ n t q) → TyL τ n ts ps
  | [], [], _, _ => trivial
  | t :: ts, p :: ps, hl, h => ⟨h 0 t p rfl rfl, tyL_of ts ps (by simpa using hl) fun i t q h1 h2 => h (i + 1) t q (by simpa using h1) (by simpa using h2)⟩
  | [], _ :: _, hl, _ => by simp at hl
  | _ :: _, [], hl, _ => by simp at hl
theorem tyL_cons {τ : Tab} {n : Nat} {t : TypeId} {ts : List TypeId} {ps : List PV} (h : TyL τ n (t :: ts) ps) : ∃ p r, ps = p :: r ∧ Ty τ n t p ∧ TyL τ n ts r := by
  cases ps with
  | nil => exact h.elim
  | cons p r => exact ⟨p, r, rfl, h.1, h.2⟩
theorem tyL_nil {τ : Tab} {n : Nat} {ps : List PV} (h : TyL τ n [] ps) : ps = [] := by
  cases ps with
  | nil => rfl
  | cons p r => exact h.elim
theorem ty_fields {n : Nat} {T : TypeId} {tys : List TypeId} {p : PV} (hc : fldsOf T = tys) (hne : tys ≠ []) (h : Ty tau (n + 1) T p) : ∃ fs, p = .st T fs ∧ TyL tau n tys fs := by
  unfold fldsOf at hc
  split at hc
  · rename_i fds hu
    obtain ⟨fs, rfl, hl, hf⟩ := ty_struct hu h
    refine ⟨fs, rfl, tyL_of tys fs (by rw [← hc]; simpa using hl.symm) fun i t q h1 h2 => ?_⟩
    rw [← hc, List.getElem?_map] at h1
    rw [Array.getElem?_toList] at h1
    cases hfi : fds[i]? with
    | none => rw [hfi] at h1; cases h1
    | some f =>
      rw [hfi] at h1
      obtain rfl := Option.some.inj h1
      exact hf i f q hfi h2
  · exact absurd hc.symm hne
theorem ty_i64 {n : Nat} {p : PV} (h : Ty tau (n + 1) 3 p) : ∃ x, p = .sc (.int .i64 x) ∧ i64B x = true := by
  have u : tau.und 3 = some (.int .i64) := by kernel_rfl
  obtain ⟨x, rfl, hx⟩ := ty_int u h
  refine ⟨x, rfl, ?_⟩
  have e1 : IntKind.i64.min = -9223372036854775808 := rfl
  have e2 : IntKind.i64.max = 9223372036854775807 := rfl
  simp only [Lit.wf, e1, e2, Bool.and_eq_true, decide_eq_true_eq] at hx
  simp only [i64B, Bool.and_eq_true, decide_eq_true_eq]
  omega
theorem ty_two {n : Nat} {T : TypeId} {p : PV} (hc : fldsOf T = [3, 3]) (h : Ty tau (n + 2) T p) : ∃ x y, p = .st T [.sc (.int .i64 x), .sc (.int .i64 y)] := by
  obtain ⟨fs, rfl, hf⟩ := ty_fields (n := n + 1) hc (List.cons_ne_nil _ _) h
  obtain ⟨p, q, rfl, h1, h2⟩ := tyL2 hf
  obtain ⟨x, rfl, _⟩ := ty_i64 h1
  obtain ⟨y, rfl, _⟩ := ty_i64 h2
  exact ⟨x, y, rfl⟩
theorem ty_bodies {n : Nat} {p : PV} (h : Ty tau (n + 3) 47 p) : ∃ z b, p = .ro 29 z false b ∧ (z = true → b = []) ∧ b.length ≤ maxLen ∧ b.all (PV.isRo 5) = true ∧ allInt .u8 (flat b) = true := by
  have u : tau.und 47 = some (.slice 29) := by kernel_rfl
  obtain ⟨z, b, rfl, hz, hl, hb⟩ := ty_slice u h
  obtain ⟨r1, r2⟩ := ty_rows b hb
  exact ⟨z, b, rfl, hz, hl, r1, r2⟩
theorem ty_msg {n : Nat} {p : PV} (h : Ty tau (n + 4) 54 p) : ∃ kd fr to wh wn cd cu ve co ad au su er z b,
    p = .st 54 [.sc (.int .i64 kd), .sc (.int .i64 fr), .sc (.int .i64 to), .st 34 [.sc (.int .i64 wh), .sc (.int .i64 wn)], .st 45 [.sc (.int .i64 cd), .sc (.int .i64 cu)], .sc (.int .i64 ve), .sc (.int .i64 co), .st 45 [.sc (.int .i64 ad), .sc (.int .i64 au)], .sc (.int .i64 su), .sc (.int .i64 er), .ro 29 z false b] ∧
    b.all (PV.isRo 5) = true ∧ allInt .u8 (flat b) = true ∧ b.length ≤ maxLen ∧ (z = true → b = []) := by
  have c1 : fldsOf 54 = [3, 3, 3, 34, 45, 3, 3, 45, 3, 3, 47] := by kernel_rfl
  have c2 : fldsOf 34 = [3, 3] := by kernel_rfl
  have c3 : fldsOf 45 = [3, 3] := by kernel_rfl
  obtain ⟨fs, rfl, hf⟩ := ty_fields (n := n + 3) c1 (List.cons_ne_nil _ _) h
  obtain ⟨p0, fs, rfl, h0, hf⟩ := tyL_cons hf
  obtain ⟨p1, fs, rfl, h1, hf⟩ := tyL_cons hf
  obtain ⟨p2, fs, rfl, h2, hf⟩ := tyL_cons hf
  obtain ⟨p3, fs, rfl, h3, hf⟩ := tyL_cons hf
  obtain ⟨p4, fs, rfl, h4, hf⟩ := tyL_cons hf
  obtain ⟨p5, fs, rfl, h5, hf⟩ := tyL_cons hf
  obtain ⟨p6, fs, rfl, h6, hf⟩ := tyL_cons hf
  obtain ⟨p7, fs, rfl, h7, hf⟩ := tyL_cons hf
  obtain ⟨p8, fs, rfl, h8, hf⟩ := tyL_cons hf
  obtain ⟨p9, fs, rfl, h9, hf⟩ := tyL_cons hf
  obtain ⟨p10, fs, rfl, h10, hf⟩ := tyL_cons hf
  obtain rfl := tyL_nil hf
  obtain ⟨kd, rfl, _⟩ := ty_i64 h0
  obtain ⟨fr, rfl, _⟩ := ty_i64 h1
  obtain ⟨to, rfl, _⟩ := ty_i64 h2
  obtain ⟨wh, wn, rfl⟩ := ty_two c2 h3
  obtain ⟨cd, cu, rfl⟩ := ty_two c3 h4
  obtain ⟨ve, rfl, _⟩ := ty_i64 h5
  obtain ⟨co, rfl, _⟩ := ty_i64 h6
  obtain ⟨ad, au, rfl⟩ := ty_two c3 h7
  obtain ⟨su, rfl, _⟩ := ty_i64 h8
  obtain ⟨er, rfl, _⟩ := ty_i64 h9
  obtain ⟨z, b, rfl, hz, hl, r1, r2⟩ := ty_bodies h10
  exact ⟨kd, fr, to, wh, wn, cd, cu, ve, co, ad, au, su, er, z, b, rfl, r1, r2, hl, hz⟩
theorem few_rOk {l : List PV} (h1 : l.all (PV.isRo 5) = true) (h2 : allInt .u8 (flat l) = true) (h : fewB l = true) : rOk (gB l) = true := by
  rw [fewB_eq, Bool.and_eq_true, decide_eq_true_eq] at h
  rw [gB_eq]
  refine rOk_iff.2 ⟨?_, ?_, fun p hp => ?_, by simp; omega⟩
  · exact List.all_eq_true.2 fun p hp => List.all_eq_true.1 h1 p (List.mem_of_mem_take hp)
  · have : flat l = flat (l.take 4) ++ flat (l.drop 4) := by rw [← flat_append, List.take_append_drop]
    rw [this, allInt_append, Bool.and_eq_true] at h2
    exact h2.1
  · have := List.all_eq_true.1 h.1 p (List.mem_of_mem_take hp)
    have : p.els.length ≤ 200 := by simpa using this
    omega
theorem few_small {l : List PV} (h : fewB l = true) : (∀ p ∈ gB l, p.els.length ≤ 200) ∧ (gB l).length ≤ 4 := by
  rw [fewB_eq, Bool.and_eq_true, decide_eq_true_eq] at h
  rw [gB_eq]
  refine ⟨fun p hp => ?_, by simp; omega⟩
  have := List.all_eq_true.1 h.1 p (List.mem_of_mem_take hp)
  simpa using this
end Go.Proofs.Ytcklhipdldpkhaa.Rx

/- What a message's bytes are read as. Own work. -/
namespace Go.Proofs.Ytcklhipdldpkhaa.Rx
open Go
set_option linter.unusedVariables false
set_option linter.unusedSimpArgs false
set_option maxRecDepth 100000
set_option maxHeartbeats 1000000
theorem sumP_by (bs : List Int) : ∀ x ∈ sumP bs, 0 ≤ x ∧ x < 256 := by
  intro x hx
  rw [sumP_eq] at hx
  obtain ⟨i, _, rfl⟩ := List.mem_map.1 hx
  exact wrap_by _
theorem macP_by (k t : List Int) : ∀ x ∈ macP k t, 0 ≤ x ∧ x < 256 := by rw [macP_eq]; exact sumP_by _
theorem wB_all (w : WM) : ∀ x ∈ wB w, 0 ≤ x ∧ x < 256 := by
  intro x hx
  rw [wB_eq] at hx
  rcases List.mem_append.1 hx with h | h
  · exact wB_by w x h
  · exact macP_by _ _ x h
theorem kOk0 (i : Nat) : kOk (kb i []) = true := kb_ok i rfl
theorem wB0_few {w : WM} (h1 : ∀ p ∈ w.b, p.els.length ≤ 200) (h2 : w.b.length ≤ 4) : (wB0 w).length ≤ 8160 := by
  have := textsB_len 200 (w.b.map txB) (txs_small h1)
  rw [List.length_map] at this
  have h5 : w.b.length * 202 ≤ 4 * 202 := Nat.mul_le_mul_right _ h2
  rw [wB0_length]; omega
end Go.Proofs.Ytcklhipdldpkhaa.Rx

-- FN law16.WireTurned
/- WireTurned: a message of which one byte was turned is none, unless the document says that it is. Own work. -/
namespace Go.Proofs.Ytcklhipdldpkhaa.Rx
open Go
set_option linter.unusedVariables false
set_option linter.unusedSimpArgs false
set_option maxRecDepth 100000
set_option maxHeartbeats 2000000
theorem g10_true (kd fr to wh wn cd cu ve co ad au su er : Int) (z f : Bool) (b : List PV) (at1 by1 : Int) (h1 : b.all (PV.isRo 5) = true) (h2 : allInt .u8 (flat b) = true) (h3 : b.length ≤ 9223372036854775807) (k : Res → Option Res) : g10 0 kd fr to wh wn cd cu ve co ad au su er z f b at1 by1 k = k ⟨.sc (.bool true), [], []⟩ := by
  unfold g10
  refine (bif_t (by rw [h1, Bool.true_and, Nat.ble_eq]; exact h3)).trans ?_
  cases hf : fewB b with
  | false => rfl
  | true =>
    have hr := few_rOk h1 h2 hf
    obtain ⟨q1, q2⟩ := few_small hf
    refine (bif_f rfl).trans ?_
    cases hby : (by1 == 0) with
    | true => rfl
    | false =>
    refine (bif_f rfl).trans ((bif_t (by rw [hr, kOk0, kOk0, kOk0]; rfl)).trans ?_)
    have hl1 : (q10_1 kd fr to wh wn cd cu ve co ad au su er b).length = (wB0 ⟨[.ro 5 false false (kb 0 []), .ro 5 false false (kb 1 []), .ro 5 false false (kb 2 [])], ⟨goodF 0 ⟨kd, fr, to, wh, wn, cd, cu, ve, co, ad, au, su, er⟩, goodF 1 ⟨kd, fr, to, wh, wn, cd, cu, ve, co, ad, au, su, er⟩, goodF 2 ⟨kd, fr, to, wh, wn, cd, cu, ve, co, ad, au, su, er⟩, goodF 3 ⟨kd, fr, to, wh, wn, cd, cu, ve, co, ad, au, su, er⟩, goodF 4 ⟨kd, fr, to, wh, wn, cd, cu, ve, co, ad, au, su, er⟩, goodF 5 ⟨kd, fr, to, wh, wn, cd, cu, ve, co, ad, au, su, er⟩, goodF 6 ⟨kd, fr, to, wh, wn, cd, cu, ve, co, ad, au, su, er⟩, goodF 7 ⟨kd, fr, to, wh, wn, cd, cu, ve, co, ad, au, su, er⟩, goodF 8 ⟨kd, fr, to, wh, wn, cd, cu, ve, co, ad, au, su, er⟩, goodF 9 ⟨kd, fr, to, wh, wn, cd, cu, ve, co, ad, au, su, er⟩, goodF 10 ⟨kd, fr, to, wh, wn, cd, cu, ve, co, ad, au, su, er⟩, goodF 11 ⟨kd, fr, to, wh, wn, cd, cu, ve, co, ad, au, su, er⟩, goodF 12 ⟨kd, fr, to, wh, wn, cd, cu, ve, co, ad, au, su, er⟩⟩, gB b⟩).length + 32 := wB_length _
    have hl2 := wB0_few (w := ⟨[.ro 5 false false (kb 0 []), .ro 5 false false (kb 1 []), .ro 5 false false (kb 2 [])], ⟨goodF 0 ⟨kd, fr, to, wh, wn, cd, cu, ve, co, ad, au, su, er⟩, goodF 1 ⟨kd, fr, to, wh, wn, cd, cu, ve, co, ad, au, su, er⟩, goodF 2 ⟨kd, fr, to, wh, wn, cd, cu, ve, co, ad, au, su, er⟩, goodF 3 ⟨kd, fr, to, wh, wn, cd, cu, ve, co, ad, au, su, er⟩, goodF 4 ⟨kd, fr, to, wh, wn, cd, cu, ve, co, ad, au, su, er⟩, goodF 5 ⟨kd, fr, to, wh, wn, cd, cu, ve, co, ad, au, su, er⟩, goodF 6 ⟨kd, fr, to, wh, wn, cd, cu, ve, co, ad, au, su, er⟩, goodF 7 ⟨kd, fr, to, wh, wn, cd, cu, ve, co, ad, au, su, er⟩, goodF 8 ⟨kd, fr, to, wh, wn, cd, cu, ve, co, ad, au, su, er⟩, goodF 9 ⟨kd, fr, to, wh, wn, cd, cu, ve, co, ad, au, su, er⟩, goodF 10 ⟨kd, fr, to, wh, wn, cd, cu, ve, co, ad, au, su, er⟩, goodF 11 ⟨kd, fr, to, wh, wn, cd, cu, ve, co, ad, au, su, er⟩, goodF 12 ⟨kd, fr, to, wh, wn, cd, cu, ve, co, ad, au, su, er⟩⟩, gB b⟩) q1 q2
    have hall : ∀ x ∈ q10_1 kd fr to wh wn cd cu ve co ad au su er b, 0 ≤ x ∧ x < 256 := wB_all _
    have e0 := Int.emod_nonneg at1 (show ((q10_1 kd fr to wh wn cd cu ve co ad au su er b).length : Int) ≠ 0 by omega)
    have e1 := Int.emod_lt_of_pos at1 (show (0 : Int) < ((q10_1 kd fr to wh wn cd cu ve co ad au su er b).length : Int) by omega)
    obtain ⟨j, hj⟩ := Int.eq_ofNat_of_zero_le e0
    rw [hj] at e1
    have hjL : j < (q10_1 kd fr to wh wn cd cu ve co ad au su er b).length := by omega
    have hX : q10_0 kd fr to wh wn cd cu ve co ad au su er b at1 by1 = pu .u8 ((q10_1 kd fr to wh wn cd cu ve co ad au su er b).set j (IntKind.u8.wrap ((q10_1 kd fr to wh wn cd cu ve co ad au su er b).getD j 0 + by1))) := by
      show (pu .u8 (q10_1 kd fr to wh wn cd cu ve co ad au su er b)).set (0 + (at1 % zi (q10_1 kd fr to wh wn cd cu ve co ad au su er b).length).toNat) (.sc (.int .u8 (IntKind.u8.wrap ((getP ((pu .u8 (q10_1 kd fr to wh wn cd cu ve co ad au su er b)).getD (0 + (at1 % zi (q10_1 kd fr to wh wn cd cu ve co ad au su er b).length).toNat) .top) []).int + by1)))) = _
      simp only [zi, hj, Int.toNat_natCast, Nat.zero_add, getP, pu_set, pu_int hjL]
    rw [hX]
    clear hX
    generalize q10_1 kd fr to wh wn cd cu ve co ad au su er b = W at *
    refine (bif_f (by simp only [zi, beq_eq_false_iff_ne]; omega)).trans ((bif_t (by rw [okW_eq]; simp only [zi, Bool.and_eq_true, decide_eq_true_eq]; omega)).trans ?_)
    have hbd : (decide ((0 : Int) ≤ (j : Int)) && decide ((j : Int) < (W.length : Int)) && true) = true := by simp; omega
    simp only [zi, hj, Int.toNat_natCast, Nat.zero_add, getP]
    refine (bif_t hbd).trans ((bif_t (by rw [pu_isInt hjL]; rfl)).trans ((bif_t hbd).trans ?_))
    have hall2 : ∀ x ∈ W.set j (IntKind.u8.wrap (W.getD j 0 + by1)), 0 ≤ x ∧ x < 256 := by
      intro x hx
      rcases List.mem_or_eq_of_mem_set hx with h | h
      · exact hall x h
      · rw [h]; exact wrap_by _
    have hlen : (W.set j (IntKind.u8.wrap (W.getD j 0 + by1))).length = W.length := List.length_set
    generalize W.set j (IntKind.u8.wrap (W.getD j 0 + by1)) = X at *
    have htk : List.take W.length (pu .u8 X) = pu .u8 X := List.take_of_length_le (by simp; omega)
    simp only [htk, List.drop_zero]
    have hb : byB (pu .u8 X) = true := byB_pu.2 hall2
    refine (bif_t (by rw [hb, kOk0, kOk0, kOk0]; rw [show slB (Ent.vec false 5 false (pu .u8 X)).nil (pu .u8 X) = true from slB_iff.2 ⟨fun h => (by cases h), by simp; omega⟩]; rfl)).trans ((bif_t (by rw [hb, kOk0, kOk0, kOk0]; rfl)).trans ((bif_t (by simp)).trans ?_))
    generalize parE ⟨[.ro 5 false false (kb 0 []), .ro 5 false false (kb 1 []), .ro 5 false false (kb 2 [])], pu .u8 X⟩ = E
    cases hE : (E == 0) with
    | true => exact bif_f (by simp only [bne, hE]; rfl)
    | false => exact bif_t (by simp only [bne, hE]; rfl)
noncomputable def run10' : List PV → List Ent → (Res → Option Res) → Option Res
  | [.st 54 [.sc (.int .i64 kd), .sc (.int .i64 fr), .sc (.int .i64 to), .st 34 [.sc (.int .i64 wh), .sc (.int .i64 wn)], .st 45 [.sc (.int .i64 cd), .sc (.int .i64 cu)], .sc (.int .i64 ve), .sc (.int .i64 co), .st 45 [.sc (.int .i64 ad), .sc (.int .i64 au)], .sc (.int .i64 su), .sc (.int .i64 er), .ro 29 z f b], .sc (.int .i64 at1), .sc (.int .u8 by1)], [], k => bif b.all (PV.isRo 5) && (allInt .u8 (flat b) && decide (b.length ≤ 9223372036854775807)) then k ⟨.sc (.bool true), [], []⟩ else none
  | _, _, _ => none
noncomputable def s10' : Sig := { own := [], run := run10' }
theorem ok10' : CallOk tau Try.prog 10 s10' := CallOk.mk' fun xs es k res hl hr => by
  change run10' xs es k = some res at hr
  unfold run10' at hr
  split at hr
  · rename_i kd fr to wh wn cd cu ve co ad au su er z f b at1 by1
    obtain ⟨hc, hr⟩ := of_bif hr
    simp only [Bool.and_eq_true, decide_eq_true_eq] at hc
    exact fn_at tabOk F10_ok mixed fo10 bo10 an10 [.ro] 0 0 (ia10 0) hl rfl ((e10 0 kd fr to wh wn cd cu ve co ad au su er z f b at1 by1 k).trans ((g10_true kd fr to wh wn cd cu ve co ad au su er z f b at1 by1 hc.1 hc.2.1 hc.2.2 k).trans hr))
  · cases hr
theorem run10_true : ∀ pvs, TyL tau 4 [54, 3, 5] pvs → s10'.run pvs [] some = some ⟨.sc (.bool true), [], []⟩ := by
  intro pvs h
  obtain ⟨p, q, r, rfl, h1, h2, h3⟩ := tyL3 h
  have u2 : tau.und 5 = some (.int .u8) := by kernel_rfl
  obtain ⟨kd, fr, to, wh, wn, cd, cu, ve, co, ad, au, su, er, z, b, rfl, r1, r2, r3, _⟩ := ty_msg (n := 0) h1
  obtain ⟨x, rfl, _⟩ := ty_i64 h2
  obtain ⟨y, rfl, _⟩ := ty_int u2 h3
  have hm : maxLen ≤ 9223372036854775807 := by decide
  exact bif_t (by rw [r1, r2, decide_eq_true (Nat.le_trans r3 hm)]; rfl)
end Go.Proofs.Ytcklhipdldpkhaa.Rx
