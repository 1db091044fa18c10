/- What the functions of this law compute, and their plain laws. Conditions: none. -/
import Derived.Test.YtcklhipdldpkhaaWireKeysP3
/- What comitia/comitiaref2.Sum computes. Own work, printed by a program of the worker's own. -/
namespace Go.Proofs.Ytcklhipdldpkhaa.Rx
open Go
set_option linter.unusedVariables false
set_option maxRecDepth 100000
set_option maxHeartbeats 0
def N28 : Nat := 278
noncomputable def F28 : Fns := addF 72 s72 (addF 73 s73' F0)
theorem F28_ok : FnsOk tau Try.prog F28 := (F0_ok.add ok73' en73).add ok72 en72
noncomputable def c28_0 : Code := subC (Try.f28.body.get!) [1, 1, 1, 1, 1, 0, 0, 0]
def nm28_0 : Nm := [(0, .any), (2, .any), (3, .any), (4, .any), (5, .any)]
def nx28_0 : Nm := [(0, .any), (2, .any), (3, .any), (4, .any), (5, .any)]
def x28_0 : An := (.seq (.seq .leaf (.cond .leaf .leaf)) (.block none .leaf))
noncomputable def c28_1 : Code := subC (Try.f28.body.get!) [1, 1, 1, 1, 1, 1, 1, 0, 1, 0, 0]
def nm28_1 : Nm := [(2, .any), (3, .any), (4, .any), (5, .any), (6, .any), (7, .any)]
def nx28_1 : Nm := [(2, .any), (3, .any), (4, .any), (5, .any)]
def x28_1 : An := (.seq (.seq .leaf (.cond .leaf .leaf)) (.seq (.block none .leaf) .leaf))
noncomputable def c28_3 : Code := subC (Try.f28.body.get!) [1, 1, 1, 1, 1, 1, 1, 1, 1, 0, 1, 0, 0, 1, 0, 0, 0, 1, 0, 0]
def nm28_3 : Nm := [(2, .any), (3, .any), (4, .any), (5, .any), (8, .any), (9, .any), (10, .any)]
def nx28_3 : Nm := [(2, .any), (3, .any), (4, .any), (5, .any), (8, .any), (9, .any)]
def x28_3 : An := (.seq (.seq .leaf (.cond .leaf .leaf)) (.seq (.block none (.seq .leaf .leaf)) .leaf))
noncomputable def c28_4 : Code := subC (Try.f28.body.get!) [1, 1, 1, 1, 1, 1, 1, 1, 1, 0, 1, 0, 0, 1, 0, 0, 1, 0, 1, 0, 0]
def nm28_4 : Nm := [(2, .any), (3, .any), (4, .any), (5, .any), (8, .any), (9, .any), (12, .any)]
def nx28_4 : Nm := [(2, .any), (3, .any), (4, .any), (5, .any), (8, .any), (9, .any)]
def x28_4 : An := (.seq (.seq .leaf (.cond .leaf .leaf)) (.seq (.block none (.seq .leaf .leaf)) .leaf))
noncomputable def c28_5 : Code := subC (Try.f28.body.get!) [1, 1, 1, 1, 1, 1, 1, 1, 1, 0, 1, 0, 0, 1, 0, 0, 1, 1, 1, 0, 1, 0, 0]
def nm28_5 : Nm := [(2, .any), (3, .any), (4, .any), (5, .any), (8, .any), (9, .any), (15, .any), (16, .any)]
def nx28_5 : Nm := [(2, .any), (3, .any), (4, .any), (5, .any), (8, .any), (9, .any), (15, .any)]
def x28_5 : An := (.seq (.seq .leaf (.cond .leaf .leaf)) (.seq (.block none (.seq .leaf (.seq .leaf (.seq .leaf .leaf)))) .leaf))
noncomputable def c28_6 : Code := subC (Try.f28.body.get!) [1, 1, 1, 1, 1, 1, 1, 1, 1, 0, 1, 0, 0, 1, 0, 0, 1, 1, 1, 1, 1, 0, 0]
def nm28_6 : Nm := [(2, .any), (3, .any), (4, .any), (5, .any), (8, .any), (9, .any), (15, .any), (20, .any)]
def nx28_6 : Nm := [(2, .any), (3, .any), (4, .any), (5, .any), (8, .any), (9, .any)]
def x28_6 : An := (.seq (.seq .leaf (.cond .leaf .leaf)) (.seq (.block none .leaf) .leaf))
noncomputable def c28_2 : Code := subC (Try.f28.body.get!) [1, 1, 1, 1, 1, 1, 1, 1, 1, 0, 1, 0, 0]
def nm28_2 : Nm := [(2, .any), (3, .any), (4, .any), (5, .any), (8, .any), (9, .any)]
def nx28_2 : Nm := [(2, .any), (4, .any)]
def x28_2 (r3 : RunL) (r4 : RunL) (r5 : RunL) (r6 : RunL) : An := (.seq (.seq .leaf (.cond .leaf .leaf)) (.seq (.block none (.seq (.seq .leaf (.block none (.sum nm28_3 N28 r3))) (.seq (.seq .leaf (.block none (.sum nm28_4 N28 r4))) (.seq .leaf (.seq (.seq .leaf (.block none (.sum nm28_5 N28 r5))) (.seq .leaf (.block none (.sum nm28_6 N28 r6)))))))) .leaf))
noncomputable def c28_7 : Code := subC (Try.f28.body.get!) [1, 1, 1, 1, 1, 1, 1, 1, 1, 1, 1, 0, 1, 0, 0]
def nm28_7 : Nm := [(2, .any), (4, .any), (21, .any), (22, .any)]
def nx28_7 : Nm := [(2, .any), (21, .any)]
def x28_7 : An := (.seq (.seq .leaf (.cond .leaf .leaf)) (.seq (.block none .leaf) .leaf))
def an28 (r0 : RunL) (r1 : RunL) (r2 : RunL) (r7 : RunL) : An := (.seq .leaf (.seq .leaf (.seq .leaf (.seq .leaf (.seq .leaf (.seq (.block none (.sum nm28_0 N28 r0)) (.seq .leaf (.seq (.seq .leaf (.block none (.sum nm28_1 N28 r1))) (.seq .leaf (.seq (.seq .leaf (.block none (.sum nm28_2 N28 r2))) (.seq .leaf (.seq (.seq .leaf (.block none (.sum nm28_7 N28 r7))) (.seq .leaf .leaf)))))))))))))
def lpS28_0 (f : Nat) (rc : Bool → Bool → List PV → Nat → List PV → List PV → List PV → List PV → Option Res) (k0 : Bool → Bool → List PV → Nat → List PV → List PV → List PV → List PV → Option Res) (v0 : Bool) (v1 : Bool) (v2 : List PV) (v3 : Nat) (v4 : List PV) (v5 : List PV) (v6 : List PV) (v7 : List PV) : Option Res := bif (zi v3).tmod 64 != 56 then bif roomy (v3 + 1) 1 && true then rc v0 v1 v2 (v3 + 1) v4 v5 v6 (List.take v3 v7 ++ [.sc (.int .u8 0)]) else none else k0 v0 v1 v2 v3 v4 v5 v6 v7
def lp28_0 (f : Nat) (k0 : Bool → Bool → List PV → Nat → List PV → List PV → List PV → List PV → Option Res) : Nat → Bool → Bool → List PV → Nat → List PV → List PV → List PV → List PV → Option Res
  | 0, _, _, _, _, _, _, _, _ => none
  | n + 1, v0, v1, v2, v3, v4, v5, v6, v7 => lpS28_0 f (lp28_0 f k0 n) k0 v0 v1 v2 v3 v4 v5 v6 v7
theorem lpR28_0 (f : Nat) (k : Kont) (n : Nat) (v0 : Bool) (v1 : Bool) (v2 : List PV) (v3 : Nat) (v4 : List PV) (v5 : List PV) (v6 : List PV) (v7 : List PV) : evLoop tau 0 nm28_0 (fun s k => ev tau F28 0 0 c28_0 (x28_0 ) s k) (n + 1) (fillS nm28_0 N28 [.ro 5 v0 v1 v2, .ptr 4464 [], .ptr 4465 [], .ptr 4466 [], .ow 5 4467 [] 0 v3 none] [(4464, .box false 37 (PV.ar 37 v4)), (4465, .box false 118 (PV.ar 118 v5)), (4466, .box false 112 (PV.ar 112 v6)), (4467, .vec false 5 false v7)]) (kNorm tau 0 nx28_0 k) = lpS28_0 f (fun v0 v1 v2 v3 v4 v5 v6 v7 => evLoop tau 0 nm28_0 (fun s k => ev tau F28 0 0 c28_0 (x28_0 ) s k) n (fillS nm28_0 N28 [.ro 5 v0 v1 v2, .ptr 4464 [], .ptr 4465 [], .ptr 4466 [], .ow 5 4467 [] 0 v3 none] [(4464, .box false 37 (PV.ar 37 v4)), (4465, .box false 118 (PV.ar 118 v5)), (4466, .box false 112 (PV.ar 112 v6)), (4467, .vec false 5 false v7)]) (kNorm tau 0 nx28_0 k)) (fun x0 x1 x2 x3 x4 x5 x6 x7 => k (Ex.exit 0) (fillS nx28_0 N28 [.ro 5 x0 x1 x2, .ptr 4464 [], .ptr 4465 [], .ptr 4466 [], .ow 5 4467 [] 0 x3 none] [(4464, .box false 37 (PV.ar 37 x4)), (4465, .box false 118 (PV.ar 118 x5)), (4466, .box false 112 (PV.ar 112 x6)), (4467, .vec false 5 false x7)])) v0 v1 v2 v3 v4 v5 v6 v7 := by kernel_rfl
theorem lpE28_0 (f : Nat) (k : Kont) : ∀ (n : Nat) (v0 : Bool) (v1 : Bool) (v2 : List PV) (v3 : Nat) (v4 : List PV) (v5 : List PV) (v6 : List PV) (v7 : List PV), evLoop tau 0 nm28_0 (fun s k => ev tau F28 0 0 c28_0 (x28_0 ) s k) n (fillS nm28_0 N28 [.ro 5 v0 v1 v2, .ptr 4464 [], .ptr 4465 [], .ptr 4466 [], .ow 5 4467 [] 0 v3 none] [(4464, .box false 37 (PV.ar 37 v4)), (4465, .box false 118 (PV.ar 118 v5)), (4466, .box false 112 (PV.ar 112 v6)), (4467, .vec false 5 false v7)]) (kNorm tau 0 nx28_0 k) = lp28_0 f (fun x0 x1 x2 x3 x4 x5 x6 x7 => k (Ex.exit 0) (fillS nx28_0 N28 [.ro 5 x0 x1 x2, .ptr 4464 [], .ptr 4465 [], .ptr 4466 [], .ow 5 4467 [] 0 x3 none] [(4464, .box false 37 (PV.ar 37 x4)), (4465, .box false 118 (PV.ar 118 x5)), (4466, .box false 112 (PV.ar 112 x6)), (4467, .vec false 5 false x7)])) n v0 v1 v2 v3 v4 v5 v6 v7 | 0, _, _, _, _, _, _, _, _ => rfl | n + 1, v0, v1, v2, v3, v4, v5, v6, v7 => (lpR28_0 f k n v0 v1 v2 v3 v4 v5 v6 v7).trans (congrArg (fun r => lpS28_0 f r (fun x0 x1 x2 x3 x4 x5 x6 x7 => k (Ex.exit 0) (fillS nx28_0 N28 [.ro 5 x0 x1 x2, .ptr 4464 [], .ptr 4465 [], .ptr 4466 [], .ow 5 4467 [] 0 x3 none] [(4464, .box false 37 (PV.ar 37 x4)), (4465, .box false 118 (PV.ar 118 x5)), (4466, .box false 112 (PV.ar 112 x6)), (4467, .vec false 5 false x7)])) v0 v1 v2 v3 v4 v5 v6 v7) (by funext v0 v1 v2 v3 v4 v5 v6 v7; exact lpE28_0 f k n v0 v1 v2 v3 v4 v5 v6 v7))
def r28_0 (f : Nat) : List PV → List (Nat × Ent) → Kont → Option Res
  | [.ro 5 v0 v1 v2, .ptr 4464 [], .ptr 4465 [], .ptr 4466 [],
  PV.ow 5 4467 [] 0 v3
    none], [(4464, .box false 37 (PV.ar 37 v4)), (4465, .box false 118 (PV.ar 118 v5)), (4466, .box false 112 (PV.ar 112 v6)),
  (4467,
    Ent.vec false 5 false
      v7)], k => lp28_0 f (fun x0 x1 x2 x3 x4 x5 x6 x7 => k (Ex.exit
  0) (fillS nx28_0 N28 [.ro 5 x0 x1 x2, .ptr 4464 [], .ptr 4465 [], .ptr 4466 [],
  PV.ow 5 4467 [] 0 x3
    none] [(4464, .box false 37 (PV.ar 37 x4)), (4465, .box false 118 (PV.ar 118 x5)), (4466, .box false 112 (PV.ar 112 x6)), (4467, .vec false 5 false x7)])) f v0 v1 v2 v3 v4 v5 v6 v7
  | _, _, _ => none
theorem it28_0 (f : Nat) : items c28_0 x28_0 = [] := by kernel_rfl
theorem i17_0 (f : Nat) : (Item.l c28_0 nm28_0 N28 (r28_0 f)).Ok tau Try.prog 0 := loop_item tabOk F28_ok mixed (x := x28_0) (nm2 := nx28_0) (anOk_items _ _ (by rw [it28_0 f]; intro q hq; cases hq)) fun vs hp k res hr => by
  unfold r28_0 at hr
  split at hr
  · exact ⟨f, 0, (lpE28_0 f _ f _ _ _ _ _ _ _ _ ).trans hr⟩
  · cases hr
def lpS28_1 (f : Nat) (rc : Nat → Int → Int → List PV → List PV → List PV → List PV → Option Res) (k0 : Nat → List PV → List PV → List PV → List PV → Option Res) (v0 : Nat) (v1 : Int) (v2 : Int) (v3 : List PV) (v4 : List PV) (v5 : List PV) (v6 : List PV) : Option Res := bif decide (v2 ≥ 0) then bif decide (0 ≤ IntKind.u64.wrap (8 * IntKind.u64.wrap v2)) && true then bif roomy (v0 + 1) 1 && true then rc (v0 + 1) v1 (IntKind.i64.wrap (v2 - 1)) v3 v4 v5 (List.take v0 v6 ++ [.sc (.int .u8 (IntKind.u8.wrap (shrI IntKind.u64 v1 (IntKind.u64.wrap (8 * IntKind.u64.wrap v2)))))]) else none else none else k0 v0 v3 v4 v5 v6
def lp28_1 (f : Nat) (k0 : Nat → List PV → List PV → List PV → List PV → Option Res) : Nat → Nat → Int → Int → List PV → List PV → List PV → List PV → Option Res
  | 0, _, _, _, _, _, _, _ => none
  | n + 1, v0, v1, v2, v3, v4, v5, v6 => lpS28_1 f (lp28_1 f k0 n) k0 v0 v1 v2 v3 v4 v5 v6
theorem lpR28_1 (f : Nat) (k : Kont) (n : Nat) (v0 : Nat) (v1 : Int) (v2 : Int) (v3 : List PV) (v4 : List PV) (v5 : List PV) (v6 : List PV) : evLoop tau 0 nm28_1 (fun s k => ev tau F28 0 0 c28_1 (x28_1 ) s k) (n + 1) (fillS nm28_1 N28 [.ptr 4464 [], .ptr 4465 [], .ptr 4466 [], .ow 5 4467 [] 0 v0 none, .sc (.int .u64 v1), .sc (.int .i64 v2)] [(4464, .box false 37 (PV.ar 37 v3)), (4465, .box false 118 (PV.ar 118 v4)), (4466, .box false 112 (PV.ar 112 v5)), (4467, .vec false 5 false v6)]) (kNorm tau 0 nx28_1 k) = lpS28_1 f (fun v0 v1 v2 v3 v4 v5 v6 => evLoop tau 0 nm28_1 (fun s k => ev tau F28 0 0 c28_1 (x28_1 ) s k) n (fillS nm28_1 N28 [.ptr 4464 [], .ptr 4465 [], .ptr 4466 [], .ow 5 4467 [] 0 v0 none, .sc (.int .u64 v1), .sc (.int .i64 v2)] [(4464, .box false 37 (PV.ar 37 v3)), (4465, .box false 118 (PV.ar 118 v4)), (4466, .box false 112 (PV.ar 112 v5)), (4467, .vec false 5 false v6)]) (kNorm tau 0 nx28_1 k)) (fun x0 x1 x2 x3 x4 => k (Ex.exit 2) (fillS nx28_1 N28 [.ptr 4464 [], .ptr 4465 [], .ptr 4466 [], .ow 5 4467 [] 0 x0 none] [(4464, .box false 37 (PV.ar 37 x1)), (4465, .box false 118 (PV.ar 118 x2)), (4466, .box false 112 (PV.ar 112 x3)), (4467, .vec false 5 false x4)])) v0 v1 v2 v3 v4 v5 v6 := by kernel_rfl
theorem lpE28_1 (f : Nat) (k : Kont) : ∀ (n : Nat) (v0 : Nat) (v1 : Int) (v2 : Int) (v3 : List PV) (v4 : List PV) (v5 : List PV) (v6 : List PV), evLoop tau 0 nm28_1 (fun s k => ev tau F28 0 0 c28_1 (x28_1 ) s k) n (fillS nm28_1 N28 [.ptr 4464 [], .ptr 4465 [], .ptr 4466 [], .ow 5 4467 [] 0 v0 none, .sc (.int .u64 v1), .sc (.int .i64 v2)] [(4464, .box false 37 (PV.ar 37 v3)), (4465, .box false 118 (PV.ar 118 v4)), (4466, .box false 112 (PV.ar 112 v5)), (4467, .vec false 5 false v6)]) (kNorm tau 0 nx28_1 k) = lp28_1 f (fun x0 x1 x2 x3 x4 => k (Ex.exit 2) (fillS nx28_1 N28 [.ptr 4464 [], .ptr 4465 [], .ptr 4466 [], .ow 5 4467 [] 0 x0 none] [(4464, .box false 37 (PV.ar 37 x1)), (4465, .box false 118 (PV.ar 118 x2)), (4466, .box false 112 (PV.ar 112 x3)), (4467, .vec false 5 false x4)])) n v0 v1 v2 v3 v4 v5 v6 | 0, _, _, _, _, _, _, _ => rfl | n + 1, v0, v1, v2, v3, v4, v5, v6 => (lpR28_1 f k n v0 v1 v2 v3 v4 v5 v6).trans (congrArg (fun r => lpS28_1 f r (fun x0 x1 x2 x3 x4 => k (Ex.exit 2) (fillS nx28_1 N28 [.ptr 4464 [], .ptr 4465 [], .ptr 4466 [], .ow 5 4467 [] 0 x0 none] [(4464, .box false 37 (PV.ar 37 x1)), (4465, .box false 118 (PV.ar 118 x2)), (4466, .box false 112 (PV.ar 112 x3)), (4467, .vec false 5 false x4)])) v0 v1 v2 v3 v4 v5 v6) (by funext v0 v1 v2 v3 v4 v5 v6; exact lpE28_1 f k n v0 v1 v2 v3 v4 v5 v6))
def r28_1 (f : Nat) : List PV → List (Nat × Ent) → Kont → Option Res
  | [.ptr 4464 [], .ptr 4465 [], .ptr 4466 [], .ow 5 4467 [] 0 v0 none, .sc (.int .u64 v1),
  PV.sc
    (Value.int IntKind.i64
      v2)], [(4464, .box false 37 (PV.ar 37 v3)), (4465, .box false 118 (PV.ar 118 v4)), (4466, .box false 112 (PV.ar 112 v5)),
  (4467,
    Ent.vec false 5 false
      v6)], k => lp28_1 f (fun x0 x1 x2 x3 x4 => k (Ex.exit
  2) (fillS nx28_1 N28 [.ptr 4464 [], .ptr 4465 [], .ptr 4466 [],
  PV.ow 5 4467 [] 0 x0
    none] [(4464, .box false 37 (PV.ar 37 x1)), (4465, .box false 118 (PV.ar 118 x2)), (4466, .box false 112 (PV.ar 112 x3)), (4467, .vec false 5 false x4)])) f v0 v1 v2 v3 v4 v5 v6
  | _, _, _ => none
theorem it28_1 (f : Nat) : items c28_1 x28_1 = [] := by kernel_rfl
theorem i17_1 (f : Nat) : (Item.l c28_1 nm28_1 N28 (r28_1 f)).Ok tau Try.prog 0 := loop_item tabOk F28_ok mixed (x := x28_1) (nm2 := nx28_1) (anOk_items _ _ (by rw [it28_1 f]; intro q hq; cases hq)) fun vs hp k res hr => by
  unfold r28_1 at hr
  split at hr
  · exact ⟨f, 0, (lpE28_1 f _ f _ _ _ _ _ _ _ ).trans hr⟩
  · cases hr
def lpS28_3 (f : Nat) (rc : Nat → Int → Int → List PV → List PV → List PV → List PV → List PV → Option Res) (k0 : Nat → Int → List PV → List PV → List PV → List PV → List PV → Option Res) (v0 : Nat) (v1 : Int) (v2 : Int) (v3 : List PV) (v4 : List PV) (v5 : List PV) (v6 : List PV) (v7 : List PV) : Option Res := bif decide (v2 < 16) then bif decide (0 ≤ IntKind.i64.wrap (v1 + IntKind.i64.wrap (4 * v2))) && decide (IntKind.i64.wrap (v1 + IntKind.i64.wrap (4 * v2)) < zi v0) && true then bif PV.isInt IntKind.u8 (getP (v6.getD (0 + (IntKind.i64.wrap (v1 + IntKind.i64.wrap (4 * v2))).toNat) PV.top) []) && true then bif decide (0 ≤ IntKind.i64.wrap (IntKind.i64.wrap (v1 + IntKind.i64.wrap (4 * v2)) + 1)) && decide (IntKind.i64.wrap (IntKind.i64.wrap (v1 + IntKind.i64.wrap (4 * v2)) + 1) < zi v0) && true then bif PV.isInt IntKind.u8 (getP (v6.getD (0 + (IntKind.i64.wrap (IntKind.i64.wrap (v1 + IntKind.i64.wrap (4 * v2)) + 1)).toNat) PV.top) []) && true then bif decide (0 ≤ IntKind.i64.wrap (IntKind.i64.wrap (v1 + IntKind.i64.wrap (4 * v2)) + 2)) && decide (IntKind.i64.wrap (IntKind.i64.wrap (v1 + IntKind.i64.wrap (4 * v2)) + 2) < zi v0) && true then bif PV.isInt IntKind.u8 (getP (v6.getD (0 + (IntKind.i64.wrap (IntKind.i64.wrap (v1 + IntKind.i64.wrap (4 * v2)) + 2)).toNat) PV.top) []) && true then bif decide (0 ≤ IntKind.i64.wrap (IntKind.i64.wrap (v1 + IntKind.i64.wrap (4 * v2)) + 3)) && decide (IntKind.i64.wrap (IntKind.i64.wrap (v1 + IntKind.i64.wrap (4 * v2)) + 3) < zi v0) && true then bif PV.isInt IntKind.u8 (getP (v6.getD (0 + (IntKind.i64.wrap (IntKind.i64.wrap (v1 + IntKind.i64.wrap (4 * v2)) + 3)).toNat) PV.top) []) && true then bif decide (0 ≤ v2) && decide (v2 < zi 64) && true then rc v0 v1 (IntKind.i64.wrap (v2 + 1)) v3 v4 v5 v6 (v7.set v2.toNat (.sc (.int .u32 (bitI BinOp.or IntKind.u32 (bitI BinOp.or IntKind.u32 (bitI BinOp.or IntKind.u32 (shlI IntKind.u32 (IntKind.u32.wrap (getP (v6.getD (0 + (IntKind.i64.wrap (v1 + IntKind.i64.wrap (4 * v2))).toNat) PV.top) []).int) 24) (shlI IntKind.u32 (IntKind.u32.wrap (getP (v6.getD (0 + (IntKind.i64.wrap (IntKind.i64.wrap (v1 + IntKind.i64.wrap (4 * v2)) + 1)).toNat) PV.top) []).int) 16)) (shlI IntKind.u32 (IntKind.u32.wrap (getP (v6.getD (0 + (IntKind.i64.wrap (IntKind.i64.wrap (v1 + IntKind.i64.wrap (4 * v2)) + 2)).toNat) PV.top) []).int) 8)) (IntKind.u32.wrap (getP (v6.getD (0 + (IntKind.i64.wrap (IntKind.i64.wrap (v1 + IntKind.i64.wrap (4 * v2)) + 3)).toNat) PV.top) []).int))))) else none else none else none else none else none else none else none else none else none else k0 v0 v1 v3 v4 v5 v6 v7
def lp28_3 (f : Nat) (k0 : Nat → Int → List PV → List PV → List PV → List PV → List PV → Option Res) : Nat → Nat → Int → Int → List PV → List PV → List PV → List PV → List PV → Option Res
  | 0, _, _, _, _, _, _, _, _ => none
  | n + 1, v0, v1, v2, v3, v4, v5, v6, v7 => lpS28_3 f (lp28_3 f k0 n) k0 v0 v1 v2 v3 v4 v5 v6 v7
theorem lpR28_3 (f : Nat) (k : Kont) (n : Nat) (v0 : Nat) (v1 : Int) (v2 : Int) (v3 : List PV) (v4 : List PV) (v5 : List PV) (v6 : List PV) (v7 : List PV) : evLoop tau 0 nm28_3 (fun s k => ev tau F28 0 0 c28_3 (x28_3 ) s k) (n + 1) (fillS nm28_3 N28 [.ptr 4464 [], .ptr 4465 [], .ptr 4466 [], .ow 5 4467 [] 0 v0 none, .ptr 4468 [], .sc (.int .i64 v1), .sc (.int .i64 v2)] [(4464, .box false 37 (PV.ar 37 v3)), (4465, .box false 118 (PV.ar 118 v4)), (4466, .box false 112 (PV.ar 112 v5)), (4467, .vec false 5 false v6), (4468, .box false 118 (PV.ar 118 v7))]) (kNorm tau 0 nx28_3 k) = lpS28_3 f (fun v0 v1 v2 v3 v4 v5 v6 v7 => evLoop tau 0 nm28_3 (fun s k => ev tau F28 0 0 c28_3 (x28_3 ) s k) n (fillS nm28_3 N28 [.ptr 4464 [], .ptr 4465 [], .ptr 4466 [], .ow 5 4467 [] 0 v0 none, .ptr 4468 [], .sc (.int .i64 v1), .sc (.int .i64 v2)] [(4464, .box false 37 (PV.ar 37 v3)), (4465, .box false 118 (PV.ar 118 v4)), (4466, .box false 112 (PV.ar 112 v5)), (4467, .vec false 5 false v6), (4468, .box false 118 (PV.ar 118 v7))]) (kNorm tau 0 nx28_3 k)) (fun x0 x1 x2 x3 x4 x5 x6 => k (Ex.exit 6) (fillS nx28_3 N28 [.ptr 4464 [], .ptr 4465 [], .ptr 4466 [], .ow 5 4467 [] 0 x0 none, .ptr 4468 [], .sc (.int .i64 x1)] [(4464, .box false 37 (PV.ar 37 x2)), (4465, .box false 118 (PV.ar 118 x3)), (4466, .box false 112 (PV.ar 112 x4)), (4467, .vec false 5 false x5), (4468, .box false 118 (PV.ar 118 x6))])) v0 v1 v2 v3 v4 v5 v6 v7 := by kernel_rfl
theorem lpE28_3 (f : Nat) (k : Kont) : ∀ (n : Nat) (v0 : Nat) (v1 : Int) (v2 : Int) (v3 : List PV) (v4 : List PV) (v5 : List PV) (v6 : List PV) (v7 : List PV), evLoop tau 0 nm28_3 (fun s k => ev tau F28 0 0 c28_3 (x28_3 ) s k) n (fillS nm28_3 N28 [.ptr 4464 [], .ptr 4465 [], .ptr 4466 [], .ow 5 4467 [] 0 v0 none, .ptr 4468 [], .sc (.int .i64 v1), .sc (.int .i64 v2)] [(4464, .box false 37 (PV.ar 37 v3)), (4465, .box false 118 (PV.ar 118 v4)), (4466, .box false 112 (PV.ar 112 v5)), (4467, .vec false 5 false v6), (4468, .box false 118 (PV.ar 118 v7))]) (kNorm tau 0 nx28_3 k) = lp28_3 f (fun x0 x1 x2 x3 x4 x5 x6 => k (Ex.exit 6) (fillS nx28_3 N28 [.ptr 4464 [], .ptr 4465 [], .ptr 4466 [], .ow 5 4467 [] 0 x0 none, .ptr 4468 [], .sc (.int .i64 x1)] [(4464, .box false 37 (PV.ar 37 x2)), (4465, .box false 118 (PV.ar 118 x3)), (4466, .box false 112 (PV.ar 112 x4)), (4467, .vec false 5 false x5), (4468, .box false 118 (PV.ar 118 x6))])) n v0 v1 v2 v3 v4 v5 v6 v7 | 0, _, _, _, _, _, _, _, _ => rfl | n + 1, v0, v1, v2, v3, v4, v5, v6, v7 => (lpR28_3 f k n v0 v1 v2 v3 v4 v5 v6 v7).trans (congrArg (fun r => lpS28_3 f r (fun x0 x1 x2 x3 x4 x5 x6 => k (Ex.exit 6) (fillS nx28_3 N28 [.ptr 4464 [], .ptr 4465 [], .ptr 4466 [], .ow 5 4467 [] 0 x0 none, .ptr 4468 [], .sc (.int .i64 x1)] [(4464, .box false 37 (PV.ar 37 x2)), (4465, .box false 118 (PV.ar 118 x3)), (4466, .box false 112 (PV.ar 112 x4)), (4467, .vec false 5 false x5), (4468, .box false 118 (PV.ar 118 x6))])) v0 v1 v2 v3 v4 v5 v6 v7) (by funext v0 v1 v2 v3 v4 v5 v6 v7; exact lpE28_3 f k n v0 v1 v2 v3 v4 v5 v6 v7))
def r28_3 (f : Nat) : List PV → List (Nat × Ent) → Kont → Option Res
  | [.ptr 4464 [], .ptr 4465 [], .ptr 4466 [], .ow 5 4467 [] 0 v0 none, .ptr 4468 [], .sc (.int .i64 v1),
  PV.sc
    (Value.int IntKind.i64
      v2)], [(4464, .box false 37 (PV.ar 37 v3)), (4465, .box false 118 (PV.ar 118 v4)), (4466, .box false 112 (PV.ar 112 v5)), (4467, .vec false 5 false v6),
  (4468,
    Ent.box false 118
      (PV.ar 118
        v7))], k => lp28_3 f (fun x0 x1 x2 x3 x4 x5 x6 => k (Ex.exit
  6) (fillS nx28_3 N28 [.ptr 4464 [], .ptr 4465 [], .ptr 4466 [], .ow 5 4467 [] 0 x0 none, .ptr 4468 [],
  PV.sc
    (Value.int IntKind.i64
      x1)] [(4464, .box false 37 (PV.ar 37 x2)), (4465, .box false 118 (PV.ar 118 x3)), (4466, .box false 112 (PV.ar 112 x4)), (4467, .vec false 5 false x5),
  (4468, .box false 118 (PV.ar 118 x6))])) f v0 v1 v2 v3 v4 v5 v6 v7
  | _, _, _ => none
theorem it28_3 (f : Nat) : items c28_3 x28_3 = [] := by kernel_rfl
theorem i17_3 (f : Nat) : (Item.l c28_3 nm28_3 N28 (r28_3 f)).Ok tau Try.prog 0 := loop_item tabOk F28_ok mixed (x := x28_3) (nm2 := nx28_3) (anOk_items _ _ (by rw [it28_3 f]; intro q hq; cases hq)) fun vs hp k res hr => by
  unfold r28_3 at hr
  split at hr
  · exact ⟨f, 0, (lpE28_3 f _ f _ _ _ _ _ _ _ _ ).trans hr⟩
  · cases hr
def lpS28_4 (f : Nat) (rc : Nat → Int → Int → List PV → List PV → List PV → List PV → List PV → Option Res) (k0 : Nat → Int → List PV → List PV → List PV → List PV → List PV → Option Res) (v0 : Nat) (v1 : Int) (v2 : Int) (v3 : List PV) (v4 : List PV) (v5 : List PV) (v6 : List PV) (v7 : List PV) : Option Res := bif decide (v2 < 64) then bif decide (0 ≤ IntKind.i64.wrap (v2 - 15)) && decide (IntKind.i64.wrap (v2 - 15) < zi 64) && true then bif PV.isInt IntKind.u32 (getP (PV.ar 118 v7) [(IntKind.i64.wrap (v2 - 15)).toNat]) && true then bif decide (0 ≤ IntKind.i64.wrap (v2 - 2)) && decide (IntKind.i64.wrap (v2 - 2) < zi 64) && true then bif PV.isInt IntKind.u32 (getP (PV.ar 118 v7) [(IntKind.i64.wrap (v2 - 2)).toNat]) && true then bif decide (0 ≤ IntKind.i64.wrap (v2 - 7)) && decide (IntKind.i64.wrap (v2 - 7) < zi 64) && true then bif PV.isInt IntKind.u32 (getP (PV.ar 118 v7) [(IntKind.i64.wrap (v2 - 7)).toNat]) && true then bif decide (0 ≤ IntKind.i64.wrap (v2 - 16)) && decide (IntKind.i64.wrap (v2 - 16) < zi 64) && true then bif PV.isInt IntKind.u32 (getP (PV.ar 118 v7) [(IntKind.i64.wrap (v2 - 16)).toNat]) && true then bif decide (0 ≤ v2) && decide (v2 < zi 64) && true then rc v0 v1 (IntKind.i64.wrap (v2 + 1)) v3 v4 v5 v6 (v7.set v2.toNat (.sc (.int .u32 (IntKind.u32.wrap (IntKind.u32.wrap (IntKind.u32.wrap (bitI BinOp.xor IntKind.u32 (bitI BinOp.xor IntKind.u32 (rr (getP (PV.ar 118 v7) [(IntKind.i64.wrap (v2 - 2)).toNat]).int 17) (rr (getP (PV.ar 118 v7) [(IntKind.i64.wrap (v2 - 2)).toNat]).int 19)) (shrI IntKind.u32 (getP (PV.ar 118 v7) [(IntKind.i64.wrap (v2 - 2)).toNat]).int 10) + (getP (PV.ar 118 v7) [(IntKind.i64.wrap (v2 - 7)).toNat]).int) + bitI BinOp.xor IntKind.u32 (bitI BinOp.xor IntKind.u32 (rr (getP (PV.ar 118 v7) [(IntKind.i64.wrap (v2 - 15)).toNat]).int 7) (rr (getP (PV.ar 118 v7) [(IntKind.i64.wrap (v2 - 15)).toNat]).int 18)) (shrI IntKind.u32 (getP (PV.ar 118 v7) [(IntKind.i64.wrap (v2 - 15)).toNat]).int 3)) + (getP (PV.ar 118 v7) [(IntKind.i64.wrap (v2 - 16)).toNat]).int))))) else none else none else none else none else none else none else none else none else none else k0 v0 v1 v3 v4 v5 v6 v7
def lp28_4 (f : Nat) (k0 : Nat → Int → List PV → List PV → List PV → List PV → List PV → Option Res) : Nat → Nat → Int → Int → List PV → List PV → List PV → List PV → List PV → Option Res
  | 0, _, _, _, _, _, _, _, _ => none
  | n + 1, v0, v1, v2, v3, v4, v5, v6, v7 => lpS28_4 f (lp28_4 f k0 n) k0 v0 v1 v2 v3 v4 v5 v6 v7
theorem lpR28_4 (f : Nat) (k : Kont) (n : Nat) (v0 : Nat) (v1 : Int) (v2 : Int) (v3 : List PV) (v4 : List PV) (v5 : List PV) (v6 : List PV) (v7 : List PV) : evLoop tau 0 nm28_4 (fun s k => ev tau F28 0 0 c28_4 (x28_4 ) s k) (n + 1) (fillS nm28_4 N28 [.ptr 4464 [], .ptr 4465 [], .ptr 4466 [], .ow 5 4467 [] 0 v0 none, .ptr 4468 [], .sc (.int .i64 v1), .sc (.int .i64 v2)] [(4464, .box false 37 (PV.ar 37 v3)), (4465, .box false 118 (PV.ar 118 v4)), (4466, .box false 112 (PV.ar 112 v5)), (4467, .vec false 5 false v6), (4468, .box false 118 (PV.ar 118 v7))]) (kNorm tau 0 nx28_4 k) = lpS28_4 f (fun v0 v1 v2 v3 v4 v5 v6 v7 => evLoop tau 0 nm28_4 (fun s k => ev tau F28 0 0 c28_4 (x28_4 ) s k) n (fillS nm28_4 N28 [.ptr 4464 [], .ptr 4465 [], .ptr 4466 [], .ow 5 4467 [] 0 v0 none, .ptr 4468 [], .sc (.int .i64 v1), .sc (.int .i64 v2)] [(4464, .box false 37 (PV.ar 37 v3)), (4465, .box false 118 (PV.ar 118 v4)), (4466, .box false 112 (PV.ar 112 v5)), (4467, .vec false 5 false v6), (4468, .box false 118 (PV.ar 118 v7))]) (kNorm tau 0 nx28_4 k)) (fun x0 x1 x2 x3 x4 x5 x6 => k (Ex.exit 8) (fillS nx28_4 N28 [.ptr 4464 [], .ptr 4465 [], .ptr 4466 [], .ow 5 4467 [] 0 x0 none, .ptr 4468 [], .sc (.int .i64 x1)] [(4464, .box false 37 (PV.ar 37 x2)), (4465, .box false 118 (PV.ar 118 x3)), (4466, .box false 112 (PV.ar 112 x4)), (4467, .vec false 5 false x5), (4468, .box false 118 (PV.ar 118 x6))])) v0 v1 v2 v3 v4 v5 v6 v7 := by kernel_rfl
theorem lpE28_4 (f : Nat) (k : Kont) : ∀ (n : Nat) (v0 : Nat) (v1 : Int) (v2 : Int) (v3 : List PV) (v4 : List PV) (v5 : List PV) (v6 : List PV) (v7 : List PV), evLoop tau 0 nm28_4 (fun s k => ev tau F28 0 0 c28_4 (x28_4 ) s k) n (fillS nm28_4 N28 [.ptr 4464 [], .ptr 4465 [], .ptr 4466 [], .ow 5 4467 [] 0 v0 none, .ptr 4468 [], .sc (.int .i64 v1), .sc (.int .i64 v2)] [(4464, .box false 37 (PV.ar 37 v3)), (4465, .box false 118 (PV.ar 118 v4)), (4466, .box false 112 (PV.ar 112 v5)), (4467, .vec false 5 false v6), (4468, .box false 118 (PV.ar 118 v7))]) (kNorm tau 0 nx28_4 k) = lp28_4 f (fun x0 x1 x2 x3 x4 x5 x6 => k (Ex.exit 8) (fillS nx28_4 N28 [.ptr 4464 [], .ptr 4465 [], .ptr 4466 [], .ow 5 4467 [] 0 x0 none, .ptr 4468 [], .sc (.int .i64 x1)] [(4464, .box false 37 (PV.ar 37 x2)), (4465, .box false 118 (PV.ar 118 x3)), (4466, .box false 112 (PV.ar 112 x4)), (4467, .vec false 5 false x5), (4468, .box false 118 (PV.ar 118 x6))])) n v0 v1 v2 v3 v4 v5 v6 v7 | 0, _, _, _, _, _, _, _, _ => rfl | n + 1, v0, v1, v2, v3, v4, v5, v6, v7 => (lpR28_4 f k n v0 v1 v2 v3 v4 v5 v6 v7).trans (congrArg (fun r => lpS28_4 f r (fun x0 x1 x2 x3 x4 x5 x6 => k (Ex.exit 8) (fillS nx28_4 N28 [.ptr 4464 [], .ptr 4465 [], .ptr 4466 [], .ow 5 4467 [] 0 x0 none, .ptr 4468 [], .sc (.int .i64 x1)] [(4464, .box false 37 (PV.ar 37 x2)), (4465, .box false 118 (PV.ar 118 x3)), (4466, .box false 112 (PV.ar 112 x4)), (4467, .vec false 5 false x5), (4468, .box false 118 (PV.ar 118 x6))])) v0 v1 v2 v3 v4 v5 v6 v7) (by funext v0 v1 v2 v3 v4 v5 v6 v7; exact lpE28_4 f k n v0 v1 v2 v3 v4 v5 v6 v7))
def r28_4 (f : Nat) : List PV → List (Nat × Ent) → Kont → Option Res
  | [.ptr 4464 [], .ptr 4465 [], .ptr 4466 [], .ow 5 4467 [] 0 v0 none, .ptr 4468 [], .sc (.int .i64 v1),
  PV.sc
    (Value.int IntKind.i64
      v2)], [(4464, .box false 37 (PV.ar 37 v3)), (4465, .box false 118 (PV.ar 118 v4)), (4466, .box false 112 (PV.ar 112 v5)), (4467, .vec false 5 false v6),
  (4468,
    Ent.box false 118
      (PV.ar 118
        v7))], k => lp28_4 f (fun x0 x1 x2 x3 x4 x5 x6 => k (Ex.exit
  8) (fillS nx28_4 N28 [.ptr 4464 [], .ptr 4465 [], .ptr 4466 [], .ow 5 4467 [] 0 x0 none, .ptr 4468 [],
  PV.sc
    (Value.int IntKind.i64
      x1)] [(4464, .box false 37 (PV.ar 37 x2)), (4465, .box false 118 (PV.ar 118 x3)), (4466, .box false 112 (PV.ar 112 x4)), (4467, .vec false 5 false x5),
  (4468, .box false 118 (PV.ar 118 x6))])) f v0 v1 v2 v3 v4 v5 v6 v7
  | _, _, _ => none
theorem it28_4 (f : Nat) : items c28_4 x28_4 = [] := by kernel_rfl
theorem i17_4 (f : Nat) : (Item.l c28_4 nm28_4 N28 (r28_4 f)).Ok tau Try.prog 0 := loop_item tabOk F28_ok mixed (x := x28_4) (nm2 := nx28_4) (anOk_items _ _ (by rw [it28_4 f]; intro q hq; cases hq)) fun vs hp k res hr => by
  unfold r28_4 at hr
  split at hr
  · exact ⟨f, 0, (lpE28_4 f _ f _ _ _ _ _ _ _ _ ).trans hr⟩
  · cases hr
def lpS28_5 (f : Nat) (rc : Nat → Int → Int → List PV → List PV → List PV → List PV → List PV → List PV → Option Res) (k0 : Nat → Int → List PV → List PV → List PV → List PV → List PV → List PV → Option Res) (v0 : Nat) (v1 : Int) (v2 : Int) (v3 : List PV) (v4 : List PV) (v5 : List PV) (v6 : List PV) (v7 : List PV) (v8 : List PV) : Option Res := bif decide (v2 < 64) then bif PV.isInt IntKind.u32 (getP (PV.ar 112 v8) [4]) && true then bif PV.isInt IntKind.u32 (getP (PV.ar 112 v8) [7]) && true then bif PV.isInt IntKind.u32 (getP (PV.ar 112 v8) [5]) && true then bif PV.isInt IntKind.u32 (getP (PV.ar 112 v8) [6]) && true then bif decide (0 ≤ v2) && decide (v2 < zi 64) && true then bif PV.isInt IntKind.u32 (getP (PV.ar 118 v4) [v2.toNat]) && true then bif decide (0 ≤ v2) && decide (v2 < zi 64) && true then bif PV.isInt IntKind.u32 (getP (PV.ar 118 v7) [v2.toNat]) && true then bif PV.isInt IntKind.u32 (getP (PV.ar 112 v8) [0]) && true then bif PV.isInt IntKind.u32 (getP (PV.ar 112 v8) [0]) && true then bif PV.isInt IntKind.u32 (getP (PV.ar 112 v8) [0]) && true then bif PV.isInt IntKind.u32 (getP (PV.ar 112 v8) [0]) && true then bif PV.isInt IntKind.u32 (getP (PV.ar 112 v8) [1]) && true then bif PV.isInt IntKind.u32 (getP (PV.ar 112 v8) [0]) && true then bif PV.isInt IntKind.u32 (getP (PV.ar 112 v8) [2]) && true then bif PV.isInt IntKind.u32 (getP (PV.ar 112 v8) [1]) && true then bif PV.isInt IntKind.u32 (getP (PV.ar 112 v8) [2]) && true then bif PV.isInt IntKind.u32 (getP (PV.ar 112 v8) [0]) && true then bif PV.isInt IntKind.u32 (getP (PV.ar 112 v8) [1]) && true then bif PV.isInt IntKind.u32 (getP (PV.ar 112 v8) [2]) && true then bif PV.isInt IntKind.u32 (getP (PV.ar 112 v8) [3]) && true then bif PV.isInt IntKind.u32 (getP (PV.ar 112 v8) [4]) && true then bif PV.isInt IntKind.u32 (getP (PV.ar 112 v8) [5]) && true then bif PV.isInt IntKind.u32 (getP (PV.ar 112 v8) [6]) && true then rc v0 v1 (IntKind.i64.wrap (v2 + 1)) v3 v4 v5 v6 v7 ([.sc (.int .u32 (IntKind.u32.wrap (IntKind.u32.wrap (IntKind.u32.wrap (IntKind.u32.wrap (IntKind.u32.wrap ((getP (PV.ar 112 v8) [7]).int + bitI BinOp.xor IntKind.u32 (bitI BinOp.xor IntKind.u32 (rr (getP (PV.ar 112 v8) [4]).int 6) (rr (getP (PV.ar 112 v8) [4]).int 11)) (rr (getP (PV.ar 112 v8) [4]).int 25)) + bitI BinOp.xor IntKind.u32 (bitI BinOp.and IntKind.u32 (getP (PV.ar 112 v8) [4]).int (getP (PV.ar 112 v8) [5]).int) (bitI BinOp.and IntKind.u32 (bitI BinOp.xor IntKind.u32 (Int.ofNat (2 ^ IntKind.u32.bits - Nat.succ 0)) (getP (PV.ar 112 v8) [4]).int) (getP (PV.ar 112 v8) [6]).int)) + (getP (PV.ar 118 v4) [v2.toNat]).int) + (getP (PV.ar 118 v7) [v2.toNat]).int) + IntKind.u32.wrap (bitI BinOp.xor IntKind.u32 (bitI BinOp.xor IntKind.u32 (rr (getP (PV.ar 112 v8) [0]).int 2) (rr (getP (PV.ar 112 v8) [0]).int 13)) (rr (getP (PV.ar 112 v8) [0]).int 22) + bitI BinOp.xor IntKind.u32 (bitI BinOp.xor IntKind.u32 (bitI BinOp.and IntKind.u32 (getP (PV.ar 112 v8) [0]).int (getP (PV.ar 112 v8) [1]).int) (bitI BinOp.and IntKind.u32 (getP (PV.ar 112 v8) [0]).int (getP (PV.ar 112 v8) [2]).int)) (bitI BinOp.and IntKind.u32 (getP (PV.ar 112 v8) [1]).int (getP (PV.ar 112 v8) [2]).int))))), .sc (.int .u32 (getP (PV.ar 112 v8) [0]).int), .sc (.int .u32 (getP (PV.ar 112 v8) [1]).int), .sc (.int .u32 (getP (PV.ar 112 v8) [2]).int), .sc (.int .u32 (IntKind.u32.wrap ((getP (PV.ar 112 v8) [3]).int + IntKind.u32.wrap (IntKind.u32.wrap (IntKind.u32.wrap (IntKind.u32.wrap ((getP (PV.ar 112 v8) [7]).int + bitI BinOp.xor IntKind.u32 (bitI BinOp.xor IntKind.u32 (rr (getP (PV.ar 112 v8) [4]).int 6) (rr (getP (PV.ar 112 v8) [4]).int 11)) (rr (getP (PV.ar 112 v8) [4]).int 25)) + bitI BinOp.xor IntKind.u32 (bitI BinOp.and IntKind.u32 (getP (PV.ar 112 v8) [4]).int (getP (PV.ar 112 v8) [5]).int) (bitI BinOp.and IntKind.u32 (bitI BinOp.xor IntKind.u32 (Int.ofNat (2 ^ IntKind.u32.bits - Nat.succ 0)) (getP (PV.ar 112 v8) [4]).int) (getP (PV.ar 112 v8) [6]).int)) + (getP (PV.ar 118 v4) [v2.toNat]).int) + (getP (PV.ar 118 v7) [v2.toNat]).int)))), .sc (.int .u32 (getP (PV.ar 112 v8) [4]).int), .sc (.int .u32 (getP (PV.ar 112 v8) [5]).int), .sc (.int .u32 (getP (PV.ar 112 v8) [6]).int)]) else none else none else none else none else none else none else none else none else none else none else none else none else none else none else none else none else none else none else none else none else none else none else none else none else k0 v0 v1 v3 v4 v5 v6 v7 v8
def lp28_5 (f : Nat) (k0 : Nat → Int → List
  PV → List PV → List PV → List PV → List PV → List PV → Option Res) : Nat → Nat → Int → Int → List PV → List PV → List PV → List PV → List PV → List PV → Option Res
  | 0, _, _, _, _, _, _, _, _, _ => none
  | n + 1, v0, v1, v2, v3, v4, v5, v6, v7, v8 => lpS28_5 f (lp28_5 f k0 n) k0 v0 v1 v2 v3 v4 v5 v6 v7 v8
theorem lpR28_5 (f : Nat) (k : Kont) (n : Nat) (v0 : Nat) (v1 : Int) (v2 : Int) (v3 : List PV) (v4 : List PV) (v5 : List PV) (v6 : List PV) (v7 : List PV) (v8 : List PV) : evLoop tau 0 nm28_5 (fun s k => ev tau F28 0 0 c28_5 (x28_5 ) s k) (n + 1) (fillS nm28_5 N28 [.ptr 4464 [], .ptr 4465 [], .ptr 4466 [], .ow 5 4467 [] 0 v0 none, .ptr 4468 [], .sc (.int .i64 v1), .ptr 4469 [], .sc (.int .i64 v2)] [(4464, .box false 37 (PV.ar 37 v3)), (4465, .box false 118 (PV.ar 118 v4)), (4466, .box false 112 (PV.ar 112 v5)), (4467, .vec false 5 false v6), (4468, .box false 118 (PV.ar 118 v7)), (4469, .box false 112 (PV.ar 112 v8))]) (kNorm tau 0 nx28_5 k) = lpS28_5 f (fun v0 v1 v2 v3 v4 v5 v6 v7 v8 => evLoop tau 0 nm28_5 (fun s k => ev tau F28 0 0 c28_5 (x28_5 ) s k) n (fillS nm28_5 N28 [.ptr 4464 [], .ptr 4465 [], .ptr 4466 [], .ow 5 4467 [] 0 v0 none, .ptr 4468 [], .sc (.int .i64 v1), .ptr 4469 [], .sc (.int .i64 v2)] [(4464, .box false 37 (PV.ar 37 v3)), (4465, .box false 118 (PV.ar 118 v4)), (4466, .box false 112 (PV.ar 112 v5)), (4467, .vec false 5 false v6), (4468, .box false 118 (PV.ar 118 v7)), (4469, .box false 112 (PV.ar 112 v8))]) (kNorm tau 0 nx28_5 k)) (fun x0 x1 x2 x3 x4 x5 x6 x7 => k (Ex.exit 10) (fillS nx28_5 N28 [.ptr 4464 [], .ptr 4465 [], .ptr 4466 [], .ow 5 4467 [] 0 x0 none, .ptr 4468 [], .sc (.int .i64 x1), .ptr 4469 []] [(4464, .box false 37 (PV.ar 37 x2)), (4465, .box false 118 (PV.ar 118 x3)), (4466, .box false 112 (PV.ar 112 x4)), (4467, .vec false 5 false x5), (4468, .box false 118 (PV.ar 118 x6)), (4469, .box false 112 (PV.ar 112 x7))])) v0 v1 v2 v3 v4 v5 v6 v7 v8 := by kernel_rfl
theorem lpE28_5 (f : Nat) (k : Kont) : ∀ (n : Nat) (v0 : Nat) (v1 : Int) (v2 : Int) (v3 : List PV) (v4 : List PV) (v5 : List PV) (v6 : List PV) (v7 : List PV) (v8 : List PV), evLoop tau 0 nm28_5 (fun s k => ev tau F28 0 0 c28_5 (x28_5 ) s k) n (fillS nm28_5 N28 [.ptr 4464 [], .ptr 4465 [], .ptr 4466 [], .ow 5 4467 [] 0 v0 none, .ptr 4468 [], .sc (.int .i64 v1), .ptr 4469 [], .sc (.int .i64 v2)] [(4464, .box false 37 (PV.ar 37 v3)), (4465, .box false 118 (PV.ar 118 v4)), (4466, .box false 112 (PV.ar 112 v5)), (4467, .vec false 5 false v6), (4468, .box false 118 (PV.ar 118 v7)), (4469, .box false 112 (PV.ar 112 v8))]) (kNorm tau 0 nx28_5 k) = lp28_5 f (fun x0 x1 x2 x3 x4 x5 x6 x7 => k (Ex.exit 10) (fillS nx28_5 N28 [.ptr 4464 [], .ptr 4465 [], .ptr 4466 [], .ow 5 4467 [] 0 x0 none, .ptr 4468 [], .sc (.int .i64 x1), .ptr 4469 []] [(4464, .box false 37 (PV.ar 37 x2)), (4465, .box false 118 (PV.ar 118 x3)), (4466, .box false 112 (PV.ar 112 x4)), (4467, .vec false 5 false x5), (4468, .box false 118 (PV.ar 118 x6)), (4469, .box false 112 (PV.ar 112 x7))])) n v0 v1 v2 v3 v4 v5 v6 v7 v8 | 0, _, _, _, _, _, _, _, _, _ => rfl | n + 1, v0, v1, v2, v3, v4, v5, v6, v7, v8 => (lpR28_5 f k n v0 v1 v2 v3 v4 v5 v6 v7 v8).trans (congrArg (fun r => lpS28_5 f r (fun x0 x1 x2 x3 x4 x5 x6 x7 => k (Ex.exit 10) (fillS nx28_5 N28 [.ptr 4464 [], .ptr 4465 [], .ptr 4466 [], .ow 5 4467 [] 0 x0 none, .ptr 4468 [], .sc (.int .i64 x1), .ptr 4469 []] [(4464, .box false 37 (PV.ar 37 x2)), (4465, .box false 118 (PV.ar 118 x3)), (4466, .box false 112 (PV.ar 112 x4)), (4467, .vec false 5 false x5), (4468, .box false 118 (PV.ar 118 x6)), (4469, .box false 112 (PV.ar 112 x7))])) v0 v1 v2 v3 v4 v5 v6 v7 v8) (by funext v0 v1 v2 v3 v4 v5 v6 v7 v8; exact lpE28_5 f k n v0 v1 v2 v3 v4 v5 v6 v7 v8))
def r28_5 (f : Nat) : List PV → List (Nat × Ent) → Kont → Option Res
  | [.ptr 4464 [], .ptr 4465 [], .ptr 4466 [], .ow 5 4467 [] 0 v0 none, .ptr 4468 [], .sc (.int .i64 v1), .ptr 4469 [],
  PV.sc
    (Value.int IntKind.i64
      v2)], [(4464, .box false 37 (PV.ar 37 v3)), (4465, .box false 118 (PV.ar 118 v4)), (4466, .box false 112 (PV.ar 112 v5)), (4467, .vec false 5 false v6),
  (4468, .box false 118 (PV.ar 118 v7)),
  (4469,
    Ent.box false 112
      (PV.ar 112
        v8))], k => lp28_5 f (fun x0 x1 x2 x3 x4 x5 x6 x7 => k (Ex.exit
  10) (fillS nx28_5 N28 [.ptr 4464 [], .ptr 4465 [], .ptr 4466 [], .ow 5 4467 [] 0 x0 none, .ptr 4468 [], .sc (.int .i64 x1),
  PV.ptr 4469
    []] [(4464, .box false 37 (PV.ar 37 x2)), (4465, .box false 118 (PV.ar 118 x3)), (4466, .box false 112 (PV.ar 112 x4)), (4467, .vec false 5 false x5),
  (4468, .box false 118 (PV.ar 118 x6)), (4469, .box false 112 (PV.ar 112 x7))])) f v0 v1 v2 v3 v4 v5 v6 v7 v8
  | _, _, _ => none
theorem it28_5 (f : Nat) : items c28_5 x28_5 = [] := by kernel_rfl
theorem i17_5 (f : Nat) : (Item.l c28_5 nm28_5 N28 (r28_5 f)).Ok tau Try.prog 0 := loop_item tabOk F28_ok mixed (x := x28_5) (nm2 := nx28_5) (anOk_items _ _ (by rw [it28_5 f]; intro q hq; cases hq)) fun vs hp k res hr => by
  unfold r28_5 at hr
  split at hr
  · exact ⟨f, 0, (lpE28_5 f _ f _ _ _ _ _ _ _ _ _ ).trans hr⟩
  · cases hr
def lpS28_6 (f : Nat) (rc : Nat → Int → Int → List PV → List PV → List PV → List PV → List PV → List PV → Option Res) (k0 : Nat → Int → List PV → List PV → List PV → List PV → List PV → Option Res) (v0 : Nat) (v1 : Int) (v2 : Int) (v3 : List PV) (v4 : List PV) (v5 : List PV) (v6 : List PV) (v7 : List PV) (v8 : List PV) : Option Res := bif decide (v2 < 8) then bif decide (0 ≤ v2) && decide (v2 < zi 8) && true then bif PV.isInt IntKind.u32 (getP (PV.ar 112 v5) [v2.toNat]) && true then bif decide (0 ≤ v2) && decide (v2 < zi 8) && true then bif PV.isInt IntKind.u32 (getP (PV.ar 112 v8) [v2.toNat]) && true then bif decide (0 ≤ v2) && decide (v2 < zi 8) && true then rc v0 v1 (IntKind.i64.wrap (v2 + 1)) v3 v4 (v5.set v2.toNat (.sc (.int .u32 (IntKind.u32.wrap ((getP (PV.ar 112 v5) [v2.toNat]).int + (getP (PV.ar 112 v8) [v2.toNat]).int))))) v6 v7 v8 else none else none else none else none else none else k0 v0 v1 v3 v4 v5 v6 v7
def lp28_6 (f : Nat) (k0 : Nat → Int → List PV → List PV → List PV → List PV → List PV → Option Res) : Nat → Nat → Int → Int → List PV → List PV → List PV → List PV → List PV → List PV → Option Res
  | 0, _, _, _, _, _, _, _, _, _ => none
  | n + 1, v0, v1, v2, v3, v4, v5, v6, v7, v8 => lpS28_6 f (lp28_6 f k0 n) k0 v0 v1 v2 v3 v4 v5 v6 v7 v8
theorem lpR28_6 (f : Nat) (k : Kont) (n : Nat) (v0 : Nat) (v1 : Int) (v2 : Int) (v3 : List PV) (v4 : List PV) (v5 : List PV) (v6 : List PV) (v7 : List PV) (v8 : List PV) : evLoop tau 0 nm28_6 (fun s k => ev tau F28 0 0 c28_6 (x28_6 ) s k) (n + 1) (fillS nm28_6 N28 [.ptr 4464 [], .ptr 4465 [], .ptr 4466 [], .ow 5 4467 [] 0 v0 none, .ptr 4468 [], .sc (.int .i64 v1), .ptr 4469 [], .sc (.int .i64 v2)] [(4464, .box false 37 (PV.ar 37 v3)), (4465, .box false 118 (PV.ar 118 v4)), (4466, .box false 112 (PV.ar 112 v5)), (4467, .vec false 5 false v6), (4468, .box false 118 (PV.ar 118 v7)), (4469, .box false 112 (PV.ar 112 v8))]) (kNorm tau 0 nx28_6 k) = lpS28_6 f (fun v0 v1 v2 v3 v4 v5 v6 v7 v8 => evLoop tau 0 nm28_6 (fun s k => ev tau F28 0 0 c28_6 (x28_6 ) s k) n (fillS nm28_6 N28 [.ptr 4464 [], .ptr 4465 [], .ptr 4466 [], .ow 5 4467 [] 0 v0 none, .ptr 4468 [], .sc (.int .i64 v1), .ptr 4469 [], .sc (.int .i64 v2)] [(4464, .box false 37 (PV.ar 37 v3)), (4465, .box false 118 (PV.ar 118 v4)), (4466, .box false 112 (PV.ar 112 v5)), (4467, .vec false 5 false v6), (4468, .box false 118 (PV.ar 118 v7)), (4469, .box false 112 (PV.ar 112 v8))]) (kNorm tau 0 nx28_6 k)) (fun x0 x1 x2 x3 x4 x5 x6 => k (Ex.exit 12) (fillS nx28_6 N28 [.ptr 4464 [], .ptr 4465 [], .ptr 4466 [], .ow 5 4467 [] 0 x0 none, .ptr 4468 [], .sc (.int .i64 x1)] [(4464, .box false 37 (PV.ar 37 x2)), (4465, .box false 118 (PV.ar 118 x3)), (4466, .box false 112 (PV.ar 112 x4)), (4467, .vec false 5 false x5), (4468, .box false 118 (PV.ar 118 x6))])) v0 v1 v2 v3 v4 v5 v6 v7 v8 := by kernel_rfl
theorem lpE28_6 (f : Nat) (k : Kont) : ∀ (n : Nat) (v0 : Nat) (v1 : Int) (v2 : Int) (v3 : List PV) (v4 : List PV) (v5 : List PV) (v6 : List PV) (v7 : List PV) (v8 : List PV), evLoop tau 0 nm28_6 (fun s k => ev tau F28 0 0 c28_6 (x28_6 ) s k) n (fillS nm28_6 N28 [.ptr 4464 [], .ptr 4465 [], .ptr 4466 [], .ow 5 4467 [] 0 v0 none, .ptr 4468 [], .sc (.int .i64 v1), .ptr 4469 [], .sc (.int .i64 v2)] [(4464, .box false 37 (PV.ar 37 v3)), (4465, .box false 118 (PV.ar 118 v4)), (4466, .box false 112 (PV.ar 112 v5)), (4467, .vec false 5 false v6), (4468, .box false 118 (PV.ar 118 v7)), (4469, .box false 112 (PV.ar 112 v8))]) (kNorm tau 0 nx28_6 k) = lp28_6 f (fun x0 x1 x2 x3 x4 x5 x6 => k (Ex.exit 12) (fillS nx28_6 N28 [.ptr 4464 [], .ptr 4465 [], .ptr 4466 [], .ow 5 4467 [] 0 x0 none, .ptr 4468 [], .sc (.int .i64 x1)] [(4464, .box false 37 (PV.ar 37 x2)), (4465, .box false 118 (PV.ar 118 x3)), (4466, .box false 112 (PV.ar 112 x4)), (4467, .vec false 5 false x5), (4468, .box false 118 (PV.ar 118 x6))])) n v0 v1 v2 v3 v4 v5 v6 v7 v8 | 0, _, _, _, _, _, _, _, _, _ => rfl | n + 1, v0, v1, v2, v3, v4, v5, v6, v7, v8 => (lpR28_6 f k n v0 v1 v2 v3 v4 v5 v6 v7 v8).trans (congrArg (fun r => lpS28_6 f r (fun x0 x1 x2 x3 x4 x5 x6 => k (Ex.exit 12) (fillS nx28_6 N28 [.ptr 4464 [], .ptr 4465 [], .ptr 4466 [], .ow 5 4467 [] 0 x0 none, .ptr 4468 [], .sc (.int .i64 x1)] [(4464, .box false 37 (PV.ar 37 x2)), (4465, .box false 118 (PV.ar 118 x3)), (4466, .box false 112 (PV.ar 112 x4)), (4467, .vec false 5 false x5), (4468, .box false 118 (PV.ar 118 x6))])) v0 v1 v2 v3 v4 v5 v6 v7 v8) (by funext v0 v1 v2 v3 v4 v5 v6 v7 v8; exact lpE28_6 f k n v0 v1 v2 v3 v4 v5 v6 v7 v8))
def r28_6 (f : Nat) : List PV → List (Nat × Ent) → Kont → Option Res
  | [.ptr 4464 [], .ptr 4465 [], .ptr 4466 [], .ow 5 4467 [] 0 v0 none, .ptr 4468 [], .sc (.int .i64 v1), .ptr 4469 [],
  PV.sc
    (Value.int IntKind.i64
      v2)], [(4464, .box false 37 (PV.ar 37 v3)), (4465, .box false 118 (PV.ar 118 v4)), (4466, .box false 112 (PV.ar 112 v5)), (4467, .vec false 5 false v6),
  (4468, .box false 118 (PV.ar 118 v7)),
  (4469,
    Ent.box false 112
      (PV.ar 112
        v8))], k => lp28_6 f (fun x0 x1 x2 x3 x4 x5 x6 => k (Ex.exit
  12) (fillS nx28_6 N28 [.ptr 4464 [], .ptr 4465 [], .ptr 4466 [], .ow 5 4467 [] 0 x0 none, .ptr 4468 [],
  PV.sc
    (Value.int IntKind.i64
      x1)] [(4464, .box false 37 (PV.ar 37 x2)), (4465, .box false 118 (PV.ar 118 x3)), (4466, .box false 112 (PV.ar 112 x4)), (4467, .vec false 5 false x5),
  (4468, .box false 118 (PV.ar 118 x6))])) f v0 v1 v2 v3 v4 v5 v6 v7 v8
  | _, _, _ => none
theorem it28_6 (f : Nat) : items c28_6 x28_6 = [] := by kernel_rfl
theorem i17_6 (f : Nat) : (Item.l c28_6 nm28_6 N28 (r28_6 f)).Ok tau Try.prog 0 := loop_item tabOk F28_ok mixed (x := x28_6) (nm2 := nx28_6) (anOk_items _ _ (by rw [it28_6 f]; intro q hq; cases hq)) fun vs hp k res hr => by
  unfold r28_6 at hr
  split at hr
  · exact ⟨f, 0, (lpE28_6 f _ f _ _ _ _ _ _ _ _ _ ).trans hr⟩
  · cases hr
def lpS28_2 (f : Nat) (rc : Nat → Int → List PV → List PV → List PV → List PV → List PV → Option Res) (k0 : List PV → List PV → Option Res) (v0 : Nat) (v1 : Int) (v2 : List PV) (v3 : List PV) (v4 : List PV) (v5 : List PV) (v6 : List PV) : Option Res := bif decide (v1 < zi v0) then lp28_3 f (fun x0_2 x1_2 x2_2 x3_2 x4_2 x5_2 x6_2 => lp28_4 f (fun x0_3 x1_3 x2_3 x3_3 x4_3 x5_3 x6_3 => lp28_5 f (fun x0_4 x1_4 x2_4 x3_4 x4_4 x5_4 x6_4 x7_4 => lp28_6 f (fun x0_5 x1_5 x2_5 x3_5 x4_5 x5_5 x6_5 => rc x0_5 (IntKind.i64.wrap (x1_5 + 64)) x2_5 x3_5 x4_5 x5_5 x6_5) f x0_4 x1_4 (0) x2_4 x3_4 x4_4 x5_4 x6_4 x7_4) f x0_3 x1_3 (0) x2_3 x3_3 x4_3 x5_3 x6_3 x4_3) f x0_2 x1_2 (16) x2_2 x3_2 x4_2 x5_2 x6_2) f v0 v1 (0) v2 v3 v4 v5 v6 else k0 v2 v4
def lp28_2 (f : Nat) (k0 : List PV → List PV → Option Res) : Nat → Nat → Int → List PV → List PV → List PV → List PV → List PV → Option Res
  | 0, _, _, _, _, _, _, _ => none
  | n + 1, v0, v1, v2, v3, v4, v5, v6 => lpS28_2 f (lp28_2 f k0 n) k0 v0 v1 v2 v3 v4 v5 v6
theorem lpR28_2 (f : Nat) (k : Kont) (n : Nat) (v0 : Nat) (v1 : Int) (v2 : List PV) (v3 : List PV) (v4 : List PV) (v5 : List PV) (v6 : List PV) : evLoop tau 0 nm28_2 (fun s k => ev tau F28 0 0 c28_2 (x28_2 (r28_3 f) (r28_4 f) (r28_5 f) (r28_6 f)) s k) (n + 1) (fillS nm28_2 N28 [.ptr 4464 [], .ptr 4465 [], .ptr 4466 [], .ow 5 4467 [] 0 v0 none, .ptr 4468 [], .sc (.int .i64 v1)] [(4464, .box false 37 (PV.ar 37 v2)), (4465, .box false 118 (PV.ar 118 v3)), (4466, .box false 112 (PV.ar 112 v4)), (4467, .vec false 5 false v5), (4468, .box false 118 (PV.ar 118 v6))]) (kNorm tau 0 nx28_2 k) = lpS28_2 f (fun v0 v1 v2 v3 v4 v5 v6 => evLoop tau 0 nm28_2 (fun s k => ev tau F28 0 0 c28_2 (x28_2 (r28_3 f) (r28_4 f) (r28_5 f) (r28_6 f)) s k) n (fillS nm28_2 N28 [.ptr 4464 [], .ptr 4465 [], .ptr 4466 [], .ow 5 4467 [] 0 v0 none, .ptr 4468 [], .sc (.int .i64 v1)] [(4464, .box false 37 (PV.ar 37 v2)), (4465, .box false 118 (PV.ar 118 v3)), (4466, .box false 112 (PV.ar 112 v4)), (4467, .vec false 5 false v5), (4468, .box false 118 (PV.ar 118 v6))]) (kNorm tau 0 nx28_2 k)) (fun x0 x1 => k (Ex.exit 4) (fillS nx28_2 N28 [.ptr 4464 [], .ptr 4465 []] [(4464, .box false 37 (PV.ar 37 x0)), (4465, .box false 112 (PV.ar 112 x1))])) v0 v1 v2 v3 v4 v5 v6 := by kernel_rfl
theorem lpE28_2 (f : Nat) (k : Kont) : ∀ (n : Nat) (v0 : Nat) (v1 : Int) (v2 : List PV) (v3 : List PV) (v4 : List PV) (v5 : List PV) (v6 : List PV), evLoop tau 0 nm28_2 (fun s k => ev tau F28 0 0 c28_2 (x28_2 (r28_3 f) (r28_4 f) (r28_5 f) (r28_6 f)) s k) n (fillS nm28_2 N28 [.ptr 4464 [], .ptr 4465 [], .ptr 4466 [], .ow 5 4467 [] 0 v0 none, .ptr 4468 [], .sc (.int .i64 v1)] [(4464, .box false 37 (PV.ar 37 v2)), (4465, .box false 118 (PV.ar 118 v3)), (4466, .box false 112 (PV.ar 112 v4)), (4467, .vec false 5 false v5), (4468, .box false 118 (PV.ar 118 v6))]) (kNorm tau 0 nx28_2 k) = lp28_2 f (fun x0 x1 => k (Ex.exit 4) (fillS nx28_2 N28 [.ptr 4464 [], .ptr 4465 []] [(4464, .box false 37 (PV.ar 37 x0)), (4465, .box false 112 (PV.ar 112 x1))])) n v0 v1 v2 v3 v4 v5 v6 | 0, _, _, _, _, _, _, _ => rfl | n + 1, v0, v1, v2, v3, v4, v5, v6 => (lpR28_2 f k n v0 v1 v2 v3 v4 v5 v6).trans (congrArg (fun r => lpS28_2 f r (fun x0 x1 => k (Ex.exit 4) (fillS nx28_2 N28 [.ptr 4464 [], .ptr 4465 []] [(4464, .box false 37 (PV.ar 37 x0)), (4465, .box false 112 (PV.ar 112 x1))])) v0 v1 v2 v3 v4 v5 v6) (by funext v0 v1 v2 v3 v4 v5 v6; exact lpE28_2 f k n v0 v1 v2 v3 v4 v5 v6))
def r28_2 (f : Nat) : List PV → List (Nat × Ent) → Kont → Option Res
  | [.ptr 4464 [], .ptr 4465 [], .ptr 4466 [], .ow 5 4467 [] 0 v0 none, .ptr 4468 [],
  PV.sc
    (Value.int IntKind.i64
      v1)], [(4464, .box false 37 (PV.ar 37 v2)), (4465, .box false 118 (PV.ar 118 v3)), (4466, .box false 112 (PV.ar 112 v4)), (4467, .vec false 5 false v5),
  (4468,
    Ent.box false 118
      (PV.ar 118
        v6))], k => lp28_2 f (fun x0 x1 => k (Ex.exit
  4) (fillS nx28_2 N28 [.ptr 4464 [], .ptr 4465 []] [(4464, .box false 37 (PV.ar 37 x0)), (4465, .box false 112 (PV.ar 112 x1))])) f v0 v1 v2 v3 v4 v5 v6
  | _, _, _ => none
theorem it28_2 (f : Nat) : items c28_2 (x28_2 (r28_3 f) (r28_4 f) (r28_5 f) (r28_6 f)) = [.l c28_3 nm28_3 N28 (r28_3 f), .l c28_4 nm28_4 N28 (r28_4 f), .l c28_5 nm28_5 N28 (r28_5 f), .l c28_6 nm28_6 N28 (r28_6 f)] := by kernel_rfl
theorem i17_2 (f : Nat) : (Item.l c28_2 nm28_2 N28 (r28_2 f)).Ok tau Try.prog 0 := loop_item tabOk F28_ok mixed (x := (x28_2 (r28_3 f) (r28_4 f) (r28_5 f) (r28_6 f))) (nm2 := nx28_2) (anOk_items _ _ (by rw [it28_2 f]; simp only [List.forall_mem_cons, List.not_mem_nil, false_implies, implies_true, and_true]; exact ⟨i17_3 f, i17_4 f, i17_5 f, i17_6 f⟩)) fun vs hp k res hr => by
  unfold r28_2 at hr
  split at hr
  · exact ⟨f, 0, (lpE28_2 f _ f _ _ _ _ _ _ _ ).trans hr⟩
  · cases hr
def lpS28_7 (f : Nat) (rc : Int → List PV → List PV → List PV → Option Res) (k0 : List PV → List PV → Option Res) (v0 : Int) (v1 : List PV) (v2 : List PV) (v3 : List PV) : Option Res := bif decide (v0 < 8) then bif decide (0 ≤ v0) && decide (v0 < zi 8) && true then bif PV.isInt IntKind.u32 (getP (PV.ar 112 v2) [v0.toNat]) && true then bif decide (0 ≤ v0) && decide (v0 < zi 8) && true then bif PV.isInt IntKind.u32 (getP (PV.ar 112 v2) [v0.toNat]) && true then bif decide (0 ≤ v0) && decide (v0 < zi 8) && true then bif PV.isInt IntKind.u32 (getP (PV.ar 112 v2) [v0.toNat]) && true then bif decide (0 ≤ v0) && decide (v0 < zi 8) && true then bif PV.isInt IntKind.u32 (getP (PV.ar 112 v2) [v0.toNat]) && true then bif decide (0 ≤ IntKind.i64.wrap (4 * v0)) && decide (IntKind.i64.wrap (4 * v0) < zi 32) && true then bif decide (0 ≤ IntKind.i64.wrap (IntKind.i64.wrap (4 * v0) + 1)) && decide (IntKind.i64.wrap (IntKind.i64.wrap (4 * v0) + 1) < zi 32) && true then bif decide (0 ≤ IntKind.i64.wrap (IntKind.i64.wrap (4 * v0) + 2)) && decide (IntKind.i64.wrap (IntKind.i64.wrap (4 * v0) + 2) < zi 32) && true then bif decide (0 ≤ IntKind.i64.wrap (IntKind.i64.wrap (4 * v0) + 3)) && decide (IntKind.i64.wrap (IntKind.i64.wrap (4 * v0) + 3) < zi 32) && true then rc (IntKind.i64.wrap (v0 + 1)) v1 v2 ((((v3.set (IntKind.i64.wrap (4 * v0)).toNat (.sc (.int .u8 (IntKind.u8.wrap (shrI IntKind.u32 (getP (PV.ar 112 v2) [v0.toNat]).int 24))))).set (IntKind.i64.wrap (IntKind.i64.wrap (4 * v0) + 1)).toNat (.sc (.int .u8 (IntKind.u8.wrap (shrI IntKind.u32 (getP (PV.ar 112 v2) [v0.toNat]).int 16))))).set (IntKind.i64.wrap (IntKind.i64.wrap (4 * v0) + 2)).toNat (.sc (.int .u8 (IntKind.u8.wrap (shrI IntKind.u32 (getP (PV.ar 112 v2) [v0.toNat]).int 8))))).set (IntKind.i64.wrap (IntKind.i64.wrap (4 * v0) + 3)).toNat (.sc (.int .u8 (IntKind.u8.wrap (getP (PV.ar 112 v2) [v0.toNat]).int)))) else none else none else none else none else none else none else none else none else none else none else none else none else k0 v1 v3
def lp28_7 (f : Nat) (k0 : List PV → List PV → Option Res) : Nat → Int → List PV → List PV → List PV → Option Res
  | 0, _, _, _, _ => none
  | n + 1, v0, v1, v2, v3 => lpS28_7 f (lp28_7 f k0 n) k0 v0 v1 v2 v3
theorem lpR28_7 (f : Nat) (k : Kont) (n : Nat) (v0 : Int) (v1 : List PV) (v2 : List PV) (v3 : List PV) : evLoop tau 0 nm28_7 (fun s k => ev tau F28 0 0 c28_7 (x28_7 ) s k) (n + 1) (fillS nm28_7 N28 [.ptr 4464 [], .ptr 4465 [], .ptr 4466 [], .sc (.int .i64 v0)] [(4464, .box false 37 (PV.ar 37 v1)), (4465, .box false 112 (PV.ar 112 v2)), (4466, .box false 37 (PV.ar 37 v3))]) (kNorm tau 0 nx28_7 k) = lpS28_7 f (fun v0 v1 v2 v3 => evLoop tau 0 nm28_7 (fun s k => ev tau F28 0 0 c28_7 (x28_7 ) s k) n (fillS nm28_7 N28 [.ptr 4464 [], .ptr 4465 [], .ptr 4466 [], .sc (.int .i64 v0)] [(4464, .box false 37 (PV.ar 37 v1)), (4465, .box false 112 (PV.ar 112 v2)), (4466, .box false 37 (PV.ar 37 v3))]) (kNorm tau 0 nx28_7 k)) (fun x0 x1 => k (Ex.exit 14) (fillS nx28_7 N28 [.ptr 4464 [], .ptr 4465 []] [(4464, .box false 37 (PV.ar 37 x0)), (4465, .box false 37 (PV.ar 37 x1))])) v0 v1 v2 v3 := by kernel_rfl
theorem lpE28_7 (f : Nat) (k : Kont) : ∀ (n : Nat) (v0 : Int) (v1 : List PV) (v2 : List PV) (v3 : List PV), evLoop tau 0 nm28_7 (fun s k => ev tau F28 0 0 c28_7 (x28_7 ) s k) n (fillS nm28_7 N28 [.ptr 4464 [], .ptr 4465 [], .ptr 4466 [], .sc (.int .i64 v0)] [(4464, .box false 37 (PV.ar 37 v1)), (4465, .box false 112 (PV.ar 112 v2)), (4466, .box false 37 (PV.ar 37 v3))]) (kNorm tau 0 nx28_7 k) = lp28_7 f (fun x0 x1 => k (Ex.exit 14) (fillS nx28_7 N28 [.ptr 4464 [], .ptr 4465 []] [(4464, .box false 37 (PV.ar 37 x0)), (4465, .box false 37 (PV.ar 37 x1))])) n v0 v1 v2 v3 | 0, _, _, _, _ => rfl | n + 1, v0, v1, v2, v3 => (lpR28_7 f k n v0 v1 v2 v3).trans (congrArg (fun r => lpS28_7 f r (fun x0 x1 => k (Ex.exit 14) (fillS nx28_7 N28 [.ptr 4464 [], .ptr 4465 []] [(4464, .box false 37 (PV.ar 37 x0)), (4465, .box false 37 (PV.ar 37 x1))])) v0 v1 v2 v3) (by funext v0 v1 v2 v3; exact lpE28_7 f k n v0 v1 v2 v3))
def r28_7 (f : Nat) : List PV → List (Nat × Ent) → Kont → Option Res
  | [.ptr 4464 [], .ptr 4465 [], .ptr 4466 [],
  PV.sc
    (Value.int IntKind.i64
      v0)], [(4464, .box false 37 (PV.ar 37 v1)), (4465, .box false 112 (PV.ar 112 v2)),
  (4466,
    Ent.box false 37
      (PV.ar 37
        v3))], k => lp28_7 f (fun x0 x1 => k (Ex.exit
  14) (fillS nx28_7 N28 [.ptr 4464 [], .ptr 4465 []] [(4464, .box false 37 (PV.ar 37 x0)), (4465, .box false 37 (PV.ar 37 x1))])) f v0 v1 v2 v3
  | _, _, _ => none
theorem it28_7 (f : Nat) : items c28_7 x28_7 = [] := by kernel_rfl
theorem i17_7 (f : Nat) : (Item.l c28_7 nm28_7 N28 (r28_7 f)).Ok tau Try.prog 0 := loop_item tabOk F28_ok mixed (x := x28_7) (nm2 := nx28_7) (anOk_items _ _ (by rw [it28_7 f]; intro q hq; cases hq)) fun vs hp k res hr => by
  unfold r28_7 at hr
  split at hr
  · exact ⟨f, 0, (lpE28_7 f _ f _ _ _ _ ).trans hr⟩
  · cases hr
def g28 (f : Nat) (nl : Bool) (fl : Bool) (b : List PV) (k : Res → Option Res) : Option Res := bif roomy (0 + b.length) 1 && true then bif roomy (0 + b.length + 1) 1 && true then lp28_0 f (fun x0_0 x1_0 x2_0 x3_0 x4_0 x5_0 x6_0 x7_0 => lp28_1 f (fun x0_1 x1_1 x2_1 x3_1 x4_1 => lp28_2 f (fun x0_6 x1_6 => lp28_7 f (fun x0_7 x1_7 => k (Res.mk (.ar 37 x1_7) [] [])) f (0) x0_6 x1_6 ([.sc (.int .u8 0), .sc (.int .u8 0), .sc (.int .u8 0), .sc (.int .u8 0), .sc (.int .u8 0), .sc (.int .u8 0), .sc (.int .u8 0), .sc (.int .u8 0), .sc (.int .u8 0), .sc (.int .u8 0), .sc (.int .u8 0), .sc (.int .u8 0), .sc (.int .u8 0), .sc (.int .u8 0), .sc (.int .u8 0), .sc (.int .u8 0), .sc (.int .u8 0), .sc (.int .u8 0), .sc (.int .u8 0), .sc (.int .u8 0), .sc (.int .u8 0), .sc (.int .u8 0), .sc (.int .u8 0), .sc (.int .u8 0), .sc (.int .u8 0), .sc (.int .u8 0), .sc (.int .u8 0), .sc (.int .u8 0), .sc (.int .u8 0), .sc (.int .u8 0), .sc (.int .u8 0), .sc (.int .u8 0)])) f x0_1 (0) x1_1 x2_1 x3_1 x4_1 ([.sc (.int .u32 0), .sc (.int .u32 0), .sc (.int .u32 0), .sc (.int .u32 0), .sc (.int .u32 0), .sc (.int .u32 0), .sc (.int .u32 0), .sc (.int .u32 0), .sc (.int .u32 0), .sc (.int .u32 0), .sc (.int .u32 0), .sc (.int .u32 0), .sc (.int .u32 0), .sc (.int .u32 0), .sc (.int .u32 0), .sc (.int .u32 0), .sc (.int .u32 0), .sc (.int .u32 0), .sc (.int .u32 0), .sc (.int .u32 0), .sc (.int .u32 0), .sc (.int .u32 0), .sc (.int .u32 0), .sc (.int .u32 0), .sc (.int .u32 0), .sc (.int .u32 0), .sc (.int .u32 0), .sc (.int .u32 0), .sc (.int .u32 0), .sc (.int .u32 0), .sc (.int .u32 0), .sc (.int .u32 0), .sc (.int .u32 0), .sc (.int .u32 0), .sc (.int .u32 0), .sc (.int .u32 0), .sc (.int .u32 0), .sc (.int .u32 0), .sc (.int .u32 0), .sc (.int .u32 0), .sc (.int .u32 0), .sc (.int .u32 0), .sc (.int .u32 0), .sc (.int .u32 0), .sc (.int .u32 0), .sc (.int .u32 0), .sc (.int .u32 0), .sc (.int .u32 0), .sc (.int .u32 0), .sc (.int .u32 0), .sc (.int .u32 0), .sc (.int .u32 0), .sc (.int .u32 0), .sc (.int .u32 0), .sc (.int .u32 0), .sc (.int .u32 0), .sc (.int .u32 0), .sc (.int .u32 0), .sc (.int .u32 0), .sc (.int .u32 0), .sc (.int .u32 0), .sc (.int .u32 0), .sc (.int .u32 0), .sc (.int .u32 0)])) f x3_0 (IntKind.u64.wrap (IntKind.u64.wrap (zi x2_0.length) * 8)) (7) x4_0 x5_0 x6_0 x7_0) f nl fl b (0 + b.length + 1) ([.sc (.int .u8 0), .sc (.int .u8 0), .sc (.int .u8 0), .sc (.int .u8 0), .sc (.int .u8 0), .sc (.int .u8 0), .sc (.int .u8 0), .sc (.int .u8 0), .sc (.int .u8 0), .sc (.int .u8 0), .sc (.int .u8 0), .sc (.int .u8 0), .sc (.int .u8 0), .sc (.int .u8 0), .sc (.int .u8 0), .sc (.int .u8 0), .sc (.int .u8 0), .sc (.int .u8 0), .sc (.int .u8 0), .sc (.int .u8 0), .sc (.int .u8 0), .sc (.int .u8 0), .sc (.int .u8 0), .sc (.int .u8 0), .sc (.int .u8 0), .sc (.int .u8 0), .sc (.int .u8 0), .sc (.int .u8 0), .sc (.int .u8 0), .sc (.int .u8 0), .sc (.int .u8 0), .sc (.int .u8 0)]) ([.sc (.int .u32 1116352408), .sc (.int .u32 1899447441), .sc (.int .u32 3049323471), .sc (.int .u32 3921009573), .sc (.int .u32 961987163), .sc (.int .u32 1508970993), .sc (.int .u32 2453635748), .sc (.int .u32 2870763221), .sc (.int .u32 3624381080), .sc (.int .u32 310598401), .sc (.int .u32 607225278), .sc (.int .u32 1426881987), .sc (.int .u32 1925078388), .sc (.int .u32 2162078206), .sc (.int .u32 2614888103), .sc (.int .u32 3248222580), .sc (.int .u32 3835390401), .sc (.int .u32 4022224774), .sc (.int .u32 264347078), .sc (.int .u32 604807628), .sc (.int .u32 770255983), .sc (.int .u32 1249150122), .sc (.int .u32 1555081692), .sc (.int .u32 1996064986), .sc (.int .u32 2554220882), .sc (.int .u32 2821834349), .sc (.int .u32 2952996808), .sc (.int .u32 3210313671), .sc (.int .u32 3336571891), .sc (.int .u32 3584528711), .sc (.int .u32 113926993), .sc (.int .u32 338241895), .sc (.int .u32 666307205), .sc (.int .u32 773529912), .sc (.int .u32 1294757372), .sc (.int .u32 1396182291), .sc (.int .u32 1695183700), .sc (.int .u32 1986661051), .sc (.int .u32 2177026350), .sc (.int .u32 2456956037), .sc (.int .u32 2730485921), .sc (.int .u32 2820302411), .sc (.int .u32 3259730800), .sc (.int .u32 3345764771), .sc (.int .u32 3516065817), .sc (.int .u32 3600352804), .sc (.int .u32 4094571909), .sc (.int .u32 275423344), .sc (.int .u32 430227734), .sc (.int .u32 506948616), .sc (.int .u32 659060556), .sc (.int .u32 883997877), .sc (.int .u32 958139571), .sc (.int .u32 1322822218), .sc (.int .u32 1537002063), .sc (.int .u32 1747873779), .sc (.int .u32 1955562222), .sc (.int .u32 2024104815), .sc (.int .u32 2227730452), .sc (.int .u32 2361852424), .sc (.int .u32 2428436474), .sc (.int .u32 2756734187), .sc (.int .u32 3204031479), .sc (.int .u32 3329325298)]) ([.sc (.int .u32 1779033703), .sc (.int .u32 3144134277), .sc (.int .u32 1013904242), .sc (.int .u32 2773480762), .sc (.int .u32 1359893119), .sc (.int .u32 2600822924), .sc (.int .u32 528734635), .sc (.int .u32 1541459225)]) (List.take (0 + b.length) ([] ++ b) ++ [.sc (.int .u8 128)]) else none else none
theorem e28 (f : Nat) (nl : Bool) (fl : Bool) (b : List PV) (k : Res → Option Res) : evFn tau F28 Try.f28 (Try.f28.body.get!) (an28 (r28_0 f) (r28_1 f) (r28_2 f) (r28_7 f)) [] 0 [.ro 5 nl fl b] [] k = g28 f nl fl b k := by kernel_rfl
theorem it28 (f : Nat) : items (Try.f28.body.get!) (an28 (r28_0 f) (r28_1 f) (r28_2 f) (r28_7 f)) = [.l c28_0 nm28_0 N28 (r28_0 f), .l c28_1 nm28_1 N28 (r28_1 f), .l c28_2 nm28_2 N28 (r28_2 f), .l c28_7 nm28_7 N28 (r28_7 f)] := by kernel_rfl
theorem ia28 (f : Nat) : ∀ q ∈ items (Try.f28.body.get!) (an28 (r28_0 f) (r28_1 f) (r28_2 f) (r28_7 f)), q.Ok tau Try.prog 0 := by
  rw [it28 f]; simp only [List.forall_mem_cons, List.not_mem_nil, false_implies, implies_true, and_true]; exact ⟨i17_0 f, i17_1 f, i17_2 f, i17_7 f⟩
theorem fo28 : Try.prog.funcs[28]? = some Try.f28 := by kernel_rfl
theorem bo28 : Try.f28.body = some (Try.f28.body.get!) := by kernel_rfl
theorem en28 : Enters Try.prog 28 := enters_of fo28 (by kernel_rfl) bo28
end Go.Proofs.Ytcklhipdldpkhaa.Rx

-- FN ref2.Sum
/- The document's sum. Own work. -/
namespace Go.Proofs.Ytcklhipdldpkhaa.Rx
open Go
set_option linter.unusedVariables false
set_option maxRecDepth 100000
set_option maxHeartbeats 1000000
theorem getP_nil (v : PV) : getP v [] = v := rfl
theorem getD8' {R : List Int} (h : R.length = 8) (j : Nat) (hj : j < 8) : (pu .u32 R).getD j .top = .sc (.int .u32 (R.getD j 0)) := pu_get (by omega)
theorem m28_0 (f : Nat) (a b : Bool) (c x y w : List PV) (k0 : Bool → Bool → List PV → Nat → List PV → List PV → List PV → List PV → Option Res) : ∀ (d n : Nat) (L : List Int), zs L.length = d → d < n → L.length + d ≤ 140737488355200 →
    lp28_0 f k0 n a b c L.length x y w (pu .u8 L) = k0 a b c (L.length + d) x y w (pu .u8 (L ++ List.replicate d 0))
  | 0, n + 1, L, hd, hn, hL => by
      simp only [lp28_0, lpS28_0, tmod64]
      refine (bif_f (by simp [zs] at hd ⊢; omega)).trans ?_
      simp
  | d + 1, n + 1, L, hd, hn, hL => by
      have hlt : d + 1 < 64 := by rw [← hd]; unfold zs; omega
      have c3 : roomy (L.length + 1) 1 = true := by simp [roomy]; omega
      simp only [lp28_0, lpS28_0, tmod64, c3, Bool.and_true, cond_true, pu_take]
      refine (bif_t (by simp [zs] at hd ⊢; omega)).trans ?_
      rw [List.take_of_length_le (Nat.le_refl _)]
      have := m28_0 f a b c x y w k0 d n (L ++ [0]) (by simp [zs] at hd ⊢; omega) (by omega) (by simp; omega)
      simp only [List.length_append, List.length_cons, List.length_nil, Nat.zero_add, pu_append] at this
      refine this.trans ?_
      rw [show L.length + 1 + d = L.length + (d + 1) from by omega, List.replicate_succ]
      simp
def lenR (N : Int) (i : Nat) : Int := IntKind.u8.wrap (shrI .u64 N (56 - 8 * (i : Int)))
theorem m28_1 (f : Nat) (N : Int) (x y w : List PV) (k0 : Nat → List PV → List PV → List PV → List PV → Option Res) (L : List Int) (hL : L.length ≤ 140737488355300) : ∀ (d i n : Nat), i + d = 8 → d < n →
    lp28_1 f k0 n (L.length + i) N (7 - (i : Int)) x y w (pu .u8 (L ++ (List.range i).map (lenR N))) = k0 (L.length + 8) x y w (pu .u8 (L ++ (List.range 8).map (lenR N)))
  | 0, i, n + 1, h, hn => by
      obtain rfl : i = 8 := by omega
      simp only [lp28_1, lpS28_1]
      exact bif_f (by decide)
  | d + 1, i, n + 1, h, hn => by
      have h1 : IntKind.i64.wrap (7 - (i : Int) - 1) = 7 - ((i + 1 : Nat) : Int) := by rw [wrap_i64 (by omega) (by omega)]; omega
      have h8 : IntKind.u64.wrap (7 - (i : Int)) = 7 - (i : Int) := by rw [wrap_u64_eq]; omega
      have h9 : IntKind.u64.wrap (8 * (7 - (i : Int))) = 56 - 8 * (i : Int) := by rw [wrap_u64_eq]; omega
      have c1 : decide (7 - (i : Int) ≥ 0) = true := by simp; omega
      have c2 : decide (0 ≤ 56 - 8 * (i : Int)) = true := by simp; omega
      have c3 : roomy (L.length + i + 1) 1 = true := by simp [roomy]; omega
      have hlen : (L ++ (List.range i).map (lenR N)).length = L.length + i := by simp
      simp only [lp28_1, lpS28_1, h1, h8, h9, c1, c2, c3, Bool.and_true, cond_true, pu_take]
      rw [List.take_of_length_le (by omega)]
      have := m28_1 f N x y w k0 L hL d (i + 1) n (by omega) (by omega)
      rw [List.range_succ, List.map_append, ← List.append_assoc, pu_append] at this
      exact this
theorem blk_get (P : List Int) (q j : Nat) (hj : j < 64) : ((P.drop (64 * q)).take 64).getD j 0 = P.getD (64 * q + j) 0 := by
  simp [List.getD_eq_getElem?_getD, hj, List.getElem?_drop]
theorem m28_3 (P : List Int) (q : Nat) (hq : 64 * q + 64 ≤ P.length) (hP : P.length ≤ 140737488356000) (T : List Int) (hT : T.length = 64) (f : Nat) (x y w : List PV) (k0 : Nat → Int → List PV → List PV → List PV → List PV → List PV → Option Res) : ∀ (d i n : Nat), i + d = 16 → d < n →
    lp28_3 f k0 n P.length ((64 * q : Nat) : Int) (i : Int) x y w (pu .u8 P) (pu .u32 (fillM (word ((P.drop (64 * q)).take 64)) T i)) = k0 P.length ((64 * q : Nat) : Int) x y w (pu .u8 P) (pu .u32 (fillM (word ((P.drop (64 * q)).take 64)) T 16))
  | 0, i, n + 1, h, hn => by
      obtain rfl : i = 16 := by omega
      simp only [lp28_3, lpS28_3]
      exact bif_f (by decide)
  | d + 1, i, n + 1, h, hn => by
      have h4 : IntKind.i64.wrap (4 * (i : Int)) = ((4 * i : Nat) : Int) := by rw [wrap_i64 (by omega) (by omega)]; omega
      have h40 : IntKind.i64.wrap (((64 * q : Nat) : Int) + ((4 * i : Nat) : Int)) = ((64 * q + 4 * i : Nat) : Int) := by rw [wrap_i64 (by omega) (by omega)]; omega
      have h41 : IntKind.i64.wrap (((64 * q + 4 * i : Nat) : Int) + 1) = ((64 * q + (4 * i + 1) : Nat) : Int) := by rw [wrap_i64 (by omega) (by omega)]; omega
      have h42 : IntKind.i64.wrap (((64 * q + 4 * i : Nat) : Int) + 2) = ((64 * q + (4 * i + 2) : Nat) : Int) := by rw [wrap_i64 (by omega) (by omega)]; omega
      have h43 : IntKind.i64.wrap (((64 * q + 4 * i : Nat) : Int) + 3) = ((64 * q + (4 * i + 3) : Nat) : Int) := by rw [wrap_i64 (by omega) (by omega)]; omega
      have h5 : IntKind.i64.wrap ((i : Int) + 1) = ((i + 1 : Nat) : Int) := by rw [wrap_i64 (by omega) (by omega)]; omega
      simp only [lp28_3, lpS28_3, h4, h40, h41, h42, h43, h5, Int.toNat_natCast, Nat.zero_add, getP_nil, zi]
      rw [pu_isInt (by omega), pu_isInt (by omega), pu_isInt (by omega), pu_isInt (by omega), pu_int (by omega), pu_int (by omega), pu_int (by omega), pu_int (by omega), pu_set]
      refine (bif_t (by simp; omega)).trans ?_
      refine (bif_t (by simp only [Bool.and_true, Bool.and_eq_true, decide_eq_true_eq]; omega)).trans ?_
      refine (bif_t rfl).trans ?_
      refine (bif_t (by simp only [Bool.and_true, Bool.and_eq_true, decide_eq_true_eq]; omega)).trans ?_
      refine (bif_t rfl).trans ?_
      refine (bif_t (by simp only [Bool.and_true, Bool.and_eq_true, decide_eq_true_eq]; omega)).trans ?_
      refine (bif_t rfl).trans ?_
      refine (bif_t (by simp only [Bool.and_true, Bool.and_eq_true, decide_eq_true_eq]; omega)).trans ?_
      refine (bif_t rfl).trans ?_
      refine (bif_t (by simp only [Bool.and_true, Bool.and_eq_true, decide_eq_true_eq]; omega)).trans ?_
      have := m28_3 P q hq hP T hT f x y w k0 d (i + 1) n (by omega) (by omega)
      rw [← fillM_set _ T i (by omega), word, blk_get P q _ (by omega), blk_get P q _ (by omega), blk_get P q _ (by omega), blk_get P q _ (by omega)] at this
      exact this
def fillT (bs T : List Int) (i : Nat) : List Int := sched bs i ++ T.drop (16 + i)
theorem fillT_length (bs T : List Int) (hT : T.length = 64) (i : Nat) (h : i ≤ 48) : (fillT bs T i).length = 64 := by simp [fillT, sched_length, hT]; omega
theorem fillT_get (bs T : List Int) (i j : Nat) (h : j < 16 + i) : (fillT bs T i).getD j 0 = (sched bs i).getD j 0 := by
  simp only [fillT, List.getD_eq_getElem?_getD]
  rw [List.getElem?_append_left (by rw [sched_length]; exact h)]
theorem fillT_set (bs T : List Int) (hT : T.length = 64) (i : Nat) (h : i < 48) (x : Int) : (fillT bs T i).set (i + 16) x = (sched bs i ++ [x]) ++ T.drop (16 + (i + 1)) := by
  rw [fillT, List.set_append_right _ _ (by rw [sched_length]; omega), sched_length, List.drop_eq_getElem_cons (by omega), show i + 16 - (16 + i) = 0 from by omega, List.set_cons_zero]
  simp [Nat.add_assoc]
theorem nxtW_eq (w16 w15 w7 w2 : Int) : ww (ww (ww (sg1 w2 + w7) + sg0 w15) + w16) = nxtW w16 w15 w7 w2 := by
  simp only [nxtW, ww, wrap_u32_eq]; omega
theorem m28_4 (bs T : List Int) (hT : T.length = 64) (f : Nat) (l : Nat) (p : Int) (x y w e : List PV) (k0 : Nat → Int → List PV → List PV → List PV → List PV → List PV → Option Res) : ∀ (d i n : Nat), i + d = 48 → d < n →
    lp28_4 f k0 n l p ((i + 16 : Nat) : Int) x y w e (pu .u32 (fillT bs T i)) = k0 l p x y w e (pu .u32 (spreadP bs))
  | 0, i, n + 1, h, hn => by
      obtain rfl : i = 48 := by omega
      simp only [lp28_4, lpS28_4]
      refine (bif_f (by decide)).trans ?_
      rw [fillT, List.drop_of_length_le (by omega), List.append_nil]; rfl
  | d + 1, i, n + 1, h, hn => by
      have h15 : IntKind.i64.wrap (((i + 16 : Nat) : Int) - 15) = ((i + 1 : Nat) : Int) := by rw [wrap_i64 (by omega) (by omega)]; omega
      have h2 : IntKind.i64.wrap (((i + 16 : Nat) : Int) - 2) = ((i + 14 : Nat) : Int) := by rw [wrap_i64 (by omega) (by omega)]; omega
      have h16 : IntKind.i64.wrap (((i + 16 : Nat) : Int) - 16) = ((i : Nat) : Int) := by rw [wrap_i64 (by omega) (by omega)]; omega
      have h7 : IntKind.i64.wrap (((i + 16 : Nat) : Int) - 7) = ((i + 9 : Nat) : Int) := by rw [wrap_i64 (by omega) (by omega)]; omega
      have h1 : IntKind.i64.wrap (((i + 16 : Nat) : Int) + 1) = ((i + 1 + 16 : Nat) : Int) := by rw [wrap_i64 (by omega) (by omega)]; omega
      have hl := fillT_length bs T hT i (by omega)
      simp only [lp28_4, lpS28_4, h15, h2, h16, h7, h1, Int.toNat_natCast, zi, getP_ar]
      rw [pu_isInt (by omega), pu_isInt (by omega), pu_isInt (by omega), pu_isInt (by omega), pu_int (by omega), pu_int (by omega), pu_int (by omega), pu_int (by omega), pu_set]
      refine (bif_t (by simp; omega)).trans ?_
      refine (bif_t (by simp; omega)).trans ?_
      refine (bif_t rfl).trans ?_
      refine (bif_t (by simp; omega)).trans ?_
      refine (bif_t rfl).trans ?_
      refine (bif_t (by simp; omega)).trans ?_
      refine (bif_t rfl).trans ?_
      refine (bif_t (by simp; omega)).trans ?_
      refine (bif_t rfl).trans ?_
      refine (bif_t (by simp; omega)).trans ?_
      have := m28_4 bs T hT f l p x y w e k0 d (i + 1) n (by omega) (by omega)
      rw [fillT_get bs T i i (by omega), fillT_get bs T i (i + 1) (by omega), fillT_get bs T i (i + 9) (by omega), fillT_get bs T i (i + 14) (by omega), fillT_set bs T hT i (by omega)]
      have hn := nxtW_eq ((sched bs i).getD i 0) ((sched bs i).getD (i + 1) 0) ((sched bs i).getD (i + 9) 0) ((sched bs i).getD (i + 14) 0)
      rw [fillT, sched, ← hn] at this
      exact this
theorem m28_5 (W s : List Int) (hW : W.length = 64) (hs : s.length = 8) (f : Nat) (l : Nat) (p : Int) (x w e : List PV) (k0 : Nat → Int → List PV → List PV → List PV → List PV → List PV → List PV → Option Res) : ∀ (d i n : Nat), i + d = 64 → d < n →
    lp28_5 f k0 n l p (i : Int) x (pu .u32 kks) w e (pu .u32 W) (pu .u32 (rnds W s i)) = k0 l p x (pu .u32 kks) w e (pu .u32 W) (pu .u32 (rnds W s 64))
  | 0, i, n + 1, h, hn => by
      obtain rfl : i = 64 := by omega
      simp only [lp28_5, lpS28_5]
      exact bif_f (by decide)
  | d + 1, i, n + 1, h, hn => by
      have hl := rnds_length W s hs i
      have h1 : IntKind.i64.wrap ((i : Int) + 1) = ((i + 1 : Nat) : Int) := by rw [wrap_i64 (by omega) (by omega)]; omega
      have hk : (pu .u32 kks).getD i .top = .sc (.int .u32 (kks.getD i 0)) := pu_get (by show i < 64; omega)
      have hw : (pu .u32 W).getD i .top = .sc (.int .u32 (W.getD i 0)) := pu_get (by omega)
      have c1 : decide ((i : Int) < 64) = true := by simp; omega
      have c2 : decide (0 ≤ (i : Int)) = true := by simp
      have c3 : decide ((i : Int) < zi 64) = true := by simp; omega
      simp only [lp28_5, lpS28_5, getP_ar, Int.toNat_natCast, h1, hk, hw, c1, c2, c3, getD8' hl 0 (by omega), getD8' hl 1 (by omega), getD8' hl 2 (by omega), getD8' hl 3 (by omega), getD8' hl 4 (by omega), getD8' hl 5 (by omega), getD8' hl 6 (by omega), getD8' hl 7 (by omega), PV.isInt, PV.int, decide_true, Bool.and_true, cond_true]
      exact m28_5 W s hW hs f l p x w e k0 d (i + 1) n (by omega) (by omega)
theorem m28_6 (t s : List Int) (ht : t.length = 8) (hs : s.length = 8) (f : Nat) (l : Nat) (p : Int) (x y e u : List PV) (k0 : Nat → Int → List PV → List PV → List PV → List PV → List PV → Option Res) : ∀ (d i n : Nat), i + d = 8 → d < n →
    lp28_6 f k0 n l p (i : Int) x y (pu .u32 (fillM (fun j => ww (t.getD j 0 + s.getD j 0)) s i)) e u (pu .u32 t) = k0 l p x y (pu .u32 ((List.range 8).map fun j => ww (t.getD j 0 + s.getD j 0))) e u
  | 0, i, n + 1, h, hn => by
      obtain rfl : i = 8 := by omega
      simp only [lp28_6, lpS28_6]
      refine (bif_f (by decide)).trans ?_
      have := fillM_full (fun j => ww (t.getD j 0 + s.getD j 0)) s
      rw [hs] at this; rw [this]
  | d + 1, i, n + 1, h, hn => by
      have hl : (fillM (fun j => ww (t.getD j 0 + s.getD j 0)) s i).length = 8 := by rw [fillM_length _ _ _ (by omega), hs]
      have h1 : IntKind.i64.wrap ((i : Int) + 1) = ((i + 1 : Nat) : Int) := by rw [wrap_i64 (by omega) (by omega)]; omega
      have c1 : decide ((i : Int) < 8) = true := by simp; omega
      have c2 : decide (0 ≤ (i : Int)) = true := by simp
      have c3 : decide ((i : Int) < zi 8) = true := by simp; omega
      have g1 : ((i : Int)).toNat = i := by omega
      simp only [lp28_6, lpS28_6, getP_ar, g1, h1, c1, c2, c3, getD8' hl i (by omega), getD8' ht i (by omega), fillM_get _ s i (by omega), PV.isInt, PV.int, decide_true, Bool.and_true, cond_true, pu_set]
      have := m28_6 t s ht hs f l p x y e u k0 d (i + 1) n (by omega) (by omega)
      rw [← fillM_set _ s i (by omega), Int.add_comm (t.getD i 0)] at this
      exact this
theorem outB0 (s : List Int) (i : Nat) : outB s (4 * i) = IntKind.u8.wrap (shrI .u32 (s.getD i 0) 24) := by
  rw [outB, show 4 * i / 4 = i from by omega, show 4 * i % 4 = 0 from by omega]; rfl
theorem outB1 (s : List Int) (i : Nat) : outB s (4 * i + 1) = IntKind.u8.wrap (shrI .u32 (s.getD i 0) 16) := by
  rw [outB, show (4 * i + 1) / 4 = i from by omega, show (4 * i + 1) % 4 = 1 from by omega]; rfl
theorem outB2 (s : List Int) (i : Nat) : outB s (4 * i + 2) = IntKind.u8.wrap (shrI .u32 (s.getD i 0) 8) := by
  rw [outB, show (4 * i + 2) / 4 = i from by omega, show (4 * i + 2) % 4 = 2 from by omega]; rfl
theorem outB3 (s : List Int) (i : Nat) : outB s (4 * i + 3) = IntKind.u8.wrap (s.getD i 0) := by
  rw [outB, show (4 * i + 3) / 4 = i from by omega, show (4 * i + 3) % 4 = 3 from by omega]
  have : shrI .u32 (s.getD i 0) (24 - 8 * ((3 : Nat) : Int)) = s.getD i 0 := by
    have h0 : (24 - 8 * ((3 : Nat) : Int)) = 0 := by decide
    rw [h0]; simp [shrI]
  rw [this]
theorem m28_7 (s : List Int) (hs : s.length = 8) (f : Nat) (k0 : List PV → List PV → Option Res) (a : List PV) (t : List Int) (ht : t.length = 32) : ∀ (d i n : Nat), i + d = 8 → d < n →
    lp28_7 f k0 n (i : Int) a (pu .u32 s) (pu .u8 (fillM (outB s) t (4 * i))) = k0 a (pu .u8 (outP s))
  | 0, i, n + 1, h, hn => by
      obtain rfl : i = 8 := by omega
      simp only [lp28_7, lpS28_7]
      refine (bif_f (by decide)).trans ?_
      have := fillM_full (outB s) t
      rw [ht] at this; rw [show 4 * 8 = 32 from rfl, this]; rfl
  | d + 1, i, n + 1, h, hn => by
      have h1 : IntKind.i64.wrap ((i : Int) + 1) = ((i + 1 : Nat) : Int) := by rw [wrap_i64 (by omega) (by omega)]; omega
      have h4 : IntKind.i64.wrap (4 * (i : Int)) = ((4 * i : Nat) : Int) := by rw [wrap_i64 (by omega) (by omega)]; omega
      have h41 : IntKind.i64.wrap (((4 * i : Nat) : Int) + 1) = ((4 * i + 1 : Nat) : Int) := by rw [wrap_i64 (by omega) (by omega)]; omega
      have h42 : IntKind.i64.wrap (((4 * i : Nat) : Int) + 2) = ((4 * i + 2 : Nat) : Int) := by rw [wrap_i64 (by omega) (by omega)]; omega
      have h43 : IntKind.i64.wrap (((4 * i : Nat) : Int) + 3) = ((4 * i + 3 : Nat) : Int) := by rw [wrap_i64 (by omega) (by omega)]; omega
      have c1 : decide ((i : Int) < 8) = true := by simp; omega
      have c2 : decide (0 ≤ (i : Int)) = true := by simp
      have c3 : decide ((i : Int) < zi 8) = true := by simp; omega
      have b0 : (decide (0 ≤ ((4 * i : Nat) : Int)) && decide (((4 * i : Nat) : Int) < zi 32) && true) = true := by simp; omega
      have b1 : (decide (0 ≤ ((4 * i + 1 : Nat) : Int)) && decide (((4 * i + 1 : Nat) : Int) < zi 32) && true) = true := by simp; omega
      have b2 : (decide (0 ≤ ((4 * i + 2 : Nat) : Int)) && decide (((4 * i + 2 : Nat) : Int) < zi 32) && true) = true := by simp; omega
      have b3 : (decide (0 ≤ ((4 * i + 3 : Nat) : Int)) && decide (((4 * i + 3 : Nat) : Int) < zi 32) && true) = true := by simp; omega
      have g1 : ((i : Int)).toNat = i := by omega
      have g2 : (((4 * i : Nat) : Int)).toNat = 4 * i := by omega
      have g3 : (((4 * i + 1 : Nat) : Int)).toNat = 4 * i + 1 := by omega
      have g4 : (((4 * i + 2 : Nat) : Int)).toNat = 4 * i + 2 := by omega
      have g5 : (((4 * i + 3 : Nat) : Int)).toNat = 4 * i + 3 := by omega
      simp only [lp28_7, lpS28_7, h1, h4, h41, h42, h43, b0, b1, b2, b3, g1, g2, g3, g4, g5, getP_ar, c1, c2, c3, getD8' hs i (by omega), PV.isInt, PV.int, decide_true, Bool.and_true, cond_true, pu_set]
      have := m28_7 s hs f k0 a t ht d (i + 1) n (by omega) (by omega)
      rw [show 4 * (i + 1) = 4 * i + 3 + 1 from by omega, ← fillM_set (outB s) t (4 * i + 3) (by omega), ← fillM_set (outB s) t (4 * i + 2) (by omega), ← fillM_set (outB s) t (4 * i + 1) (by omega), ← fillM_set (outB s) t (4 * i) (by omega), outB0, outB1, outB2, outB3] at this
      exact this
theorem m28_2 (P : List Int) (m : Nat) (hP : P.length = 64 * m) (hb : P.length ≤ 140737488356000) (f : Nat) (hf : 100 ≤ f) (x : List PV) (k0 : List PV → List PV → Option Res) : ∀ (d i n : Nat) (T : List Int), i + d = m → d < n → T.length = 64 →
    lp28_2 f k0 n P.length ((64 * i : Nat) : Int) x (pu .u32 kks) (pu .u32 (foldB iv P i)) (pu .u8 P) (pu .u32 T) = k0 x (pu .u32 (foldB iv P m))
  | 0, i, n + 1, T, h, hn, hT => by
      obtain rfl : i = m := by omega
      simp only [lp28_2, lpS28_2]
      exact bif_f (by simp [zi]; omega)
  | d + 1, i, n + 1, T, h, hn, hT => by
      have hfl := foldB_length iv P rfl i
      simp only [lp28_2, lpS28_2]
      refine (bif_t (by simp [zi]; omega)).trans ?_
      have e3 := fun kk => m28_3 P i (by omega) hb T hT f x (pu .u32 kks) (pu .u32 (foldB iv P i)) kk 16 0 f (by omega) (by omega)
      have e4 := fun kk => m28_4 ((P.drop (64 * i)).take 64) T hT f P.length ((64 * i : Nat) : Int) x (pu .u32 kks) (pu .u32 (foldB iv P i)) (pu .u8 P) kk 48 0 f (by omega) (by omega)
      have hW : (spreadP ((P.drop (64 * i)).take 64)).length = 64 := sched_length _ 48
      have e5 := fun kk => m28_5 (spreadP ((P.drop (64 * i)).take 64)) (foldB iv P i) hW hfl f P.length ((64 * i : Nat) : Int) x (pu .u32 (foldB iv P i)) (pu .u8 P) kk 64 0 f (by omega) (by omega)
      have e6 := fun kk => m28_6 (rnds (spreadP ((P.drop (64 * i)).take 64)) (foldB iv P i) 64) (foldB iv P i) (rnds_length _ _ hfl 64) hfl f P.length ((64 * i : Nat) : Int) x (pu .u32 kks) (pu .u8 P) (pu .u32 (spreadP ((P.drop (64 * i)).take 64))) kk 8 0 f (by omega) (by omega)
      have h0 : fillM (word ((P.drop (64 * i)).take 64)) T 16 = fillT ((P.drop (64 * i)).take 64) T 0 := rfl
      rw [fillM_zero] at e6
      simp only [fillM_zero] at e3
      refine (e3 _).trans ?_
      rw [h0]
      refine (e4 _).trans ?_
      refine (e5 _).trans ?_
      refine (e6 _).trans ?_
      have h1 : IntKind.i64.wrap (((64 * i : Nat) : Int) + 64) = ((64 * (i + 1) : Nat) : Int) := by rw [wrap_i64 (by omega) (by omega)]; omega
      rw [h1]
      exact m28_2 P m hP hb f hf x k0 d (i + 1) n (spreadP ((P.drop (64 * i)).take 64)) (by omega) (by omega) hW
theorem g28_eq (bs : List Int) (hb : bs.length ≤ 140737488355000) (nl fl : Bool) (k : Res → Option Res) : g28 ((padP bs).length / 64 + 100) nl fl (pu .u8 bs) k = k ⟨.ar 37 (pu .u8 (sumP bs)), [], []⟩ := by
  rw [sumP_eq]
  have hlen : (padP bs).length = bs.length + 1 + zs (bs.length + 1) + 8 := by simp [padP, lenB]; omega
  have hz : zs (bs.length + 1) < 64 := by unfold zs; omega
  have h64 : (padP bs).length = 64 * ((padP bs).length / 64) := padP_length bs
  generalize hf : (padP bs).length / 64 + 100 = f
  refine (bif_t (by simp [roomy]; omega)).trans ?_
  refine (bif_t (by simp [roomy]; omega)).trans ?_
  have hL : List.take (0 + (pu .u8 bs).length) ([] ++ pu .u8 bs) ++ [PV.sc (Value.int IntKind.u8 128)] = pu .u8 (bs ++ [128]) := by
    rw [List.take_of_length_le (by simp)]; simp
  rw [hL]
  have e0 := fun kk x y w => m28_0 f nl fl (pu .u8 bs) x y w kk (zs (bs.length + 1)) f (bs ++ [128]) (by simp) (by omega) (by simp; omega)
  simp only [List.length_append, List.length_cons, List.length_nil, Nat.zero_add] at e0
  have hl1 : 0 + (pu .u8 bs).length + 1 = bs.length + 1 := by simp
  rw [hl1]
  refine (e0 _ _ _ _).trans ?_
  have e1 := fun kk x y w => m28_1 f (IntKind.u64.wrap (IntKind.u64.wrap (zi (pu .u8 bs).length) * 8)) x y w kk (bs ++ [128] ++ List.replicate (zs (bs.length + 1)) 0) (by simp; omega) 8 0 f (by omega) (by omega)
  have hl2 : (bs ++ [128] ++ List.replicate (zs (bs.length + 1)) 0).length = bs.length + 1 + zs (bs.length + 1) := by simp; omega
  rw [hl2] at e1
  simp only [List.range_zero, List.map_nil, List.append_nil, Nat.add_zero] at e1
  refine (e1 _ _ _ _).trans ?_
  have hPd : bs ++ [128] ++ List.replicate (zs (bs.length + 1)) 0 ++ (List.range 8).map (lenR (IntKind.u64.wrap (IntKind.u64.wrap (zi (pu .u8 bs).length) * 8))) = padP bs := by
    rw [pu_length]; rfl
  rw [hPd, ← hlen]
  have e2 := fun kk x => m28_2 (padP bs) ((padP bs).length / 64) h64 (by omega) f (by omega) x kk ((padP bs).length / 64) 0 f (List.replicate 64 0) (by omega) (by omega) (by simp)
  refine (e2 _ _).trans ?_
  have hfl := foldB_length iv (padP bs) rfl ((padP bs).length / 64)
  have e7 := fun kk a => m28_7 (foldB iv (padP bs) ((padP bs).length / 64)) hfl f kk a (List.replicate 32 0) (by simp) 8 0 f (by omega) (by omega)
  simp only [Nat.mul_zero, fillM_zero] at e7
  exact e7 _ _
def run28' : List PV → List Ent → (Res → Option Res) → Option Res
  | [.ro 5 nl fl b], [], k => bif allInt .u8 b && decide (b.length ≤ 140737488355000) then k ⟨.ar 37 (pu .u8 (sumP (ints b))), [], []⟩ else none
  | _, _, _ => none
def s28' : Sig := { own := [], run := run28' }
theorem ok28' : CallOk tau Try.prog 28 s28' := fn_ok2 tabOk F28_ok mixed fo28 bo28 (fun n => an28 (r28_0 n) (r28_1 n) (r28_2 n) (r28_7 n)) [] 0 [] run28' (fun n => ia28 n) fun xs es k res hr => by
  unfold run28' at hr
  split at hr
  · rename_i nl fl l
    obtain ⟨hc, hr⟩ := of_bif hr
    simp only [Bool.and_eq_true, decide_eq_true_eq] at hc
    refine ⟨rfl, (padP (ints l)).length / 64 + 100, 0, (e28 _ _ _ _ _).trans ?_⟩
    have he := pu_ints hc.1
    have := g28_eq (ints l) (by simpa using hc.2) nl fl k
    rw [← he] at this
    rw [this]; exact hr
  · cases hr
end Go.Proofs.Ytcklhipdldpkhaa.Rx

/- What comitia/comitiaref3.Mac computes. Own work, printed by a program of the worker's own. -/
namespace Go.Proofs.Ytcklhipdldpkhaa.Rx
open Go
set_option linter.unusedVariables false
set_option maxRecDepth 100000
set_option maxHeartbeats 0
def N36 : Nat := 53
noncomputable def F36 : Fns := addF 28 s28' (F0)
theorem F36_ok : FnsOk tau Try.prog F36 := (F0_ok).add ok28' en28
noncomputable def c36_0 : Code := subC (Try.f36.body.get!) [1, 1, 1, 1, 0, 1, 0, 0]
def nm36_0 : Nm := [(1, .any), (4, .any), (5, .any), (7, .any), (8, .any), (9, .any)]
def nx36_0 : Nm := [(1, .any), (4, .any), (7, .any), (8, .any)]
def x36_0 : An := (.seq (.seq .leaf (.cond .leaf .leaf)) (.seq (.block none .leaf) .leaf))
def an36 (r0 : RunL) : An := (.seq .leaf (.seq .leaf (.seq (.seq .leaf (.cond (.seq .leaf .leaf) .leaf)) (.seq .leaf (.seq (.seq .leaf (.block none (.sum nm36_0 N36 r0))) (.seq .leaf (.seq .leaf .leaf)))))))
noncomputable def lpS36_0 (f : Nat) (rc : Bool → Bool → List PV → Int → List PV → List PV → List PV → List PV → Option Res) (k0 : Bool → Bool → List PV → List PV → List PV → List PV → Option Res) (v0 : Bool) (v1 : Bool) (v2 : List PV) (v3 : Int) (v4 : List PV) (v5 : List PV) (v6 : List PV) (v7 : List PV) : Option Res := bif decide (v3 < 64) then bif decide (0 ≤ v3) && decide (v3 < zi 64) && true then bif PV.isInt IntKind.u8 (getP (v5.getD (0 + v3.toNat) PV.top) []) && true then bif decide (0 ≤ v3) && decide (v3 < zi 64) && true then bif PV.isInt IntKind.u8 (getP (v5.getD (0 + v3.toNat) PV.top) []) && true then bif decide (0 ≤ v3) && decide (v3 < zi 64) && true then bif decide (0 ≤ v3) && decide (v3 < zi 64) && true then rc v0 v1 v2 (IntKind.i64.wrap (v3 + 1)) v4 v5 (v6.set (0 + v3.toNat) (.sc (.int .u8 (bitI BinOp.xor IntKind.u8 (getP (v5.getD (0 + v3.toNat) PV.top) []).int 54)))) (v7.set (0 + v3.toNat) (.sc (.int .u8 (bitI BinOp.xor IntKind.u8 (getP (v5.getD (0 + v3.toNat) PV.top) []).int 92)))) else none else none else none else none else none else none else k0 v0 v1 v2 v4 v6 v7
noncomputable def lp36_0 (f : Nat) (k0 : Bool → Bool → List PV → List PV → List PV → List PV → Option Res) : Nat → Bool → Bool → List PV → Int → List PV → List PV → List PV → List PV → Option Res
  | 0, _, _, _, _, _, _, _, _ => none
  | n + 1, v0, v1, v2, v3, v4, v5, v6, v7 => lpS36_0 f (lp36_0 f k0 n) k0 v0 v1 v2 v3 v4 v5 v6 v7
theorem lpR36_0 (f : Nat) (k : Kont) (n : Nat) (v0 : Bool) (v1 : Bool) (v2 : List PV) (v3 : Int) (v4 : List PV) (v5 : List PV) (v6 : List PV) (v7 : List PV) : evLoop tau 0 nm36_0 (fun s k => ev tau F36 0 0 c36_0 (x36_0 ) s k) (n + 1) (fillS nm36_0 N36 [.ro 5 v0 v1 v2, .ptr 864 [], .ow 5 865 [] 0 64 (some 64), .ow 5 866 [] 0 64 (some 64), .ow 5 867 [] 0 64 (some 64), .sc (.int .i64 v3)] [(864, .box false 37 (PV.ar 37 v4)), (865, .vec false 5 false v5), (866, .vec false 5 false v6), (867, .vec false 5 false v7)]) (kNorm tau 0 nx36_0 k) = lpS36_0 f (fun v0 v1 v2 v3 v4 v5 v6 v7 => evLoop tau 0 nm36_0 (fun s k => ev tau F36 0 0 c36_0 (x36_0 ) s k) n (fillS nm36_0 N36 [.ro 5 v0 v1 v2, .ptr 864 [], .ow 5 865 [] 0 64 (some 64), .ow 5 866 [] 0 64 (some 64), .ow 5 867 [] 0 64 (some 64), .sc (.int .i64 v3)] [(864, .box false 37 (PV.ar 37 v4)), (865, .vec false 5 false v5), (866, .vec false 5 false v6), (867, .vec false 5 false v7)]) (kNorm tau 0 nx36_0 k)) (fun x0 x1 x2 x3 x4 x5 => k (Ex.exit 0) (fillS nx36_0 N36 [.ro 5 x0 x1 x2, .ptr 864 [], .ow 5 865 [] 0 64 (some 64), .ow 5 866 [] 0 64 (some 64)] [(864, .box false 37 (PV.ar 37 x3)), (865, .vec false 5 false x4), (866, .vec false 5 false x5)])) v0 v1 v2 v3 v4 v5 v6 v7 := by kernel_rfl
theorem lpE36_0 (f : Nat) (k : Kont) : ∀ (n : Nat) (v0 : Bool) (v1 : Bool) (v2 : List PV) (v3 : Int) (v4 : List PV) (v5 : List PV) (v6 : List PV) (v7 : List PV), evLoop tau 0 nm36_0 (fun s k => ev tau F36 0 0 c36_0 (x36_0 ) s k) n (fillS nm36_0 N36 [.ro 5 v0 v1 v2, .ptr 864 [], .ow 5 865 [] 0 64 (some 64), .ow 5 866 [] 0 64 (some 64), .ow 5 867 [] 0 64 (some 64), .sc (.int .i64 v3)] [(864, .box false 37 (PV.ar 37 v4)), (865, .vec false 5 false v5), (866, .vec false 5 false v6), (867, .vec false 5 false v7)]) (kNorm tau 0 nx36_0 k) = lp36_0 f (fun x0 x1 x2 x3 x4 x5 => k (Ex.exit 0) (fillS nx36_0 N36 [.ro 5 x0 x1 x2, .ptr 864 [], .ow 5 865 [] 0 64 (some 64), .ow 5 866 [] 0 64 (some 64)] [(864, .box false 37 (PV.ar 37 x3)), (865, .vec false 5 false x4), (866, .vec false 5 false x5)])) n v0 v1 v2 v3 v4 v5 v6 v7 | 0, _, _, _, _, _, _, _, _ => rfl | n + 1, v0, v1, v2, v3, v4, v5, v6, v7 => (lpR36_0 f k n v0 v1 v2 v3 v4 v5 v6 v7).trans (congrArg (fun r => lpS36_0 f r (fun x0 x1 x2 x3 x4 x5 => k (Ex.exit 0) (fillS nx36_0 N36 [.ro 5 x0 x1 x2, .ptr 864 [], .ow 5 865 [] 0 64 (some 64), .ow 5 866 [] 0 64 (some 64)] [(864, .box false 37 (PV.ar 37 x3)), (865, .vec false 5 false x4), (866, .vec false 5 false x5)])) v0 v1 v2 v3 v4 v5 v6 v7) (by funext v0 v1 v2 v3 v4 v5 v6 v7; exact lpE36_0 f k n v0 v1 v2 v3 v4 v5 v6 v7))
noncomputable def r36_0 (f : Nat) : List PV → List (Nat × Ent) → Kont → Option Res
  | [.ro 5 v0 v1 v2, .ptr 864 [], .ow 5 865 [] 0 64 (some 64), .ow 5 866 [] 0 64 (some 64), .ow 5 867 [] 0 64 (some 64),
  PV.sc
    (Value.int IntKind.i64
      v3)], [(864, .box false 37 (PV.ar 37 v4)), (865, .vec false 5 false v5), (866, .vec false 5 false v6),
  (867,
    Ent.vec false 5 false
      v7)], k => lp36_0 f (fun x0 x1 x2 x3 x4 x5 => k (Ex.exit
  0) (fillS nx36_0 N36 [.ro 5 x0 x1 x2, .ptr 864 [], .ow 5 865 [] 0 64 (some 64),
  PV.ow 5 866 [] 0 64 (some 64)] [(864, .box false 37 (PV.ar 37 x3)), (865, .vec false 5 false x4), (866, .vec false 5 false x5)])) f v0 v1 v2 v3 v4 v5 v6 v7
  | _, _, _ => none
theorem it36_0 (f : Nat) : items c36_0 x36_0 = [] := by kernel_rfl
theorem i36_0 (f : Nat) : (Item.l c36_0 nm36_0 N36 (r36_0 f)).Ok tau Try.prog 0 := loop_item tabOk F36_ok mixed (x := x36_0) (nm2 := nx36_0) (anOk_items _ _ (by rw [it36_0 f]; intro q hq; cases hq)) fun vs hp k res hr => by
  unfold r36_0 at hr
  split at hr
  · exact ⟨f, 0, (lpE36_0 f _ f _ _ _ _ _ _ _ _ ).trans hr⟩
  · cases hr
noncomputable def g36 (f : Nat) (key_z : Bool) (key_f : Bool) (key : List PV) (text_z : Bool) (text_f : Bool) (text : List PV) (k : Res → Option Res) : Option Res := bif decide (zi key.length > 64) then bif allInt IntKind.u8 key && decide (key.length ≤ 140737488355000) then lp36_0 f (fun x0_0 x1_0 x2_0 x3_0 x4_0 x5_0 => bif roomy (64 + x2_0.length) 1 && true then bif allInt IntKind.u8 (List.take (64 + x2_0.length) (List.take 64 x4_0 ++ x2_0)) && decide ((List.take (64 + x2_0.length) (List.take 64 x4_0 ++ x2_0)).length ≤ 140737488355000) then bif roomy (64 + (List.take 32 (pu IntKind.u8 (sumP (ints (List.take (64 + x2_0.length) (List.take 64 x4_0 ++ x2_0)))))).length) 1 && true then bif allInt IntKind.u8 (List.take (64 + (List.take 32 (pu IntKind.u8 (sumP (ints (List.take (64 + x2_0.length) (List.take 64 x4_0 ++ x2_0)))))).length) (List.take 64 x5_0 ++ List.take 32 (pu IntKind.u8 (sumP (ints (List.take (64 + x2_0.length) (List.take 64 x4_0 ++ x2_0))))))) && decide ((List.take (64 + (List.take 32 (pu IntKind.u8 (sumP (ints (List.take (64 + x2_0.length) (List.take 64 x4_0 ++ x2_0)))))).length) (List.take 64 x5_0 ++ List.take 32 (pu IntKind.u8 (sumP (ints (List.take (64 + x2_0.length) (List.take 64 x4_0 ++ x2_0))))))).length ≤ 140737488355000) then k (Res.mk (.ar 37 (pu IntKind.u8 (sumP (ints (List.take (64 + (List.take 32 (pu IntKind.u8 (sumP (ints (List.take (64 + x2_0.length) (List.take 64 x4_0 ++ x2_0)))))).length) (List.take 64 x5_0 ++ List.take 32 (pu IntKind.u8 (sumP (ints (List.take (64 + x2_0.length) (List.take 64 x4_0 ++ x2_0))))))))))) [] []) else none else none else none else none) f text_z text_f text (0) ([.sc (.int .u8 0), .sc (.int .u8 0), .sc (.int .u8 0), .sc (.int .u8 0), .sc (.int .u8 0), .sc (.int .u8 0), .sc (.int .u8 0), .sc (.int .u8 0), .sc (.int .u8 0), .sc (.int .u8 0), .sc (.int .u8 0), .sc (.int .u8 0), .sc (.int .u8 0), .sc (.int .u8 0), .sc (.int .u8 0), .sc (.int .u8 0), .sc (.int .u8 0), .sc (.int .u8 0), .sc (.int .u8 0), .sc (.int .u8 0), .sc (.int .u8 0), .sc (.int .u8 0), .sc (.int .u8 0), .sc (.int .u8 0), .sc (.int .u8 0), .sc (.int .u8 0), .sc (.int .u8 0), .sc (.int .u8 0), .sc (.int .u8 0), .sc (.int .u8 0), .sc (.int .u8 0), .sc (.int .u8 0)]) (List.take 64 (List.take 32 (pu IntKind.u8 (sumP (ints key)))) ++ List.drop (0 + min (List.take 32 (pu IntKind.u8 (sumP (ints key)))).length 64) [.sc (.int .u8 0), .sc (.int .u8 0), .sc (.int .u8 0), .sc (.int .u8 0), .sc (.int .u8 0), .sc (.int .u8 0), .sc (.int .u8 0), .sc (.int .u8 0), .sc (.int .u8 0), .sc (.int .u8 0), .sc (.int .u8 0), .sc (.int .u8 0), .sc (.int .u8 0), .sc (.int .u8 0), .sc (.int .u8 0), .sc (.int .u8 0), .sc (.int .u8 0), .sc (.int .u8 0), .sc (.int .u8 0), .sc (.int .u8 0), .sc (.int .u8 0), .sc (.int .u8 0), .sc (.int .u8 0), .sc (.int .u8 0), .sc (.int .u8 0), .sc (.int .u8 0), .sc (.int .u8 0), .sc (.int .u8 0), .sc (.int .u8 0), .sc (.int .u8 0), .sc (.int .u8 0), .sc (.int .u8 0), .sc (.int .u8 0), .sc (.int .u8 0), .sc (.int .u8 0), .sc (.int .u8 0), .sc (.int .u8 0), .sc (.int .u8 0), .sc (.int .u8 0), .sc (.int .u8 0), .sc (.int .u8 0), .sc (.int .u8 0), .sc (.int .u8 0), .sc (.int .u8 0), .sc (.int .u8 0), .sc (.int .u8 0), .sc (.int .u8 0), .sc (.int .u8 0), .sc (.int .u8 0), .sc (.int .u8 0), .sc (.int .u8 0), .sc (.int .u8 0), .sc (.int .u8 0), .sc (.int .u8 0), .sc (.int .u8 0), .sc (.int .u8 0), .sc (.int .u8 0), .sc (.int .u8 0), .sc (.int .u8 0), .sc (.int .u8 0), .sc (.int .u8 0), .sc (.int .u8 0), .sc (.int .u8 0), .sc (.int .u8 0)]) ([.sc (.int .u8 0), .sc (.int .u8 0), .sc (.int .u8 0), .sc (.int .u8 0), .sc (.int .u8 0), .sc (.int .u8 0), .sc (.int .u8 0), .sc (.int .u8 0), .sc (.int .u8 0), .sc (.int .u8 0), .sc (.int .u8 0), .sc (.int .u8 0), .sc (.int .u8 0), .sc (.int .u8 0), .sc (.int .u8 0), .sc (.int .u8 0), .sc (.int .u8 0), .sc (.int .u8 0), .sc (.int .u8 0), .sc (.int .u8 0), .sc (.int .u8 0), .sc (.int .u8 0), .sc (.int .u8 0), .sc (.int .u8 0), .sc (.int .u8 0), .sc (.int .u8 0), .sc (.int .u8 0), .sc (.int .u8 0), .sc (.int .u8 0), .sc (.int .u8 0), .sc (.int .u8 0), .sc (.int .u8 0), .sc (.int .u8 0), .sc (.int .u8 0), .sc (.int .u8 0), .sc (.int .u8 0), .sc (.int .u8 0), .sc (.int .u8 0), .sc (.int .u8 0), .sc (.int .u8 0), .sc (.int .u8 0), .sc (.int .u8 0), .sc (.int .u8 0), .sc (.int .u8 0), .sc (.int .u8 0), .sc (.int .u8 0), .sc (.int .u8 0), .sc (.int .u8 0), .sc (.int .u8 0), .sc (.int .u8 0), .sc (.int .u8 0), .sc (.int .u8 0), .sc (.int .u8 0), .sc (.int .u8 0), .sc (.int .u8 0), .sc (.int .u8 0), .sc (.int .u8 0), .sc (.int .u8 0), .sc (.int .u8 0), .sc (.int .u8 0), .sc (.int .u8 0), .sc (.int .u8 0), .sc (.int .u8 0), .sc (.int .u8 0)]) ([.sc (.int .u8 0), .sc (.int .u8 0), .sc (.int .u8 0), .sc (.int .u8 0), .sc (.int .u8 0), .sc (.int .u8 0), .sc (.int .u8 0), .sc (.int .u8 0), .sc (.int .u8 0), .sc (.int .u8 0), .sc (.int .u8 0), .sc (.int .u8 0), .sc (.int .u8 0), .sc (.int .u8 0), .sc (.int .u8 0), .sc (.int .u8 0), .sc (.int .u8 0), .sc (.int .u8 0), .sc (.int .u8 0), .sc (.int .u8 0), .sc (.int .u8 0), .sc (.int .u8 0), .sc (.int .u8 0), .sc (.int .u8 0), .sc (.int .u8 0), .sc (.int .u8 0), .sc (.int .u8 0), .sc (.int .u8 0), .sc (.int .u8 0), .sc (.int .u8 0), .sc (.int .u8 0), .sc (.int .u8 0), .sc (.int .u8 0), .sc (.int .u8 0), .sc (.int .u8 0), .sc (.int .u8 0), .sc (.int .u8 0), .sc (.int .u8 0), .sc (.int .u8 0), .sc (.int .u8 0), .sc (.int .u8 0), .sc (.int .u8 0), .sc (.int .u8 0), .sc (.int .u8 0), .sc (.int .u8 0), .sc (.int .u8 0), .sc (.int .u8 0), .sc (.int .u8 0), .sc (.int .u8 0), .sc (.int .u8 0), .sc (.int .u8 0), .sc (.int .u8 0), .sc (.int .u8 0), .sc (.int .u8 0), .sc (.int .u8 0), .sc (.int .u8 0), .sc (.int .u8 0), .sc (.int .u8 0), .sc (.int .u8 0), .sc (.int .u8 0), .sc (.int .u8 0), .sc (.int .u8 0), .sc (.int .u8 0), .sc (.int .u8 0)]) else none else lp36_0 f (fun x0_1 x1_1 x2_1 x3_1 x4_1 x5_1 => bif roomy (64 + x2_1.length) 1 && true then bif allInt IntKind.u8 (List.take (64 + x2_1.length) (List.take 64 x4_1 ++ x2_1)) && decide ((List.take (64 + x2_1.length) (List.take 64 x4_1 ++ x2_1)).length ≤ 140737488355000) then bif roomy (64 + (List.take 32 (pu IntKind.u8 (sumP (ints (List.take (64 + x2_1.length) (List.take 64 x4_1 ++ x2_1)))))).length) 1 && true then bif allInt IntKind.u8 (List.take (64 + (List.take 32 (pu IntKind.u8 (sumP (ints (List.take (64 + x2_1.length) (List.take 64 x4_1 ++ x2_1)))))).length) (List.take 64 x5_1 ++ List.take 32 (pu IntKind.u8 (sumP (ints (List.take (64 + x2_1.length) (List.take 64 x4_1 ++ x2_1))))))) && decide ((List.take (64 + (List.take 32 (pu IntKind.u8 (sumP (ints (List.take (64 + x2_1.length) (List.take 64 x4_1 ++ x2_1)))))).length) (List.take 64 x5_1 ++ List.take 32 (pu IntKind.u8 (sumP (ints (List.take (64 + x2_1.length) (List.take 64 x4_1 ++ x2_1))))))).length ≤ 140737488355000) then k (Res.mk (.ar 37 (pu IntKind.u8 (sumP (ints (List.take (64 + (List.take 32 (pu IntKind.u8 (sumP (ints (List.take (64 + x2_1.length) (List.take 64 x4_1 ++ x2_1)))))).length) (List.take 64 x5_1 ++ List.take 32 (pu IntKind.u8 (sumP (ints (List.take (64 + x2_1.length) (List.take 64 x4_1 ++ x2_1))))))))))) [] []) else none else none else none else none) f text_z text_f text (0) ([.sc (.int .u8 0), .sc (.int .u8 0), .sc (.int .u8 0), .sc (.int .u8 0), .sc (.int .u8 0), .sc (.int .u8 0), .sc (.int .u8 0), .sc (.int .u8 0), .sc (.int .u8 0), .sc (.int .u8 0), .sc (.int .u8 0), .sc (.int .u8 0), .sc (.int .u8 0), .sc (.int .u8 0), .sc (.int .u8 0), .sc (.int .u8 0), .sc (.int .u8 0), .sc (.int .u8 0), .sc (.int .u8 0), .sc (.int .u8 0), .sc (.int .u8 0), .sc (.int .u8 0), .sc (.int .u8 0), .sc (.int .u8 0), .sc (.int .u8 0), .sc (.int .u8 0), .sc (.int .u8 0), .sc (.int .u8 0), .sc (.int .u8 0), .sc (.int .u8 0), .sc (.int .u8 0), .sc (.int .u8 0)]) (List.take 64 key ++ List.drop (0 + min key.length 64) [.sc (.int .u8 0), .sc (.int .u8 0), .sc (.int .u8 0), .sc (.int .u8 0), .sc (.int .u8 0), .sc (.int .u8 0), .sc (.int .u8 0), .sc (.int .u8 0), .sc (.int .u8 0), .sc (.int .u8 0), .sc (.int .u8 0), .sc (.int .u8 0), .sc (.int .u8 0), .sc (.int .u8 0), .sc (.int .u8 0), .sc (.int .u8 0), .sc (.int .u8 0), .sc (.int .u8 0), .sc (.int .u8 0), .sc (.int .u8 0), .sc (.int .u8 0), .sc (.int .u8 0), .sc (.int .u8 0), .sc (.int .u8 0), .sc (.int .u8 0), .sc (.int .u8 0), .sc (.int .u8 0), .sc (.int .u8 0), .sc (.int .u8 0), .sc (.int .u8 0), .sc (.int .u8 0), .sc (.int .u8 0), .sc (.int .u8 0), .sc (.int .u8 0), .sc (.int .u8 0), .sc (.int .u8 0), .sc (.int .u8 0), .sc (.int .u8 0), .sc (.int .u8 0), .sc (.int .u8 0), .sc (.int .u8 0), .sc (.int .u8 0), .sc (.int .u8 0), .sc (.int .u8 0), .sc (.int .u8 0), .sc (.int .u8 0), .sc (.int .u8 0), .sc (.int .u8 0), .sc (.int .u8 0), .sc (.int .u8 0), .sc (.int .u8 0), .sc (.int .u8 0), .sc (.int .u8 0), .sc (.int .u8 0), .sc (.int .u8 0), .sc (.int .u8 0), .sc (.int .u8 0), .sc (.int .u8 0), .sc (.int .u8 0), .sc (.int .u8 0), .sc (.int .u8 0), .sc (.int .u8 0), .sc (.int .u8 0), .sc (.int .u8 0)]) ([.sc (.int .u8 0), .sc (.int .u8 0), .sc (.int .u8 0), .sc (.int .u8 0), .sc (.int .u8 0), .sc (.int .u8 0), .sc (.int .u8 0), .sc (.int .u8 0), .sc (.int .u8 0), .sc (.int .u8 0), .sc (.int .u8 0), .sc (.int .u8 0), .sc (.int .u8 0), .sc (.int .u8 0), .sc (.int .u8 0), .sc (.int .u8 0), .sc (.int .u8 0), .sc (.int .u8 0), .sc (.int .u8 0), .sc (.int .u8 0), .sc (.int .u8 0), .sc (.int .u8 0), .sc (.int .u8 0), .sc (.int .u8 0), .sc (.int .u8 0), .sc (.int .u8 0), .sc (.int .u8 0), .sc (.int .u8 0), .sc (.int .u8 0), .sc (.int .u8 0), .sc (.int .u8 0), .sc (.int .u8 0), .sc (.int .u8 0), .sc (.int .u8 0), .sc (.int .u8 0), .sc (.int .u8 0), .sc (.int .u8 0), .sc (.int .u8 0), .sc (.int .u8 0), .sc (.int .u8 0), .sc (.int .u8 0), .sc (.int .u8 0), .sc (.int .u8 0), .sc (.int .u8 0), .sc (.int .u8 0), .sc (.int .u8 0), .sc (.int .u8 0), .sc (.int .u8 0), .sc (.int .u8 0), .sc (.int .u8 0), .sc (.int .u8 0), .sc (.int .u8 0), .sc (.int .u8 0), .sc (.int .u8 0), .sc (.int .u8 0), .sc (.int .u8 0), .sc (.int .u8 0), .sc (.int .u8 0), .sc (.int .u8 0), .sc (.int .u8 0), .sc (.int .u8 0), .sc (.int .u8 0), .sc (.int .u8 0), .sc (.int .u8 0)]) ([.sc (.int .u8 0), .sc (.int .u8 0), .sc (.int .u8 0), .sc (.int .u8 0), .sc (.int .u8 0), .sc (.int .u8 0), .sc (.int .u8 0), .sc (.int .u8 0), .sc (.int .u8 0), .sc (.int .u8 0), .sc (.int .u8 0), .sc (.int .u8 0), .sc (.int .u8 0), .sc (.int .u8 0), .sc (.int .u8 0), .sc (.int .u8 0), .sc (.int .u8 0), .sc (.int .u8 0), .sc (.int .u8 0), .sc (.int .u8 0), .sc (.int .u8 0), .sc (.int .u8 0), .sc (.int .u8 0), .sc (.int .u8 0), .sc (.int .u8 0), .sc (.int .u8 0), .sc (.int .u8 0), .sc (.int .u8 0), .sc (.int .u8 0), .sc (.int .u8 0), .sc (.int .u8 0), .sc (.int .u8 0), .sc (.int .u8 0), .sc (.int .u8 0), .sc (.int .u8 0), .sc (.int .u8 0), .sc (.int .u8 0), .sc (.int .u8 0), .sc (.int .u8 0), .sc (.int .u8 0), .sc (.int .u8 0), .sc (.int .u8 0), .sc (.int .u8 0), .sc (.int .u8 0), .sc (.int .u8 0), .sc (.int .u8 0), .sc (.int .u8 0), .sc (.int .u8 0), .sc (.int .u8 0), .sc (.int .u8 0), .sc (.int .u8 0), .sc (.int .u8 0), .sc (.int .u8 0), .sc (.int .u8 0), .sc (.int .u8 0), .sc (.int .u8 0), .sc (.int .u8 0), .sc (.int .u8 0), .sc (.int .u8 0), .sc (.int .u8 0), .sc (.int .u8 0), .sc (.int .u8 0), .sc (.int .u8 0), .sc (.int .u8 0)])
theorem e36 (f : Nat) (key_z : Bool) (key_f : Bool) (key : List PV) (text_z : Bool) (text_f : Bool) (text : List PV) (k : Res → Option Res) : evFn tau F36 Try.f36 (Try.f36.body.get!) (an36 (r36_0 f)) [.ro] 0 [.ro 5 key_z key_f key, .ro 5 text_z text_f text] [] k = g36 f key_z key_f key text_z text_f text k := by kernel_rfl
theorem it36 (f : Nat) : items (Try.f36.body.get!) (an36 (r36_0 f)) = [.l c36_0 nm36_0 N36 (r36_0 f)] := by kernel_rfl
theorem ia36 (f : Nat) : ∀ q ∈ items (Try.f36.body.get!) (an36 (r36_0 f)), q.Ok tau Try.prog 0 := by
  rw [it36 f]; simp only [List.forall_mem_cons, List.not_mem_nil, false_implies, implies_true, and_true]; exact i36_0 f
theorem fo36 : Try.prog.funcs[36]? = some Try.f36 := by kernel_rfl
theorem bo36 : Try.f36.body = some (Try.f36.body.get!) := by kernel_rfl
theorem en36 : Enters Try.prog 36 := enters_of fo36 (by kernel_rfl) bo36
end Go.Proofs.Ytcklhipdldpkhaa.Rx

-- FN ref3.Mac
/- The document's sign of a text. Own work. -/
namespace Go.Proofs.Ytcklhipdldpkhaa.Rx
open Go
set_option linter.unusedVariables false
set_option linter.unusedSimpArgs false
set_option maxRecDepth 100000
set_option maxHeartbeats 1000000
theorem fill_xor' (K : List Int) (hK : K.length = 64) (x : Int) : (List.range 64).map (fun j => bitI .xor .u8 (K.getD j 0) x) = xorB K x := by
  rw [← fill_xor K hK x]
  apply List.map_congr_left
  intro j _
  exact bitI_xor_comm _ _ _
theorem l36_0 (K : List Int) (hK : K.length = 64) (f : Nat) (k0 : Bool → Bool → List PV → List PV → List PV → List PV → Option Res) (tz tf : Bool) (text h : List PV) : ∀ (d i n : Nat), i + d = 64 → d < n →
    lp36_0 f k0 n tz tf text (i : Int) h (pu .u8 K) (pu .u8 (fillM (fun j => bitI .xor .u8 (K.getD j 0) 54) (List.replicate 64 0) i)) (pu .u8 (fillM (fun j => bitI .xor .u8 (K.getD j 0) 92) (List.replicate 64 0) i)) = k0 tz tf text h (pu .u8 (xorB K 54)) (pu .u8 (xorB K 92))
  | 0, i, n + 1, hh, hn => by
      obtain rfl : i = 64 := by omega
      simp only [lp36_0, lpS36_0]
      refine (bif_f (by decide)).trans ?_
      have h1 := fillM_full (fun j => bitI .xor .u8 (K.getD j 0) 54) (List.replicate 64 0)
      have h2 := fillM_full (fun j => bitI .xor .u8 (K.getD j 0) 92) (List.replicate 64 0)
      rw [List.length_replicate] at h1 h2
      rw [h1, h2, fill_xor' K hK, fill_xor' K hK]
  | d + 1, i, n + 1, hh, hn => by
      have g1 : ((i : Int)).toNat = i := by omega
      have h1 : IntKind.i64.wrap ((i : Int) + 1) = ((i + 1 : Nat) : Int) := by rw [wrap_i64 (by omega) (by omega)]; omega
      have c0 : (decide (0 ≤ (i : Int)) && decide ((i : Int) < zi 64) && true) = true := by simp; omega
      simp only [lp36_0, lpS36_0, g1, h1, Nat.zero_add, getP]
      rw [pu_isInt (by omega), pu_int (by omega), pu_set, pu_set]
      refine (bif_t (by simp; omega)).trans ((bif_t c0).trans ((bif_t rfl).trans ((bif_t c0).trans ((bif_t rfl).trans ((bif_t c0).trans ((bif_t c0).trans ?_))))))
      have := l36_0 K hK f k0 tz tf text h d (i + 1) n (by omega) (by omega)
      rw [← fillM_set _ _ i (by simp; omega), ← fillM_set _ _ i (by simp; omega)] at this
      exact this
def macTail (a b text : List PV) (k : Res → Option Res) : Option Res :=
  bif roomy (64 + text.length) 1 && true then
    bif allInt .u8 (List.take (64 + text.length) (List.take 64 a ++ text)) && decide ((List.take (64 + text.length) (List.take 64 a ++ text)).length ≤ 140737488355000) then
      bif roomy (64 + (List.take 32 (pu .u8 (sumP (ints (List.take (64 + text.length) (List.take 64 a ++ text)))))).length) 1 && true then
        bif allInt .u8 (List.take (64 + (List.take 32 (pu .u8 (sumP (ints (List.take (64 + text.length) (List.take 64 a ++ text)))))).length) (List.take 64 b ++ List.take 32 (pu .u8 (sumP (ints (List.take (64 + text.length) (List.take 64 a ++ text)))))))
            && decide ((List.take (64 + (List.take 32 (pu .u8 (sumP (ints (List.take (64 + text.length) (List.take 64 a ++ text)))))).length) (List.take 64 b ++ List.take 32 (pu .u8 (sumP (ints (List.take (64 + text.length) (List.take 64 a ++ text))))))).length ≤ 140737488355000) then
          k ⟨.ar 37 (pu .u8 (sumP (ints (List.take (64 + (List.take 32 (pu .u8 (sumP (ints (List.take (64 + text.length) (List.take 64 a ++ text)))))).length) (List.take 64 b ++ List.take 32 (pu .u8 (sumP (ints (List.take (64 + text.length) (List.take 64 a ++ text)))))))))), [], []⟩
        else none
      else none
    else none
  else none
theorem g36_form (f : Nat) (kz kf : Bool) (key : List PV) (tz tf : Bool) (text : List PV) (k : Res → Option Res) : g36 f kz kf key tz tf text k =
    (bif decide (zi key.length > 64) then
      bif allInt .u8 key && decide (key.length ≤ 140737488355000) then
        lp36_0 f (fun _ _ t _ a b => macTail a b t k) f tz tf text 0 (pu .u8 (List.replicate 32 0)) (kbG (List.take 32 (pu .u8 (sumP (ints key))))) (pu .u8 (List.replicate 64 0)) (pu .u8 (List.replicate 64 0))
      else none
    else lp36_0 f (fun _ _ t _ a b => macTail a b t k) f tz tf text 0 (pu .u8 (List.replicate 32 0)) (kbG key) (pu .u8 (List.replicate 64 0)) (pu .u8 (List.replicate 64 0))) := by kernel_rfl
theorem macTail_eq (K T : List Int) (hK : K.length = 64) (hT : T.length ≤ 1000000000) (k : Res → Option Res) :
    macTail (pu .u8 (xorB K 54)) (pu .u8 (xorB K 92)) (pu .u8 T) k = k ⟨.ar 37 (pu .u8 (sumP (xorB K 92 ++ sumP (xorB K 54 ++ T)))), [], []⟩ := by
  have e1 : List.take (64 + (pu .u8 T).length) (List.take 64 (pu .u8 (xorB K 54)) ++ pu .u8 T) = pu .u8 (xorB K 54 ++ T) := by
    rw [List.take_of_length_le (i := 64) (by simp [hK]), List.take_of_length_le (by simp [hK]), ← pu_append]
  have e2 : ∀ l : List Int, List.take 32 (pu .u8 (sumP l)) = pu .u8 (sumP l) := fun l => List.take_of_length_le (by simp [sumP_length])
  have e3 : ∀ l : List Int, List.take (64 + (pu .u8 (sumP l)).length) (List.take 64 (pu .u8 (xorB K 92)) ++ pu .u8 (sumP l)) = pu .u8 (xorB K 92 ++ sumP l) := fun l => by
    rw [List.take_of_length_le (i := 64) (by simp [hK]), List.take_of_length_le (by simp [hK]), ← pu_append]
  unfold macTail
  rw [e1, e2, e3, bif_t (by simp [roomy]; omega), bif_t (by rw [allInt_pu, pu_length]; simp [hK]; omega), bif_t (by simp [roomy, sumP_length]), bif_t (by rw [allInt_pu, pu_length]; simp [hK, sumP_length])]
  simp only [ints_pu]
noncomputable def run36' : List PV → List Ent → (Res → Option Res) → Option Res
  | [.ro 5 kz kf key, .ro 5 tz tf text], [], k =>
    bif (allInt .u8 key && decide (key.length ≤ 1000000000)) && (allInt .u8 text && decide (text.length ≤ 1000000000)) then
      k ⟨.ar 37 (pu .u8 (macP (ints key) (ints text))), [], []⟩ else none
  | _, _, _ => none
noncomputable def s36' : Sig := { own := [], run := run36' }
theorem g36_eq (kz kf : Bool) (key : List PV) (tz tf : Bool) (text : List PV) (k : Res → Option Res) (a1 : allInt .u8 key = true) (a2 : key.length ≤ 1000000000) (h3 : allInt .u8 text = true) (h4 : text.length ≤ 1000000000) :
    g36 70 kz kf key tz tf text k = k ⟨.ar 37 (pu .u8 (macP (ints key) (ints text))), [], []⟩ := by
  rw [g36_form, macP_eq, macP0]
  have hi := pu_ints a1
  have ht := pu_ints h3
  have hL : ∀ K : List Int, K.length = 64 → lp36_0 70 (fun _ _ t _ a b => macTail a b t k) 70 tz tf text 0 (pu .u8 (List.replicate 32 0)) (pu .u8 K) (pu .u8 (List.replicate 64 0)) (pu .u8 (List.replicate 64 0)) = k ⟨.ar 37 (pu .u8 (sumP (xorB K 92 ++ sumP (xorB K 54 ++ ints text)))), [], []⟩ := by
    intro K hK
    have := l36_0 K hK 70 (fun _ _ t _ a b => macTail a b t k) tz tf text (pu .u8 (List.replicate 32 0)) 64 0 70 (by omega) (by omega)
    rw [fillM_zero, fillM_zero] at this
    refine this.trans ?_
    have hm := macTail_eq K (ints text) hK (by simpa using h4) k
    rw [← ht] at hm
    exact hm
  by_cases hc : key.length > 64
  · rw [bif_t (by simp [zi]; omega), bif_t (by simp [a1]; omega), List.take_of_length_le (by simp [sumP_length]), kbG_pu _ (by rw [sumP_length]; omega),
      hL _ (by rw [← keyB_length (ints key), keyB, if_pos (by simpa using hc)]), keyB, if_pos (by simpa using hc)]
  · have hl : (ints key).length ≤ 64 := by simp; omega
    rw [bif_f (by simp [zi]; omega), hi, kbG_pu _ hl, ints_pu, hL _ (by rw [← keyB_length (ints key), keyB, if_neg (by omega)]), keyB, if_neg (by omega)]
theorem ok36' : CallOk tau Try.prog 36 s36' := CallOk.mk' fun xs es k res hl hr => by
  change run36' xs es k = some res at hr
  unfold run36' at hr
  split at hr
  · rename_i kz kf key tz tf text
    obtain ⟨hc, hr⟩ := of_bif hr
    simp only [Bool.and_eq_true, decide_eq_true_eq] at hc
    obtain ⟨⟨a1, a2⟩, h3, h4⟩ := hc
    exact fn_at tabOk F36_ok mixed fo36 bo36 (an36 (r36_0 70)) [.ro] 0 0 (ia36 70) hl rfl ((e36 70 kz kf key tz tf text k).trans ((g36_eq kz kf key tz tf text k a1 a2 h3 h4).trans hr))
  · cases hr
end Go.Proofs.Ytcklhipdldpkhaa.Rx

/- What comitia/comitiaref1.New computes. Own work, printed by a program of the worker's own. -/
namespace Go.Proofs.Ytcklhipdldpkhaa.Rx
open Go
set_option linter.unusedVariables false
set_option maxRecDepth 100000
set_option maxHeartbeats 0
noncomputable def F82 : Fns := F0
theorem F82_ok : FnsOk tau Try.prog F82 := F0_ok
def an82 : An := (.seq .leaf (.seq .leaf .leaf))
noncomputable def g82 (f : Nat) (b_z : Bool) (b_f : Bool) (b : List PV) (k : Res → Option Res) : Option Res := k (Res.mk (.ptr 16 []) [] [.box false 138 (PV.st 138 [.ro 5 b_z b_f b, .sc (.int .i64 0), .sc (.int .i64 0)])])
theorem e82 (f : Nat) (b_z : Bool) (b_f : Bool) (b : List PV) (k : Res → Option Res) : evFn tau F82 Try.f82 (Try.f82.body.get!) an82 [.any] 0 [.ro 5 b_z b_f b] [] k = g82 f b_z b_f b k := by kernel_rfl
theorem it82 (f : Nat) : items (Try.f82.body.get!) an82 = [] := by kernel_rfl
theorem ia82 (f : Nat) : ∀ q ∈ items (Try.f82.body.get!) an82, q.Ok tau Try.prog 0 := by
  rw [it82 f]; intro q hq; cases hq
theorem fo82 : Try.prog.funcs[82]? = some Try.f82 := by kernel_rfl
theorem bo82 : Try.f82.body = some (Try.f82.body.get!) := by kernel_rfl
theorem en82 : Enters Try.prog 82 := enters_of fo82 (by kernel_rfl) bo82
noncomputable def run82 : List PV → List Ent → (Res → Option Res) → Option Res
  | [.ro 5 b_z b_f b], [], k => g82 0 b_z b_f b k
  | _, _, _ => none
noncomputable def s82 : Sig := { own := [], run := run82 }
theorem ok82 : CallOk tau Try.prog 82 s82 := fn_ok tabOk F82_ok mixed fo82 bo82 an82 [.any] 0 [] run82 (ia82 0) fun xs es k res hr => by
  unfold run82 at hr
  split at hr
  · exact ⟨rfl, 0, (e82 0 _ _ _  _).trans hr⟩
  · cases hr
end Go.Proofs.Ytcklhipdldpkhaa.Rx

/- What (*comitia/comitiaref1.Reader).Fail computes. Own work, printed by a program of the worker's own. -/
namespace Go.Proofs.Ytcklhipdldpkhaa.Rx
open Go
set_option linter.unusedVariables false
set_option maxRecDepth 100000
set_option maxHeartbeats 0
noncomputable def F85 : Fns := F0
theorem F85_ok : FnsOk tau Try.prog F85 := F0_ok
def an85 : An := (.seq .leaf (.cond .leaf .leaf))
noncomputable def g85 (f : Nat) (r_B_z : Bool) (r_B_f : Bool) (r_B : List PV) (r_P : Int) (r_Err : Int) (e : Int) (k : Res → Option Res) : Option Res := bif r_Err == 0 then k (Res.mk (.tup []) [.box false 138 (PV.st 138 [.ro 5 r_B_z r_B_f r_B, .sc (.int .i64 r_P), .sc (.int .i64 e)])] []) else k (Res.mk (.tup []) [.box false 138 (PV.st 138 [.ro 5 r_B_z r_B_f r_B, .sc (.int .i64 r_P), .sc (.int .i64 r_Err)])] [])
theorem e85 (f : Nat) (r_B_z : Bool) (r_B_f : Bool) (r_B : List PV) (r_P : Int) (r_Err : Int) (e : Int) (k : Res → Option Res) : evFn tau F85 Try.f85 (Try.f85.body.get!) an85 [] 0 [.ptr 0 [], .sc (.int .i64 e)] [.box false 138 (.st 138 [.ro 5 r_B_z r_B_f r_B, .sc (.int .i64 r_P), .sc (.int .i64 r_Err)])] k = g85 f r_B_z r_B_f r_B r_P r_Err e k := by kernel_rfl
theorem it85 (f : Nat) : items (Try.f85.body.get!) an85 = [] := by kernel_rfl
theorem ia85 (f : Nat) : ∀ q ∈ items (Try.f85.body.get!) an85, q.Ok tau Try.prog 1 := by
  rw [it85 f]; intro q hq; cases hq
theorem fo85 : Try.prog.funcs[85]? = some Try.f85 := by kernel_rfl
theorem bo85 : Try.f85.body = some (Try.f85.body.get!) := by kernel_rfl
theorem en85 : Enters Try.prog 85 := enters_of fo85 (by kernel_rfl) bo85
noncomputable def run85 : List PV → List Ent → (Res → Option Res) → Option Res
  | [.ptr 0 [], .sc (.int .i64 e)], [.box false 138 (.st 138 [.ro 5 r_B_z r_B_f r_B, .sc (.int .i64 r_P), .sc (.int .i64 r_Err)])], k => g85 0 r_B_z r_B_f r_B r_P r_Err e k
  | _, _, _ => none
noncomputable def s85 : Sig := { own := [], run := run85 }
theorem ok85 : CallOk tau Try.prog 85 s85 := fn_ok tabOk F85_ok mixed fo85 bo85 an85 [] 1 [] run85 (ia85 0) fun xs es k res hr => by
  unfold run85 at hr
  split at hr
  · exact ⟨rfl, 0, (e85 0 _ _ _ _ _ _  _).trans hr⟩
  · cases hr
end Go.Proofs.Ytcklhipdldpkhaa.Rx

/- What (*comitia/comitiaref1.Reader).End computes. Own work, printed by a program of the worker's own. -/
namespace Go.Proofs.Ytcklhipdldpkhaa.Rx
open Go
set_option linter.unusedVariables false
set_option maxRecDepth 100000
set_option maxHeartbeats 0
noncomputable def F88 : Fns := F0
theorem F88_ok : FnsOk tau Try.prog F88 := F0_ok
def an88 : An := (.seq .leaf (.seq (.seq .leaf (.cond (.seq .leaf .leaf) .leaf)) (.seq .leaf .leaf)))
noncomputable def g88 (f : Nat) (r_B_z : Bool) (r_B_f : Bool) (r_B : List PV) (r_P : Int) (r_Err : Int) (k : Res → Option Res) : Option Res := bif r_Err == 0 then bif decide (r_P < zi r_B.length) then k (Res.mk (.sc (.int .i64 9)) [.box false 138 (PV.st 138 [.ro 5 r_B_z r_B_f r_B, .sc (.int .i64 r_P), .sc (.int .i64 r_Err)])] []) else k (Res.mk (.sc (.int .i64 r_Err)) [.box false 138 (PV.st 138 [.ro 5 r_B_z r_B_f r_B, .sc (.int .i64 r_P), .sc (.int .i64 r_Err)])] []) else k (Res.mk (.sc (.int .i64 r_Err)) [.box false 138 (PV.st 138 [.ro 5 r_B_z r_B_f r_B, .sc (.int .i64 r_P), .sc (.int .i64 r_Err)])] [])
theorem e88 (f : Nat) (r_B_z : Bool) (r_B_f : Bool) (r_B : List PV) (r_P : Int) (r_Err : Int) (k : Res → Option Res) : evFn tau F88 Try.f88 (Try.f88.body.get!) an88 [.ro] 0 [.ptr 0 []] [.box false 138 (.st 138 [.ro 5 r_B_z r_B_f r_B, .sc (.int .i64 r_P), .sc (.int .i64 r_Err)])] k = g88 f r_B_z r_B_f r_B r_P r_Err k := by kernel_rfl
theorem it88 (f : Nat) : items (Try.f88.body.get!) an88 = [] := by kernel_rfl
theorem ia88 (f : Nat) : ∀ q ∈ items (Try.f88.body.get!) an88, q.Ok tau Try.prog 1 := by
  rw [it88 f]; intro q hq; cases hq
theorem fo88 : Try.prog.funcs[88]? = some Try.f88 := by kernel_rfl
theorem bo88 : Try.f88.body = some (Try.f88.body.get!) := by kernel_rfl
theorem en88 : Enters Try.prog 88 := enters_of fo88 (by kernel_rfl) bo88
noncomputable def run88 : List PV → List Ent → (Res → Option Res) → Option Res
  | [.ptr 0 []], [.box false 138 (.st 138 [.ro 5 r_B_z r_B_f r_B, .sc (.int .i64 r_P), .sc (.int .i64 r_Err)])], k => g88 0 r_B_z r_B_f r_B r_P r_Err k
  | _, _, _ => none
noncomputable def s88 : Sig := { own := [], run := run88 }
theorem ok88 : CallOk tau Try.prog 88 s88 := fn_ok tabOk F88_ok mixed fo88 bo88 an88 [.ro] 1 [] run88 (ia88 0) fun xs es k res hr => by
  unfold run88 at hr
  split at hr
  · exact ⟨rfl, 0, (e88 0 _ _ _ _ _  _).trans hr⟩
  · cases hr
end Go.Proofs.Ytcklhipdldpkhaa.Rx

/- What comitia/comitiaref16.domain computes. Own work, printed by a program of the worker's own. -/
namespace Go.Proofs.Ytcklhipdldpkhaa.Rx
open Go
set_option linter.unusedVariables false
set_option maxRecDepth 100000
set_option maxHeartbeats 0
noncomputable def F89 : Fns := F0
theorem F89_ok : FnsOk tau Try.prog F89 := F0_ok
def an89 : An := (.seq .leaf (.seq .leaf .leaf))
noncomputable def g89 (f : Nat) (n : Int) (k : Res → Option Res) : Option Res := bif decide (n ≥ 0) then k (Res.mk (.sc (.bool (decide (n < 3)))) [] []) else k (Res.mk (.sc (.bool false)) [] [])
theorem e89 (f : Nat) (n : Int) (k : Res → Option Res) : evFn tau F89 Try.f89 (Try.f89.body.get!) an89 [.ro] 0 [.sc (.int .i64 n)] [] k = g89 f n k := by kernel_rfl
theorem it89 (f : Nat) : items (Try.f89.body.get!) an89 = [] := by kernel_rfl
theorem ia89 (f : Nat) : ∀ q ∈ items (Try.f89.body.get!) an89, q.Ok tau Try.prog 0 := by
  rw [it89 f]; intro q hq; cases hq
theorem fo89 : Try.prog.funcs[89]? = some Try.f89 := by kernel_rfl
theorem bo89 : Try.f89.body = some (Try.f89.body.get!) := by kernel_rfl
theorem en89 : Enters Try.prog 89 := enters_of fo89 (by kernel_rfl) bo89
noncomputable def run89 : List PV → List Ent → (Res → Option Res) → Option Res
  | [.sc (.int .i64 n)], [], k => g89 0 n k
  | _, _, _ => none
noncomputable def s89 : Sig := { own := [], run := run89 }
theorem ok89 : CallOk tau Try.prog 89 s89 := fn_ok tabOk F89_ok mixed fo89 bo89 an89 [.ro] 0 [] run89 (ia89 0) fun xs es k res hr => by
  unfold run89 at hr
  split at hr
  · exact ⟨rfl, 0, (e89 0 _  _).trans hr⟩
  · cases hr
end Go.Proofs.Ytcklhipdldpkhaa.Rx

/- What comitia/comitiaref16.Wave computes. Own work, printed by a program of the worker's own. -/
namespace Go.Proofs.Ytcklhipdldpkhaa.Rx
open Go
set_option linter.unusedVariables false
set_option maxRecDepth 100000
set_option maxHeartbeats 0
noncomputable def F90 : Fns := F0
theorem F90_ok : FnsOk tau Try.prog F90 := F0_ok
def an90 : An := (.seq .leaf (.seq .leaf .leaf))
noncomputable def g90 (f : Nat) (w_Host : Int) (w_N : Int) (k : Res → Option Res) : Option Res := bif decide (w_Host ≥ 0) then bif decide (w_Host < 3) then bif decide (w_N ≥ 0) then k (Res.mk (.sc (.bool (decide (w_N ≤ 99)))) [] []) else k (Res.mk (.sc (.bool false)) [] []) else k (Res.mk (.sc (.bool false)) [] []) else k (Res.mk (.sc (.bool false)) [] [])
theorem e90 (f : Nat) (w_Host : Int) (w_N : Int) (k : Res → Option Res) : evFn tau F90 Try.f90 (Try.f90.body.get!) an90 [.ro] 0 [.st 34 [.sc (.int .i64 w_Host), .sc (.int .i64 w_N)]] [] k = g90 f w_Host w_N k := by kernel_rfl
theorem it90 (f : Nat) : items (Try.f90.body.get!) an90 = [] := by kernel_rfl
theorem ia90 (f : Nat) : ∀ q ∈ items (Try.f90.body.get!) an90, q.Ok tau Try.prog 0 := by
  rw [it90 f]; intro q hq; cases hq
theorem fo90 : Try.prog.funcs[90]? = some Try.f90 := by kernel_rfl
theorem bo90 : Try.f90.body = some (Try.f90.body.get!) := by kernel_rfl
theorem en90 : Enters Try.prog 90 := enters_of fo90 (by kernel_rfl) bo90
noncomputable def run90 : List PV → List Ent → (Res → Option Res) → Option Res
  | [.st 34 [.sc (.int .i64 w_Host), .sc (.int .i64 w_N)]], [], k => g90 0 w_Host w_N k
  | _, _, _ => none
noncomputable def s90 : Sig := { own := [], run := run90 }
theorem ok90 : CallOk tau Try.prog 90 s90 := fn_ok tabOk F90_ok mixed fo90 bo90 an90 [.ro] 0 [] run90 (ia90 0) fun xs es k res hr => by
  unfold run90 at hr
  split at hr
  · exact ⟨rfl, 0, (e90 0 _ _  _).trans hr⟩
  · cases hr
end Go.Proofs.Ytcklhipdldpkhaa.Rx

/- What comitia/comitiaref16.number computes. Own work, printed by a program of the worker's own. -/
namespace Go.Proofs.Ytcklhipdldpkhaa.Rx
open Go
set_option linter.unusedVariables false
set_option maxRecDepth 100000
set_option maxHeartbeats 0
noncomputable def F92 : Fns := F0
theorem F92_ok : FnsOk tau Try.prog F92 := F0_ok
def an92 : An := (.seq .leaf (.seq .leaf .leaf))
noncomputable def g92 (f : Nat) (n : Int) (top : Int) (k : Res → Option Res) : Option Res := bif decide (n ≥ 0) then k (Res.mk (.sc (.bool (decide (n ≤ top)))) [] []) else k (Res.mk (.sc (.bool false)) [] [])
theorem e92 (f : Nat) (n : Int) (top : Int) (k : Res → Option Res) : evFn tau F92 Try.f92 (Try.f92.body.get!) an92 [.ro] 0 [.sc (.int .i64 n), .sc (.int .i64 top)] [] k = g92 f n top k := by kernel_rfl
theorem it92 (f : Nat) : items (Try.f92.body.get!) an92 = [] := by kernel_rfl
theorem ia92 (f : Nat) : ∀ q ∈ items (Try.f92.body.get!) an92, q.Ok tau Try.prog 0 := by
  rw [it92 f]; intro q hq; cases hq
theorem fo92 : Try.prog.funcs[92]? = some Try.f92 := by kernel_rfl
theorem bo92 : Try.f92.body = some (Try.f92.body.get!) := by kernel_rfl
theorem en92 : Enters Try.prog 92 := enters_of fo92 (by kernel_rfl) bo92
noncomputable def run92 : List PV → List Ent → (Res → Option Res) → Option Res
  | [.sc (.int .i64 n), .sc (.int .i64 top)], [], k => g92 0 n top k
  | _, _, _ => none
noncomputable def s92 : Sig := { own := [], run := run92 }
theorem ok92 : CallOk tau Try.prog 92 s92 := fn_ok tabOk F92_ok mixed fo92 bo92 an92 [.ro] 0 [] run92 (ia92 0) fun xs es k res hr => by
  unfold run92 at hr
  split at hr
  · exact ⟨rfl, 0, (e92 0 _ _  _).trans hr⟩
  · cases hr
end Go.Proofs.Ytcklhipdldpkhaa.Rx

/- What comitia/comitiaref8.User computes. Own work, printed by a program of the worker's own. -/
namespace Go.Proofs.Ytcklhipdldpkhaa.Rx
open Go
set_option linter.unusedVariables false
set_option maxRecDepth 100000
set_option maxHeartbeats 0
noncomputable def F91 : Fns := F0
theorem F91_ok : FnsOk tau Try.prog F91 := F0_ok
def an91 : An := (.seq .leaf (.seq .leaf .leaf))
noncomputable def g91 (f : Nat) (a_D : Int) (a_U : Int) (k : Res → Option Res) : Option Res := bif decide (a_D ≥ 0) then bif decide (a_D < 3) then bif decide (a_U ≥ 0) then k (Res.mk (.sc (.bool (decide (a_U < 8)))) [] []) else k (Res.mk (.sc (.bool false)) [] []) else k (Res.mk (.sc (.bool false)) [] []) else k (Res.mk (.sc (.bool false)) [] [])
theorem e91 (f : Nat) (a_D : Int) (a_U : Int) (k : Res → Option Res) : evFn tau F91 Try.f91 (Try.f91.body.get!) an91 [.ro] 0 [.st 45 [.sc (.int .i64 a_D), .sc (.int .i64 a_U)]] [] k = g91 f a_D a_U k := by kernel_rfl
theorem it91 (f : Nat) : items (Try.f91.body.get!) an91 = [] := by kernel_rfl
theorem ia91 (f : Nat) : ∀ q ∈ items (Try.f91.body.get!) an91, q.Ok tau Try.prog 0 := by
  rw [it91 f]; intro q hq; cases hq
theorem fo91 : Try.prog.funcs[91]? = some Try.f91 := by kernel_rfl
theorem bo91 : Try.f91.body = some (Try.f91.body.get!) := by kernel_rfl
theorem en91 : Enters Try.prog 91 := enters_of fo91 (by kernel_rfl) bo91
noncomputable def run91 : List PV → List Ent → (Res → Option Res) → Option Res
  | [.st 45 [.sc (.int .i64 a_D), .sc (.int .i64 a_U)]], [], k => g91 0 a_D a_U k
  | _, _, _ => none
noncomputable def s91 : Sig := { own := [], run := run91 }
theorem ok91 : CallOk tau Try.prog 91 s91 := fn_ok tabOk F91_ok mixed fo91 bo91 an91 [.ro] 0 [] run91 (ia91 0) fun xs es k res hr => by
  unfold run91 at hr
  split at hr
  · exact ⟨rfl, 0, (e91 0 _ _  _).trans hr⟩
  · cases hr
end Go.Proofs.Ytcklhipdldpkhaa.Rx

-- FN ref16.domain | ref16.Wave | ref16.number | ref8.User
/- Numbers within bounds, as the document tells it. Own work. -/
namespace Go.Proofs.Ytcklhipdldpkhaa.Rx
open Go
set_option linter.unusedVariables false
set_option linter.unusedSimpArgs false
def inZ (x m : Int) : Bool := decide (x ≥ 0) && decide (x ≤ m)
def inA0 : List Int → Bool
  | x :: m :: r => inZ x m && inA0 r
  | _ => true
noncomputable def inA : List Int → Bool := hid inA0
theorem inA_eq (l : List Int) : inA l = inA0 l := by rw [inA, hid_eq]
theorem inA_1 (a b : Int) : inA [a, b] = inZ a b := by rw [inA_eq]; simp [inA0]
theorem inA_2 (a b c d : Int) : inA [a, b, c, d] = (inZ a b && inZ c d) := by rw [inA_eq]; simp [inA0]
noncomputable def run89' : List PV → List Ent → (Res → Option Res) → Option Res
  | [.sc (.int .i64 n)], [], k => k ⟨.sc (.bool (inA [n, 2])), [], []⟩
  | _, _, _ => none
noncomputable def s89' : Sig := { own := [], run := run89' }
theorem ok89' : CallOk tau Try.prog 89 s89' := ok89.of fun xs es k res hr => by
  change run89' xs es k = some res at hr
  unfold run89' at hr
  split at hr
  · rename_i n
    show g89 0 n k = some res
    rw [inA_1] at hr
    unfold g89
    unfold inZ at hr
    by_cases h1 : n ≥ 0 <;> by_cases h2 : n < 3 <;> simp [h1, h2, show (n ≤ 2) ↔ (n < 3) from by omega] at hr ⊢ <;> exact hr
  · cases hr
noncomputable def run90' : List PV → List Ent → (Res → Option Res) → Option Res
  | [.st 34 [.sc (.int .i64 a), .sc (.int .i64 b)]], [], k => k ⟨.sc (.bool (inA [a, 2, b, 99])), [], []⟩
  | _, _, _ => none
noncomputable def s90' : Sig := { own := [], run := run90' }
theorem ok90' : CallOk tau Try.prog 90 s90' := ok90.of fun xs es k res hr => by
  change run90' xs es k = some res at hr
  unfold run90' at hr
  split at hr
  · rename_i a b
    show g90 0 a b k = some res
    rw [inA_2] at hr
    unfold g90
    unfold inZ at hr
    by_cases h1 : a ≥ 0 <;> by_cases h2 : a < 3 <;> by_cases h3 : b ≥ 0 <;> by_cases h4 : b ≤ 99 <;> simp [h1, h2, h3, h4, show (a ≤ 2) ↔ (a < 3) from by omega] at hr ⊢ <;> exact hr
  · cases hr
noncomputable def run91' : List PV → List Ent → (Res → Option Res) → Option Res
  | [.st 45 [.sc (.int .i64 a), .sc (.int .i64 b)]], [], k => k ⟨.sc (.bool (inA [a, 2, b, 7])), [], []⟩
  | _, _, _ => none
noncomputable def s91' : Sig := { own := [], run := run91' }
theorem ok91' : CallOk tau Try.prog 91 s91' := ok91.of fun xs es k res hr => by
  change run91' xs es k = some res at hr
  unfold run91' at hr
  split at hr
  · rename_i a b
    show g91 0 a b k = some res
    rw [inA_2] at hr
    unfold g91
    unfold inZ at hr
    by_cases h1 : a ≥ 0 <;> by_cases h2 : a < 3 <;> by_cases h3 : b ≥ 0 <;> by_cases h4 : b < 8 <;> simp [h1, h2, h3, h4, show (a ≤ 2) ↔ (a < 3) from by omega, show (b ≤ 7) ↔ (b < 8) from by omega] at hr ⊢ <;> exact hr
  · cases hr
noncomputable def run92' : List PV → List Ent → (Res → Option Res) → Option Res
  | [.sc (.int .i64 a), .sc (.int .i64 b)], [], k => k ⟨.sc (.bool (inA [a, b])), [], []⟩
  | _, _, _ => none
noncomputable def s92' : Sig := { own := [], run := run92' }
theorem ok92' : CallOk tau Try.prog 92 s92' := ok92.of fun xs es k res hr => by
  change run92' xs es k = some res at hr
  unfold run92' at hr
  split at hr
  · rename_i a b
    show g92 0 a b k = some res
    rw [inA_1] at hr
    unfold g92
    unfold inZ at hr
    by_cases h1 : a ≥ 0 <;> by_cases h2 : a ≤ b <;> simp [h1, h2] at hr ⊢ <;> exact hr
  · cases hr
end Go.Proofs.Ytcklhipdldpkhaa.Rx

/- What comitia/comitiaref16.Parse computes. Own work, printed by a program of the worker's own. -/
namespace Go.Proofs.Ytcklhipdldpkhaa.Rx
open Go
set_option linter.unusedVariables false
set_option maxRecDepth 100000
set_option maxHeartbeats 0
def N38 : Nat := 180
noncomputable def F38 : Fns := addF 92 s92' (addF 91 s91' (addF 90 s90' (addF 89 s89' (addF 88 s88 (addF 87 s87' (addF 86 s86' (addF 85 s85 (addF 84 s84' (addF 83 s83' (addF 82 s82 (addF 36 s36' (F0))))))))))))
theorem F38_ok : FnsOk tau Try.prog F38 := ((((((((((((F0_ok).add ok36' en36).add ok82 en82).add ok83' en83).add ok84' en84).add ok85 en85).add ok86' en86).add ok87' en87).add ok88 en88).add ok89' en89).add ok90' en90).add ok91' en91).add ok92' en92
noncomputable def c38_0 : Code := subC (Try.f38.body.get!) [1, 1, 1, 1, 1, 1, 1, 1, 1, 1, 1, 1, 1, 1, 1, 1, 1, 1, 0, 1, 0, 0]
def nm38_0 : Nm := [(1, .any), (2, .any), (4, .any), (6, .any), (7, .bx (.st [.any, .any, .any, .any, .any, .any, .any, .any, .any, .any, .own])), (8, .any), (9, .any)]
def nx38_0 : Nm := [(1, .any), (2, .any), (4, .any), (6, .any), (7, .any)]
def x38_0 : An := (.seq (.seq .leaf (.cond .leaf .leaf)) (.seq (.block none .leaf) .leaf))
def an38 (r0 : RunL) : An := (.seq .leaf (.seq (.seq .leaf (.cond (.seq .leaf .leaf) .leaf)) (.seq .leaf (.seq .leaf (.seq .leaf (.seq .leaf (.seq .leaf (.seq .leaf (.seq .leaf (.seq .leaf (.seq .leaf (.seq .leaf (.seq .leaf (.seq .leaf (.seq .leaf (.seq .leaf (.seq .leaf (.seq (.seq .leaf (.cond .leaf .leaf)) (.seq (.seq .leaf (.block none (.sum nm38_0 N38 r0))) (.seq .leaf (.seq .leaf (.seq (.seq .leaf (.cond (.seq .leaf .leaf) .leaf)) (.seq (.seq .leaf (.cond (.seq .leaf .leaf) .leaf)) (.seq (.seq .leaf (.cond (.seq .leaf .leaf) .leaf)) (.seq (.seq .leaf (.cond (.seq .leaf .leaf) .leaf)) (.seq .leaf .leaf))))))))))))))))))))))))))
noncomputable def lpS38_0 (f : Nat) (rc : Bool → Bool → List PV → Int → Int → Bool → Bool → List PV → Bool → Bool → List PV → Bool → Bool → List PV → Int → Int → Int → Int → Int → Int → Int → Int → Int → Int → Int → Int → Int → List PV → Bool → Bool → List PV → Int → Int → Int → Int → Int → Int → Int → Int → Int → Int → Int → Int → Int → Int → Int → Nat → Bool → List PV → Option Res) (k0 : Bool → Bool → List PV → Bool → Bool → List PV → Bool → Bool → List PV → Bool → Bool → List PV → Int → Int → Int → Int → Int → Int → Int → Int → Int → Int → Int → Int → Int → List PV → Bool → Bool → List PV → Int → Int → Int → Int → Int → Int → Int → Int → Int → Int → Int → Int → Int → Int → Int → Nat → Bool → List PV → Option Res) (v0 : Bool) (v1 : Bool) (v2 : List PV) (v3 : Int) (v4 : Int) (v5 : Bool) (v6 : Bool) (v7 : List PV) (v8 : Bool) (v9 : Bool) (v10 : List PV) (v11 : Bool) (v12 : Bool) (v13 : List PV) (v14 : Int) (v15 : Int) (v16 : Int) (v17 : Int) (v18 : Int) (v19 : Int) (v20 : Int) (v21 : Int) (v22 : Int) (v23 : Int) (v24 : Int) (v25 : Int) (v26 : Int) (v27 : List PV) (v28 : Bool) (v29 : Bool) (v30 : List PV) (v31 : Int) (v32 : Int) (v33 : Int) (v34 : Int) (v35 : Int) (v36 : Int) (v37 : Int) (v38 : Int) (v39 : Int) (v40 : Int) (v41 : Int) (v42 : Int) (v43 : Int) (v44 : Int) (v45 : Int) (v46 : Nat) (v47 : Bool) (v48 : List PV) : Option Res := bif decide (v4 < v3) then bif v32 == 0 then bif okT (RT.mk v30 v31 v32) then bif roomy (txtVT (RT.mk v30 v31 v32)).size 1 && true then bif roomy (v46 + 1) 24 && true then rc v0 v1 v2 v3 (IntKind.i64.wrap (v4 + 1)) v5 v6 v7 v8 v9 v10 v11 v12 v13 v14 v15 v16 v17 v18 v19 v20 v21 v22 v23 v24 v25 v26 v27 v28 v29 ((txtT (RT.mk v30 v31 v32)).B) ((txtT (RT.mk v30 v31 v32)).P) ((txtT (RT.mk v30 v31 v32)).e) v33 v34 v35 v36 v37 v38 v39 v40 v41 v42 v43 v44 v45 (v46 + 1) (v47 && false) (List.take v46 v48 ++ [.ro 5 false false (List.take (txtVT (RT.mk v30 v31 v32)).size (ofBytes (txtVT (RT.mk v30 v31 v32))))]) else none else none else none else k0 v0 v1 v2 v5 v6 v7 v8 v9 v10 v11 v12 v13 v14 v15 v16 v17 v18 v19 v20 v21 v22 v23 v24 v25 v26 v27 v28 v29 v30 v31 v32 v33 v34 v35 v36 v37 v38 v39 v40 v41 v42 v43 v44 v45 v46 v47 v48 else k0 v0 v1 v2 v5 v6 v7 v8 v9 v10 v11 v12 v13 v14 v15 v16 v17 v18 v19 v20 v21 v22 v23 v24 v25 v26 v27 v28 v29 v30 v31 v32 v33 v34 v35 v36 v37 v38 v39 v40 v41 v42 v43 v44 v45 v46 v47 v48
noncomputable def lp38_0 (f : Nat) (k0 : Bool → Bool → List
  PV → Bool → Bool → List
  PV → Bool → Bool → List
  PV → Bool → Bool → List
  PV → Int → Int → Int → Int → Int → Int → Int → Int → Int → Int → Int → Int → Int → List
  PV → Bool → Bool → List
  PV → Int → Int → Int → Int → Int → Int → Int → Int → Int → Int → Int → Int → Int → Int → Int → Nat → Bool → List
  PV → Option Res) : Nat → Bool → Bool → List
  PV → Int → Int → Bool → Bool → List
  PV → Bool → Bool → List
  PV → Bool → Bool → List
  PV → Int → Int → Int → Int → Int → Int → Int → Int → Int → Int → Int → Int → Int → List
  PV → Bool → Bool → List PV → Int → Int → Int → Int → Int → Int → Int → Int → Int → Int → Int → Int → Int → Int → Int → Nat → Bool → List PV → Option Res
  | 0, _, _, _, _, _, _, _, _, _, _, _, _, _, _, _, _, _, _, _, _, _, _, _, _, _, _, _, _, _, _, _, _, _, _, _, _, _, _, _, _, _, _, _, _, _, _, _, _, _ => none
  | n + 1, v0, v1, v2, v3, v4, v5, v6, v7, v8, v9, v10, v11, v12, v13, v14, v15, v16, v17, v18, v19, v20, v21, v22, v23, v24, v25, v26, v27, v28, v29, v30, v31, v32, v33, v34, v35, v36, v37, v38, v39, v40, v41, v42, v43, v44, v45, v46, v47, v48 => lpS38_0 f (lp38_0 f k0 n) k0 v0 v1 v2 v3 v4 v5 v6 v7 v8 v9 v10 v11 v12 v13 v14 v15 v16 v17 v18 v19 v20 v21 v22 v23 v24 v25 v26 v27 v28 v29 v30 v31 v32 v33 v34 v35 v36 v37 v38 v39 v40 v41 v42 v43 v44 v45 v46 v47 v48
theorem lpR38_0 (f : Nat) (k : Kont) (n : Nat) (v0 : Bool) (v1 : Bool) (v2 : List PV) (v3 : Int) (v4 : Int) (v5 : Bool) (v6 : Bool) (v7 : List PV) (v8 : Bool) (v9 : Bool) (v10 : List PV) (v11 : Bool) (v12 : Bool) (v13 : List PV) (v14 : Int) (v15 : Int) (v16 : Int) (v17 : Int) (v18 : Int) (v19 : Int) (v20 : Int) (v21 : Int) (v22 : Int) (v23 : Int) (v24 : Int) (v25 : Int) (v26 : Int) (v27 : List PV) (v28 : Bool) (v29 : Bool) (v30 : List PV) (v31 : Int) (v32 : Int) (v33 : Int) (v34 : Int) (v35 : Int) (v36 : Int) (v37 : Int) (v38 : Int) (v39 : Int) (v40 : Int) (v41 : Int) (v42 : Int) (v43 : Int) (v44 : Int) (v45 : Int) (v46 : Nat) (v47 : Bool) (v48 : List PV) : evLoop tau 0 nm38_0 (fun s k => ev tau F38 0 0 c38_0 (x38_0 ) s k) (n + 1) (fillS nm38_0 N38 [.ro 5 v0 v1 v2, .ptr 2896 [], .ptr 2897 [], .ptr 2898 [], .ptr 2899 [], .sc (.int .i64 v3), .sc (.int .i64 v4)] [(2896, .box false 31 (PV.st 31 [.ro 5 v5 v6 v7, .ro 5 v8 v9 v10, .ro 5 v11 v12 v13])), (2897, .box false 54 (PV.st 54 [.sc (.int .i64 v14), .sc (.int .i64 v15), .sc (.int .i64 v16), .st 34 [.sc (.int .i64 v17), .sc (.int .i64 v18)], .st 45 [.sc (.int .i64 v19), .sc (.int .i64 v20)], .sc (.int .i64 v21), .sc (.int .i64 v22), .st 45 [.sc (.int .i64 v23), .sc (.int .i64 v24)], .sc (.int .i64 v25), .sc (.int .i64 v26), .ro 29 true true v27])), (2898, .box false 138 (PV.st 138 [.ro 5 v28 v29 v30, .sc (.int .i64 v31), .sc (.int .i64 v32)])), (2899, .box false 54 (PV.st 54 [.sc (.int .i64 v33), .sc (.int .i64 v34), .sc (.int .i64 v35), .st 34 [.sc (.int .i64 v36), .sc (.int .i64 v37)], .st 45 [.sc (.int .i64 v38), .sc (.int .i64 v39)], .sc (.int .i64 v40), .sc (.int .i64 v41), .st 45 [.sc (.int .i64 v42), .sc (.int .i64 v43)], .sc (.int .i64 v44), .sc (.int .i64 v45), .ow 29 2900 [] 0 v46 none])), (2900, .vec false 29 v47 v48)]) (kNorm tau 0 nx38_0 k) = lpS38_0 f (fun v0 v1 v2 v3 v4 v5 v6 v7 v8 v9 v10 v11 v12 v13 v14 v15 v16 v17 v18 v19 v20 v21 v22 v23 v24 v25 v26 v27 v28 v29 v30 v31 v32 v33 v34 v35 v36 v37 v38 v39 v40 v41 v42 v43 v44 v45 v46 v47 v48 => evLoop tau 0 nm38_0 (fun s k => ev tau F38 0 0 c38_0 (x38_0 ) s k) n (fillS nm38_0 N38 [.ro 5 v0 v1 v2, .ptr 2896 [], .ptr 2897 [], .ptr 2898 [], .ptr 2899 [], .sc (.int .i64 v3), .sc (.int .i64 v4)] [(2896, .box false 31 (PV.st 31 [.ro 5 v5 v6 v7, .ro 5 v8 v9 v10, .ro 5 v11 v12 v13])), (2897, .box false 54 (PV.st 54 [.sc (.int .i64 v14), .sc (.int .i64 v15), .sc (.int .i64 v16), .st 34 [.sc (.int .i64 v17), .sc (.int .i64 v18)], .st 45 [.sc (.int .i64 v19), .sc (.int .i64 v20)], .sc (.int .i64 v21), .sc (.int .i64 v22), .st 45 [.sc (.int .i64 v23), .sc (.int .i64 v24)], .sc (.int .i64 v25), .sc (.int .i64 v26), .ro 29 true true v27])), (2898, .box false 138 (PV.st 138 [.ro 5 v28 v29 v30, .sc (.int .i64 v31), .sc (.int .i64 v32)])), (2899, .box false 54 (PV.st 54 [.sc (.int .i64 v33), .sc (.int .i64 v34), .sc (.int .i64 v35), .st 34 [.sc (.int .i64 v36), .sc (.int .i64 v37)], .st 45 [.sc (.int .i64 v38), .sc (.int .i64 v39)], .sc (.int .i64 v40), .sc (.int .i64 v41), .st 45 [.sc (.int .i64 v42), .sc (.int .i64 v43)], .sc (.int .i64 v44), .sc (.int .i64 v45), .ow 29 2900 [] 0 v46 none])), (2900, .vec false 29 v47 v48)]) (kNorm tau 0 nx38_0 k)) (fun x0 x1 x2 x3 x4 x5 x6 x7 x8 x9 x10 x11 x12 x13 x14 x15 x16 x17 x18 x19 x20 x21 x22 x23 x24 x25 x26 x27 x28 x29 x30 x31 x32 x33 x34 x35 x36 x37 x38 x39 x40 x41 x42 x43 x44 x45 x46 => k (Ex.exit 0) (fillS nx38_0 N38 [.ro 5 x0 x1 x2, .ptr 2896 [], .ptr 2897 [], .ptr 2898 [], .ptr 2899 []] [(2896, .box false 31 (PV.st 31 [.ro 5 x3 x4 x5, .ro 5 x6 x7 x8, .ro 5 x9 x10 x11])), (2897, .box false 54 (PV.st 54 [.sc (.int .i64 x12), .sc (.int .i64 x13), .sc (.int .i64 x14), .st 34 [.sc (.int .i64 x15), .sc (.int .i64 x16)], .st 45 [.sc (.int .i64 x17), .sc (.int .i64 x18)], .sc (.int .i64 x19), .sc (.int .i64 x20), .st 45 [.sc (.int .i64 x21), .sc (.int .i64 x22)], .sc (.int .i64 x23), .sc (.int .i64 x24), .ro 29 true true x25])), (2898, .box false 138 (PV.st 138 [.ro 5 x26 x27 x28, .sc (.int .i64 x29), .sc (.int .i64 x30)])), (2899, .box false 54 (PV.st 54 [.sc (.int .i64 x31), .sc (.int .i64 x32), .sc (.int .i64 x33), .st 34 [.sc (.int .i64 x34), .sc (.int .i64 x35)], .st 45 [.sc (.int .i64 x36), .sc (.int .i64 x37)], .sc (.int .i64 x38), .sc (.int .i64 x39), .st 45 [.sc (.int .i64 x40), .sc (.int .i64 x41)], .sc (.int .i64 x42), .sc (.int .i64 x43), .ow 29 2900 [] 0 x44 none])), (2900, .vec false 29 x45 x46)])) v0 v1 v2 v3 v4 v5 v6 v7 v8 v9 v10 v11 v12 v13 v14 v15 v16 v17 v18 v19 v20 v21 v22 v23 v24 v25 v26 v27 v28 v29 v30 v31 v32 v33 v34 v35 v36 v37 v38 v39 v40 v41 v42 v43 v44 v45 v46 v47 v48 := by kernel_rfl
theorem lpE38_0 (f : Nat) (k : Kont) : ∀ (n : Nat) (v0 : Bool) (v1 : Bool) (v2 : List PV) (v3 : Int) (v4 : Int) (v5 : Bool) (v6 : Bool) (v7 : List PV) (v8 : Bool) (v9 : Bool) (v10 : List PV) (v11 : Bool) (v12 : Bool) (v13 : List PV) (v14 : Int) (v15 : Int) (v16 : Int) (v17 : Int) (v18 : Int) (v19 : Int) (v20 : Int) (v21 : Int) (v22 : Int) (v23 : Int) (v24 : Int) (v25 : Int) (v26 : Int) (v27 : List PV) (v28 : Bool) (v29 : Bool) (v30 : List PV) (v31 : Int) (v32 : Int) (v33 : Int) (v34 : Int) (v35 : Int) (v36 : Int) (v37 : Int) (v38 : Int) (v39 : Int) (v40 : Int) (v41 : Int) (v42 : Int) (v43 : Int) (v44 : Int) (v45 : Int) (v46 : Nat) (v47 : Bool) (v48 : List PV), evLoop tau 0 nm38_0 (fun s k => ev tau F38 0 0 c38_0 (x38_0 ) s k) n (fillS nm38_0 N38 [.ro 5 v0 v1 v2, .ptr 2896 [], .ptr 2897 [], .ptr 2898 [], .ptr 2899 [], .sc (.int .i64 v3), .sc (.int .i64 v4)] [(2896, .box false 31 (PV.st 31 [.ro 5 v5 v6 v7, .ro 5 v8 v9 v10, .ro 5 v11 v12 v13])), (2897, .box false 54 (PV.st 54 [.sc (.int .i64 v14), .sc (.int .i64 v15), .sc (.int .i64 v16), .st 34 [.sc (.int .i64 v17), .sc (.int .i64 v18)], .st 45 [.sc (.int .i64 v19), .sc (.int .i64 v20)], .sc (.int .i64 v21), .sc (.int .i64 v22), .st 45 [.sc (.int .i64 v23), .sc (.int .i64 v24)], .sc (.int .i64 v25), .sc (.int .i64 v26), .ro 29 true true v27])), (2898, .box false 138 (PV.st 138 [.ro 5 v28 v29 v30, .sc (.int .i64 v31), .sc (.int .i64 v32)])), (2899, .box false 54 (PV.st 54 [.sc (.int .i64 v33), .sc (.int .i64 v34), .sc (.int .i64 v35), .st 34 [.sc (.int .i64 v36), .sc (.int .i64 v37)], .st 45 [.sc (.int .i64 v38), .sc (.int .i64 v39)], .sc (.int .i64 v40), .sc (.int .i64 v41), .st 45 [.sc (.int .i64 v42), .sc (.int .i64 v43)], .sc (.int .i64 v44), .sc (.int .i64 v45), .ow 29 2900 [] 0 v46 none])), (2900, .vec false 29 v47 v48)]) (kNorm tau 0 nx38_0 k) = lp38_0 f (fun x0 x1 x2 x3 x4 x5 x6 x7 x8 x9 x10 x11 x12 x13 x14 x15 x16 x17 x18 x19 x20 x21 x22 x23 x24 x25 x26 x27 x28 x29 x30 x31 x32 x33 x34 x35 x36 x37 x38 x39 x40 x41 x42 x43 x44 x45 x46 => k (Ex.exit 0) (fillS nx38_0 N38 [.ro 5 x0 x1 x2, .ptr 2896 [], .ptr 2897 [], .ptr 2898 [], .ptr 2899 []] [(2896, .box false 31 (PV.st 31 [.ro 5 x3 x4 x5, .ro 5 x6 x7 x8, .ro 5 x9 x10 x11])), (2897, .box false 54 (PV.st 54 [.sc (.int .i64 x12), .sc (.int .i64 x13), .sc (.int .i64 x14), .st 34 [.sc (.int .i64 x15), .sc (.int .i64 x16)], .st 45 [.sc (.int .i64 x17), .sc (.int .i64 x18)], .sc (.int .i64 x19), .sc (.int .i64 x20), .st 45 [.sc (.int .i64 x21), .sc (.int .i64 x22)], .sc (.int .i64 x23), .sc (.int .i64 x24), .ro 29 true true x25])), (2898, .box false 138 (PV.st 138 [.ro 5 x26 x27 x28, .sc (.int .i64 x29), .sc (.int .i64 x30)])), (2899, .box false 54 (PV.st 54 [.sc (.int .i64 x31), .sc (.int .i64 x32), .sc (.int .i64 x33), .st 34 [.sc (.int .i64 x34), .sc (.int .i64 x35)], .st 45 [.sc (.int .i64 x36), .sc (.int .i64 x37)], .sc (.int .i64 x38), .sc (.int .i64 x39), .st 45 [.sc (.int .i64 x40), .sc (.int .i64 x41)], .sc (.int .i64 x42), .sc (.int .i64 x43), .ow 29 2900 [] 0 x44 none])), (2900, .vec false 29 x45 x46)])) n v0 v1 v2 v3 v4 v5 v6 v7 v8 v9 v10 v11 v12 v13 v14 v15 v16 v17 v18 v19 v20 v21 v22 v23 v24 v25 v26 v27 v28 v29 v30 v31 v32 v33 v34 v35 v36 v37 v38 v39 v40 v41 v42 v43 v44 v45 v46 v47 v48 | 0, _, _, _, _, _, _, _, _, _, _, _, _, _, _, _, _, _, _, _, _, _, _, _, _, _, _, _, _, _, _, _, _, _, _, _, _, _, _, _, _, _, _, _, _, _, _, _, _, _ => rfl | n + 1, v0, v1, v2, v3, v4, v5, v6, v7, v8, v9, v10, v11, v12, v13, v14, v15, v16, v17, v18, v19, v20, v21, v22, v23, v24, v25, v26, v27, v28, v29, v30, v31, v32, v33, v34, v35, v36, v37, v38, v39, v40, v41, v42, v43, v44, v45, v46, v47, v48 => (lpR38_0 f k n v0 v1 v2 v3 v4 v5 v6 v7 v8 v9 v10 v11 v12 v13 v14 v15 v16 v17 v18 v19 v20 v21 v22 v23 v24 v25 v26 v27 v28 v29 v30 v31 v32 v33 v34 v35 v36 v37 v38 v39 v40 v41 v42 v43 v44 v45 v46 v47 v48).trans (congrArg (fun r => lpS38_0 f r (fun x0 x1 x2 x3 x4 x5 x6 x7 x8 x9 x10 x11 x12 x13 x14 x15 x16 x17 x18 x19 x20 x21 x22 x23 x24 x25 x26 x27 x28 x29 x30 x31 x32 x33 x34 x35 x36 x37 x38 x39 x40 x41 x42 x43 x44 x45 x46 => k (Ex.exit 0) (fillS nx38_0 N38 [.ro 5 x0 x1 x2, .ptr 2896 [], .ptr 2897 [], .ptr 2898 [], .ptr 2899 []] [(2896, .box false 31 (PV.st 31 [.ro 5 x3 x4 x5, .ro 5 x6 x7 x8, .ro 5 x9 x10 x11])), (2897, .box false 54 (PV.st 54 [.sc (.int .i64 x12), .sc (.int .i64 x13), .sc (.int .i64 x14), .st 34 [.sc (.int .i64 x15), .sc (.int .i64 x16)], .st 45 [.sc (.int .i64 x17), .sc (.int .i64 x18)], .sc (.int .i64 x19), .sc (.int .i64 x20), .st 45 [.sc (.int .i64 x21), .sc (.int .i64 x22)], .sc (.int .i64 x23), .sc (.int .i64 x24), .ro 29 true true x25])), (2898, .box false 138 (PV.st 138 [.ro 5 x26 x27 x28, .sc (.int .i64 x29), .sc (.int .i64 x30)])), (2899, .box false 54 (PV.st 54 [.sc (.int .i64 x31), .sc (.int .i64 x32), .sc (.int .i64 x33), .st 34 [.sc (.int .i64 x34), .sc (.int .i64 x35)], .st 45 [.sc (.int .i64 x36), .sc (.int .i64 x37)], .sc (.int .i64 x38), .sc (.int .i64 x39), .st 45 [.sc (.int .i64 x40), .sc (.int .i64 x41)], .sc (.int .i64 x42), .sc (.int .i64 x43), .ow 29 2900 [] 0 x44 none])), (2900, .vec false 29 x45 x46)])) v0 v1 v2 v3 v4 v5 v6 v7 v8 v9 v10 v11 v12 v13 v14 v15 v16 v17 v18 v19 v20 v21 v22 v23 v24 v25 v26 v27 v28 v29 v30 v31 v32 v33 v34 v35 v36 v37 v38 v39 v40 v41 v42 v43 v44 v45 v46 v47 v48) (by funext v0 v1 v2 v3 v4 v5 v6 v7 v8 v9 v10 v11 v12 v13 v14 v15 v16 v17 v18 v19 v20 v21 v22 v23 v24 v25 v26 v27 v28 v29 v30 v31 v32 v33 v34 v35 v36 v37 v38 v39 v40 v41 v42 v43 v44 v45 v46 v47 v48; exact lpE38_0 f k n v0 v1 v2 v3 v4 v5 v6 v7 v8 v9 v10 v11 v12 v13 v14 v15 v16 v17 v18 v19 v20 v21 v22 v23 v24 v25 v26 v27 v28 v29 v30 v31 v32 v33 v34 v35 v36 v37 v38 v39 v40 v41 v42 v43 v44 v45 v46 v47 v48))
noncomputable def r38_0 (f : Nat) : List PV → List (Nat × Ent) → Kont → Option Res
  | [.ro 5 v0 v1 v2, .ptr 2896 [], .ptr 2897 [], .ptr 2898 [], .ptr 2899 [], .sc (.int .i64 v3),
  PV.sc
    (Value.int IntKind.i64
      v4)], [(2896, .box false 31 (PV.st 31 [.ro 5 v5 v6 v7, .ro 5 v8 v9 v10, .ro 5 v11 v12 v13])),
  (2897,
    Ent.box false 54
      (PV.st 54
        [.sc (.int .i64 v14), .sc (.int .i64 v15), .sc (.int .i64 v16), .st 34 [.sc (.int .i64 v17), .sc (.int .i64 v18)],
          PV.st 45 [.sc (.int .i64 v19), .sc (.int .i64 v20)], .sc (.int .i64 v21), .sc (.int .i64 v22),
          PV.st 45 [.sc (.int .i64 v23), .sc (.int .i64 v24)], .sc (.int .i64 v25), .sc (.int .i64 v26), .ro 29 true true v27])),
  (2898, .box false 138 (PV.st 138 [.ro 5 v28 v29 v30, .sc (.int .i64 v31), .sc (.int .i64 v32)])),
  (2899,
    Ent.box false 54
      (PV.st 54
        [.sc (.int .i64 v33), .sc (.int .i64 v34), .sc (.int .i64 v35), .st 34 [.sc (.int .i64 v36), .sc (.int .i64 v37)],
          PV.st 45 [.sc (.int .i64 v38), .sc (.int .i64 v39)], .sc (.int .i64 v40), .sc (.int .i64 v41),
          PV.st 45 [.sc (.int .i64 v42), .sc (.int .i64 v43)], .sc (.int .i64 v44), .sc (.int .i64 v45), .ow 29 2900 [] 0 v46 none])),
  (2900,
    Ent.vec false 29 v47
      v48)], k => lp38_0 f (fun x0 x1 x2 x3 x4 x5 x6 x7 x8 x9 x10 x11 x12 x13 x14 x15 x16 x17 x18 x19 x20 x21 x22 x23 x24 x25 x26 x27 x28 x29 x30 x31 x32 x33 x34 x35 x36 x37 x38 x39 x40 x41 x42 x43 x44 x45 x46 => k (Ex.exit
  0) (fillS nx38_0 N38 [.ro 5 x0 x1 x2, .ptr 2896 [], .ptr 2897 [], .ptr 2898 [],
  PV.ptr 2899
    []] [(2896, .box false 31 (PV.st 31 [.ro 5 x3 x4 x5, .ro 5 x6 x7 x8, .ro 5 x9 x10 x11])),
  (2897,
    Ent.box false 54
      (PV.st 54
        [.sc (.int .i64 x12), .sc (.int .i64 x13), .sc (.int .i64 x14), .st 34 [.sc (.int .i64 x15), .sc (.int .i64 x16)],
          PV.st 45 [.sc (.int .i64 x17), .sc (.int .i64 x18)], .sc (.int .i64 x19), .sc (.int .i64 x20),
          PV.st 45 [.sc (.int .i64 x21), .sc (.int .i64 x22)], .sc (.int .i64 x23), .sc (.int .i64 x24), .ro 29 true true x25])),
  (2898, .box false 138 (PV.st 138 [.ro 5 x26 x27 x28, .sc (.int .i64 x29), .sc (.int .i64 x30)])),
  (2899,
    Ent.box false 54
      (PV.st 54
        [.sc (.int .i64 x31), .sc (.int .i64 x32), .sc (.int .i64 x33), .st 34 [.sc (.int .i64 x34), .sc (.int .i64 x35)],
          PV.st 45 [.sc (.int .i64 x36), .sc (.int .i64 x37)], .sc (.int .i64 x38), .sc (.int .i64 x39),
          PV.st 45 [.sc (.int .i64 x40), .sc (.int .i64 x41)], .sc (.int .i64 x42), .sc (.int .i64 x43), .ow 29 2900 [] 0 x44 none])),
  (2900,
    Ent.vec false 29 x45
      x46)])) f v0 v1 v2 v3 v4 v5 v6 v7 v8 v9 v10 v11 v12 v13 v14 v15 v16 v17 v18 v19 v20 v21 v22 v23 v24 v25 v26 v27 v28 v29 v30 v31 v32 v33 v34 v35 v36 v37 v38 v39 v40 v41 v42 v43 v44 v45 v46 v47 v48
  | _, _, _ => none
theorem it38_0 (f : Nat) : items c38_0 x38_0 = [] := by kernel_rfl
theorem i38_0 (f : Nat) : (Item.l c38_0 nm38_0 N38 (r38_0 f)).Ok tau Try.prog 0 := loop_item tabOk F38_ok mixed (x := x38_0) (nm2 := nx38_0) (anOk_items _ _ (by rw [it38_0 f]; intro q hq; cases hq)) fun vs hp k res hr => by
  unfold r38_0 at hr
  split at hr
  · exact ⟨f, 0, (lpE38_0 f _ f _ _ _ _ _ _ _ _ _ _ _ _ _ _ _ _ _ _ _ _ _ _ _ _ _ _ _ _ _ _ _ _ _ _ _ _ _ _ _ _ _ _ _ _ _ _ _ _ _ ).trans hr⟩
  · cases hr
noncomputable def tl38 (k : Res → Option Res) : Bool → Bool → List PV → Bool → Bool → List PV → Bool → Bool → List PV → Bool → Bool → List PV → Int → Int → Int → Int → Int → Int → Int → Int → Int → Int → Int → Int → Int → List PV → Bool → Bool → List PV → Int → Int → Int → Int → Int → Int → Int → Int → Int → Int → Int → Int → Int → Int → Int → Nat → Bool → List PV → Option Res := fun x0 x1 x2 x3 x4 x5 x6 x7 x8 x9 x10 x11 x12 x13 x14 x15 x16 x17 x18 x19 x20 x21 x22 x23 x24 x25 x26 x27 x28 x29 x30 x31 x32 x33 x34 x35 x36 x37 x38 x39 x40 x41 x42 x43 x44 x45 x46 => bif okT (RT.mk x28 x29 x30) then bif (hashT (RT.mk x28 x29 x30)).e == 0 then bif decide ((hashT (RT.mk x28 x29 x30)).P < zi (hashT (RT.mk x28 x29 x30)).B.length) then k (Res.mk (.tup [.st 54 [.sc (.int .i64 0), .sc (.int .i64 0), .sc (.int .i64 0), .st 34 [.sc (.int .i64 0), .sc (.int .i64 0)], .st 45 [.sc (.int .i64 0), .sc (.int .i64 0)], .sc (.int .i64 0), .sc (.int .i64 0), .st 45 [.sc (.int .i64 0), .sc (.int .i64 0)], .sc (.int .i64 0), .sc (.int .i64 0), .ro 29 true true []], .sc (.int .i64 9)]) [] []) else bif (hashT (RT.mk x28 x29 x30)).e != 0 then k (Res.mk (.tup [.st 54 [.sc (.int .i64 0), .sc (.int .i64 0), .sc (.int .i64 0), .st 34 [.sc (.int .i64 0), .sc (.int .i64 0)], .st 45 [.sc (.int .i64 0), .sc (.int .i64 0)], .sc (.int .i64 0), .sc (.int .i64 0), .st 45 [.sc (.int .i64 0), .sc (.int .i64 0)], .sc (.int .i64 0), .sc (.int .i64 0), .ro 29 true true []], .sc (.int .i64 (hashT (RT.mk x28 x29 x30)).e)]) [] []) else bif decide (x31 < 1) then k (Res.mk (.tup [.st 54 [.sc (.int .i64 0), .sc (.int .i64 0), .sc (.int .i64 0), .st 34 [.sc (.int .i64 0), .sc (.int .i64 0)], .st 45 [.sc (.int .i64 0), .sc (.int .i64 0)], .sc (.int .i64 0), .sc (.int .i64 0), .st 45 [.sc (.int .i64 0), .sc (.int .i64 0)], .sc (.int .i64 0), .sc (.int .i64 0), .ro 29 true true []], .sc (.int .i64 3)]) [] []) else bif decide (x31 > 5) then k (Res.mk (.tup [.st 54 [.sc (.int .i64 0), .sc (.int .i64 0), .sc (.int .i64 0), .st 34 [.sc (.int .i64 0), .sc (.int .i64 0)], .st 45 [.sc (.int .i64 0), .sc (.int .i64 0)], .sc (.int .i64 0), .sc (.int .i64 0), .st 45 [.sc (.int .i64 0), .sc (.int .i64 0)], .sc (.int .i64 0), .sc (.int .i64 0), .ro 29 true true []], .sc (.int .i64 3)]) [] []) else bif !inA [x32, 2] then k (Res.mk (.tup [.st 54 [.sc (.int .i64 0), .sc (.int .i64 0), .sc (.int .i64 0), .st 34 [.sc (.int .i64 0), .sc (.int .i64 0)], .st 45 [.sc (.int .i64 0), .sc (.int .i64 0)], .sc (.int .i64 0), .sc (.int .i64 0), .st 45 [.sc (.int .i64 0), .sc (.int .i64 0)], .sc (.int .i64 0), .sc (.int .i64 0), .ro 29 true true []], .sc (.int .i64 1)]) [] []) else bif !inA [x33, 2] then k (Res.mk (.tup [.st 54 [.sc (.int .i64 0), .sc (.int .i64 0), .sc (.int .i64 0), .st 34 [.sc (.int .i64 0), .sc (.int .i64 0)], .st 45 [.sc (.int .i64 0), .sc (.int .i64 0)], .sc (.int .i64 0), .sc (.int .i64 0), .st 45 [.sc (.int .i64 0), .sc (.int .i64 0)], .sc (.int .i64 0), .sc (.int .i64 0), .ro 29 true true []], .sc (.int .i64 1)]) [] []) else bif x32 == x33 then k (Res.mk (.tup [.st 54 [.sc (.int .i64 0), .sc (.int .i64 0), .sc (.int .i64 0), .st 34 [.sc (.int .i64 0), .sc (.int .i64 0)], .st 45 [.sc (.int .i64 0), .sc (.int .i64 0)], .sc (.int .i64 0), .sc (.int .i64 0), .st 45 [.sc (.int .i64 0), .sc (.int .i64 0)], .sc (.int .i64 0), .sc (.int .i64 0), .ro 29 true true []], .sc (.int .i64 1)]) [] []) else bif !inA [x34, 2, x35, 99] then k (Res.mk (.tup [.st 54 [.sc (.int .i64 0), .sc (.int .i64 0), .sc (.int .i64 0), .st 34 [.sc (.int .i64 0), .sc (.int .i64 0)], .st 45 [.sc (.int .i64 0), .sc (.int .i64 0)], .sc (.int .i64 0), .sc (.int .i64 0), .st 45 [.sc (.int .i64 0), .sc (.int .i64 0)], .sc (.int .i64 0), .sc (.int .i64 0), .ro 29 true true []], .sc (.int .i64 1)]) [] []) else bif !inA [x36, 2, x37, 7] then k (Res.mk (.tup [.st 54 [.sc (.int .i64 0), .sc (.int .i64 0), .sc (.int .i64 0), .st 34 [.sc (.int .i64 0), .sc (.int .i64 0)], .st 45 [.sc (.int .i64 0), .sc (.int .i64 0)], .sc (.int .i64 0), .sc (.int .i64 0), .st 45 [.sc (.int .i64 0), .sc (.int .i64 0)], .sc (.int .i64 0), .sc (.int .i64 0), .ro 29 true true []], .sc (.int .i64 1)]) [] []) else bif !inA [x40, 2, x41, 7] then k (Res.mk (.tup [.st 54 [.sc (.int .i64 0), .sc (.int .i64 0), .sc (.int .i64 0), .st 34 [.sc (.int .i64 0), .sc (.int .i64 0)], .st 45 [.sc (.int .i64 0), .sc (.int .i64 0)], .sc (.int .i64 0), .sc (.int .i64 0), .st 45 [.sc (.int .i64 0), .sc (.int .i64 0)], .sc (.int .i64 0), .sc (.int .i64 0), .ro 29 true true []], .sc (.int .i64 1)]) [] []) else bif !inA [x38, 1073741824] then k (Res.mk (.tup [.st 54 [.sc (.int .i64 0), .sc (.int .i64 0), .sc (.int .i64 0), .st 34 [.sc (.int .i64 0), .sc (.int .i64 0)], .st 45 [.sc (.int .i64 0), .sc (.int .i64 0)], .sc (.int .i64 0), .sc (.int .i64 0), .st 45 [.sc (.int .i64 0), .sc (.int .i64 0)], .sc (.int .i64 0), .sc (.int .i64 0), .ro 29 true true []], .sc (.int .i64 1)]) [] []) else bif !inA [x39, 1073741824] then k (Res.mk (.tup [.st 54 [.sc (.int .i64 0), .sc (.int .i64 0), .sc (.int .i64 0), .st 34 [.sc (.int .i64 0), .sc (.int .i64 0)], .st 45 [.sc (.int .i64 0), .sc (.int .i64 0)], .sc (.int .i64 0), .sc (.int .i64 0), .st 45 [.sc (.int .i64 0), .sc (.int .i64 0)], .sc (.int .i64 0), .sc (.int .i64 0), .ro 29 true true []], .sc (.int .i64 1)]) [] []) else bif !inA [x42, 1073741824] then k (Res.mk (.tup [.st 54 [.sc (.int .i64 0), .sc (.int .i64 0), .sc (.int .i64 0), .st 34 [.sc (.int .i64 0), .sc (.int .i64 0)], .st 45 [.sc (.int .i64 0), .sc (.int .i64 0)], .sc (.int .i64 0), .sc (.int .i64 0), .st 45 [.sc (.int .i64 0), .sc (.int .i64 0)], .sc (.int .i64 0), .sc (.int .i64 0), .ro 29 true true []], .sc (.int .i64 1)]) [] []) else bif !inA [x43, 255] then k (Res.mk (.tup [.st 54 [.sc (.int .i64 0), .sc (.int .i64 0), .sc (.int .i64 0), .st 34 [.sc (.int .i64 0), .sc (.int .i64 0)], .st 45 [.sc (.int .i64 0), .sc (.int .i64 0)], .sc (.int .i64 0), .sc (.int .i64 0), .st 45 [.sc (.int .i64 0), .sc (.int .i64 0)], .sc (.int .i64 0), .sc (.int .i64 0), .ro 29 true true []], .sc (.int .i64 1)]) [] []) else bif decide (0 ≤ x32) && decide (x32 < zi 3) && true then bif PV.isRo 5 (getP (PV.st 31 [.ro 5 x3 x4 x5, .ro 5 x6 x7 x8, .ro 5 x9 x10 x11]) [x32.toNat]) && true then bif decide (0 ≤ IntKind.i64.wrap (zi x2.length - 32)) && true && decide ((IntKind.i64.wrap (zi x2.length - 32)).toNat ≤ x2.length) && true then bif allInt IntKind.u8 (getP (PV.st 31 [.ro 5 x3 x4 x5, .ro 5 x6 x7 x8, .ro 5 x9 x10 x11]) [x32.toNat]).els && decide ((getP (PV.st 31 [.ro 5 x3 x4 x5, .ro 5 x6 x7 x8, .ro 5 x9 x10 x11]) [x32.toNat]).els.length ≤ 1000000000) && (allInt IntKind.u8 (List.take (IntKind.i64.wrap (zi x2.length - 32)).toNat x2) && decide ((List.take (IntKind.i64.wrap (zi x2.length - 32)).toNat x2).length ≤ 1000000000)) then bif decide ((pu IntKind.u8 (hashVT (RT.mk x28 x29 x30))).length = 32) && decide ((pu IntKind.u8 (macP (ints (getP (PV.st 31 [.ro 5 x3 x4 x5, .ro 5 x6 x7 x8, .ro 5 x9 x10 x11]) [x32.toNat]).els) (ints (List.take (IntKind.i64.wrap (zi x2.length - 32)).toNat x2)))).length = 32) && allInt IntKind.u8 (pu IntKind.u8 (hashVT (RT.mk x28 x29 x30))) && allInt IntKind.u8 (pu IntKind.u8 (macP (ints (getP (PV.st 31 [.ro 5 x3 x4 x5, .ro 5 x6 x7 x8, .ro 5 x9 x10 x11]) [x32.toNat]).els) (ints (List.take (IntKind.i64.wrap (zi x2.length - 32)).toNat x2)))) && true then bif !eqInts (pu IntKind.u8 (hashVT (RT.mk x28 x29 x30))) (pu IntKind.u8 (macP (ints (getP (PV.st 31 [.ro 5 x3 x4 x5, .ro 5 x6 x7 x8, .ro 5 x9 x10 x11]) [x32.toNat]).els) (ints (List.take (IntKind.i64.wrap (zi x2.length - 32)).toNat x2)))) then k (Res.mk (.tup [.st 54 [.sc (.int .i64 0), .sc (.int .i64 0), .sc (.int .i64 0), .st 34 [.sc (.int .i64 0), .sc (.int .i64 0)], .st 45 [.sc (.int .i64 0), .sc (.int .i64 0)], .sc (.int .i64 0), .sc (.int .i64 0), .st 45 [.sc (.int .i64 0), .sc (.int .i64 0)], .sc (.int .i64 0), .sc (.int .i64 0), .ro 29 true true []], .sc (.int .i64 14)]) [] []) else k (Res.mk (.tup [.st 54 [.sc (.int .i64 x31), .sc (.int .i64 x32), .sc (.int .i64 x33), .st 34 [.sc (.int .i64 x34), .sc (.int .i64 x35)], .st 45 [.sc (.int .i64 x36), .sc (.int .i64 x37)], .sc (.int .i64 x38), .sc (.int .i64 x39), .st 45 [.sc (.int .i64 x40), .sc (.int .i64 x41)], .sc (.int .i64 x42), .sc (.int .i64 x43), .ro 29 (Ent.vec false 29 x45 x46).nil false (List.take x44 x46)], .sc (.int .i64 0)]) [] []) else none else none else none else none else none else bif (hashT (RT.mk x28 x29 x30)).e != 0 then k (Res.mk (.tup [.st 54 [.sc (.int .i64 0), .sc (.int .i64 0), .sc (.int .i64 0), .st 34 [.sc (.int .i64 0), .sc (.int .i64 0)], .st 45 [.sc (.int .i64 0), .sc (.int .i64 0)], .sc (.int .i64 0), .sc (.int .i64 0), .st 45 [.sc (.int .i64 0), .sc (.int .i64 0)], .sc (.int .i64 0), .sc (.int .i64 0), .ro 29 true true []], .sc (.int .i64 (hashT (RT.mk x28 x29 x30)).e)]) [] []) else bif decide (x31 < 1) then k (Res.mk (.tup [.st 54 [.sc (.int .i64 0), .sc (.int .i64 0), .sc (.int .i64 0), .st 34 [.sc (.int .i64 0), .sc (.int .i64 0)], .st 45 [.sc (.int .i64 0), .sc (.int .i64 0)], .sc (.int .i64 0), .sc (.int .i64 0), .st 45 [.sc (.int .i64 0), .sc (.int .i64 0)], .sc (.int .i64 0), .sc (.int .i64 0), .ro 29 true true []], .sc (.int .i64 3)]) [] []) else bif decide (x31 > 5) then k (Res.mk (.tup [.st 54 [.sc (.int .i64 0), .sc (.int .i64 0), .sc (.int .i64 0), .st 34 [.sc (.int .i64 0), .sc (.int .i64 0)], .st 45 [.sc (.int .i64 0), .sc (.int .i64 0)], .sc (.int .i64 0), .sc (.int .i64 0), .st 45 [.sc (.int .i64 0), .sc (.int .i64 0)], .sc (.int .i64 0), .sc (.int .i64 0), .ro 29 true true []], .sc (.int .i64 3)]) [] []) else bif !inA [x32, 2] then k (Res.mk (.tup [.st 54 [.sc (.int .i64 0), .sc (.int .i64 0), .sc (.int .i64 0), .st 34 [.sc (.int .i64 0), .sc (.int .i64 0)], .st 45 [.sc (.int .i64 0), .sc (.int .i64 0)], .sc (.int .i64 0), .sc (.int .i64 0), .st 45 [.sc (.int .i64 0), .sc (.int .i64 0)], .sc (.int .i64 0), .sc (.int .i64 0), .ro 29 true true []], .sc (.int .i64 1)]) [] []) else bif !inA [x33, 2] then k (Res.mk (.tup [.st 54 [.sc (.int .i64 0), .sc (.int .i64 0), .sc (.int .i64 0), .st 34 [.sc (.int .i64 0), .sc (.int .i64 0)], .st 45 [.sc (.int .i64 0), .sc (.int .i64 0)], .sc (.int .i64 0), .sc (.int .i64 0), .st 45 [.sc (.int .i64 0), .sc (.int .i64 0)], .sc (.int .i64 0), .sc (.int .i64 0), .ro 29 true true []], .sc (.int .i64 1)]) [] []) else bif x32 == x33 then k (Res.mk (.tup [.st 54 [.sc (.int .i64 0), .sc (.int .i64 0), .sc (.int .i64 0), .st 34 [.sc (.int .i64 0), .sc (.int .i64 0)], .st 45 [.sc (.int .i64 0), .sc (.int .i64 0)], .sc (.int .i64 0), .sc (.int .i64 0), .st 45 [.sc (.int .i64 0), .sc (.int .i64 0)], .sc (.int .i64 0), .sc (.int .i64 0), .ro 29 true true []], .sc (.int .i64 1)]) [] []) else bif !inA [x34, 2, x35, 99] then k (Res.mk (.tup [.st 54 [.sc (.int .i64 0), .sc (.int .i64 0), .sc (.int .i64 0), .st 34 [.sc (.int .i64 0), .sc (.int .i64 0)], .st 45 [.sc (.int .i64 0), .sc (.int .i64 0)], .sc (.int .i64 0), .sc (.int .i64 0), .st 45 [.sc (.int .i64 0), .sc (.int .i64 0)], .sc (.int .i64 0), .sc (.int .i64 0), .ro 29 true true []], .sc (.int .i64 1)]) [] []) else bif !inA [x36, 2, x37, 7] then k (Res.mk (.tup [.st 54 [.sc (.int .i64 0), .sc (.int .i64 0), .sc (.int .i64 0), .st 34 [.sc (.int .i64 0), .sc (.int .i64 0)], .st 45 [.sc (.int .i64 0), .sc (.int .i64 0)], .sc (.int .i64 0), .sc (.int .i64 0), .st 45 [.sc (.int .i64 0), .sc (.int .i64 0)], .sc (.int .i64 0), .sc (.int .i64 0), .ro 29 true true []], .sc (.int .i64 1)]) [] []) else bif !inA [x40, 2, x41, 7] then k (Res.mk (.tup [.st 54 [.sc (.int .i64 0), .sc (.int .i64 0), .sc (.int .i64 0), .st 34 [.sc (.int .i64 0), .sc (.int .i64 0)], .st 45 [.sc (.int .i64 0), .sc (.int .i64 0)], .sc (.int .i64 0), .sc (.int .i64 0), .st 45 [.sc (.int .i64 0), .sc (.int .i64 0)], .sc (.int .i64 0), .sc (.int .i64 0), .ro 29 true true []], .sc (.int .i64 1)]) [] []) else bif !inA [x38, 1073741824] then k (Res.mk (.tup [.st 54 [.sc (.int .i64 0), .sc (.int .i64 0), .sc (.int .i64 0), .st 34 [.sc (.int .i64 0), .sc (.int .i64 0)], .st 45 [.sc (.int .i64 0), .sc (.int .i64 0)], .sc (.int .i64 0), .sc (.int .i64 0), .st 45 [.sc (.int .i64 0), .sc (.int .i64 0)], .sc (.int .i64 0), .sc (.int .i64 0), .ro 29 true true []], .sc (.int .i64 1)]) [] []) else bif !inA [x39, 1073741824] then k (Res.mk (.tup [.st 54 [.sc (.int .i64 0), .sc (.int .i64 0), .sc (.int .i64 0), .st 34 [.sc (.int .i64 0), .sc (.int .i64 0)], .st 45 [.sc (.int .i64 0), .sc (.int .i64 0)], .sc (.int .i64 0), .sc (.int .i64 0), .st 45 [.sc (.int .i64 0), .sc (.int .i64 0)], .sc (.int .i64 0), .sc (.int .i64 0), .ro 29 true true []], .sc (.int .i64 1)]) [] []) else bif !inA [x42, 1073741824] then k (Res.mk (.tup [.st 54 [.sc (.int .i64 0), .sc (.int .i64 0), .sc (.int .i64 0), .st 34 [.sc (.int .i64 0), .sc (.int .i64 0)], .st 45 [.sc (.int .i64 0), .sc (.int .i64 0)], .sc (.int .i64 0), .sc (.int .i64 0), .st 45 [.sc (.int .i64 0), .sc (.int .i64 0)], .sc (.int .i64 0), .sc (.int .i64 0), .ro 29 true true []], .sc (.int .i64 1)]) [] []) else bif !inA [x43, 255] then k (Res.mk (.tup [.st 54 [.sc (.int .i64 0), .sc (.int .i64 0), .sc (.int .i64 0), .st 34 [.sc (.int .i64 0), .sc (.int .i64 0)], .st 45 [.sc (.int .i64 0), .sc (.int .i64 0)], .sc (.int .i64 0), .sc (.int .i64 0), .st 45 [.sc (.int .i64 0), .sc (.int .i64 0)], .sc (.int .i64 0), .sc (.int .i64 0), .ro 29 true true []], .sc (.int .i64 1)]) [] []) else bif decide (0 ≤ x32) && decide (x32 < zi 3) && true then bif PV.isRo 5 (getP (PV.st 31 [.ro 5 x3 x4 x5, .ro 5 x6 x7 x8, .ro 5 x9 x10 x11]) [x32.toNat]) && true then bif decide (0 ≤ IntKind.i64.wrap (zi x2.length - 32)) && true && decide ((IntKind.i64.wrap (zi x2.length - 32)).toNat ≤ x2.length) && true then bif allInt IntKind.u8 (getP (PV.st 31 [.ro 5 x3 x4 x5, .ro 5 x6 x7 x8, .ro 5 x9 x10 x11]) [x32.toNat]).els && decide ((getP (PV.st 31 [.ro 5 x3 x4 x5, .ro 5 x6 x7 x8, .ro 5 x9 x10 x11]) [x32.toNat]).els.length ≤ 1000000000) && (allInt IntKind.u8 (List.take (IntKind.i64.wrap (zi x2.length - 32)).toNat x2) && decide ((List.take (IntKind.i64.wrap (zi x2.length - 32)).toNat x2).length ≤ 1000000000)) then bif decide ((pu IntKind.u8 (hashVT (RT.mk x28 x29 x30))).length = 32) && decide ((pu IntKind.u8 (macP (ints (getP (PV.st 31 [.ro 5 x3 x4 x5, .ro 5 x6 x7 x8, .ro 5 x9 x10 x11]) [x32.toNat]).els) (ints (List.take (IntKind.i64.wrap (zi x2.length - 32)).toNat x2)))).length = 32) && allInt IntKind.u8 (pu IntKind.u8 (hashVT (RT.mk x28 x29 x30))) && allInt IntKind.u8 (pu IntKind.u8 (macP (ints (getP (PV.st 31 [.ro 5 x3 x4 x5, .ro 5 x6 x7 x8, .ro 5 x9 x10 x11]) [x32.toNat]).els) (ints (List.take (IntKind.i64.wrap (zi x2.length - 32)).toNat x2)))) && true then bif !eqInts (pu IntKind.u8 (hashVT (RT.mk x28 x29 x30))) (pu IntKind.u8 (macP (ints (getP (PV.st 31 [.ro 5 x3 x4 x5, .ro 5 x6 x7 x8, .ro 5 x9 x10 x11]) [x32.toNat]).els) (ints (List.take (IntKind.i64.wrap (zi x2.length - 32)).toNat x2)))) then k (Res.mk (.tup [.st 54 [.sc (.int .i64 0), .sc (.int .i64 0), .sc (.int .i64 0), .st 34 [.sc (.int .i64 0), .sc (.int .i64 0)], .st 45 [.sc (.int .i64 0), .sc (.int .i64 0)], .sc (.int .i64 0), .sc (.int .i64 0), .st 45 [.sc (.int .i64 0), .sc (.int .i64 0)], .sc (.int .i64 0), .sc (.int .i64 0), .ro 29 true true []], .sc (.int .i64 14)]) [] []) else k (Res.mk (.tup [.st 54 [.sc (.int .i64 x31), .sc (.int .i64 x32), .sc (.int .i64 x33), .st 34 [.sc (.int .i64 x34), .sc (.int .i64 x35)], .st 45 [.sc (.int .i64 x36), .sc (.int .i64 x37)], .sc (.int .i64 x38), .sc (.int .i64 x39), .st 45 [.sc (.int .i64 x40), .sc (.int .i64 x41)], .sc (.int .i64 x42), .sc (.int .i64 x43), .ro 29 (Ent.vec false 29 x45 x46).nil false (List.take x44 x46)], .sc (.int .i64 0)]) [] []) else none else none else none else none else none else none
noncomputable def g38 (f : Nat) (k0_z : Bool) (k0_f : Bool) (k0 : List PV) (k1_z : Bool) (k1_f : Bool) (k1 : List PV) (k2_z : Bool) (k2_f : Bool) (k2 : List PV) (b_z : Bool) (b_f : Bool) (b : List PV) (k : Res → Option Res) : Option Res := bif decide (zi b.length > 8192) then k (Res.mk (.tup [.st 54 [.sc (.int .i64 0), .sc (.int .i64 0), .sc (.int .i64 0), .st 34 [.sc (.int .i64 0), .sc (.int .i64 0)], .st 45 [.sc (.int .i64 0), .sc (.int .i64 0)], .sc (.int .i64 0), .sc (.int .i64 0), .st 45 [.sc (.int .i64 0), .sc (.int .i64 0)], .sc (.int .i64 0), .sc (.int .i64 0), .ro 29 true true []], .sc (.int .i64 5)]) [] []) else bif okT (RT.mk b 0 0) then bif okT (stepT 1 (RT.mk b 0 0)) then bif okT (stepT 8 (stepT 1 (RT.mk b 0 0))) then bif okT (stepT 8 (stepT 8 (stepT 1 (RT.mk b 0 0)))) then bif okT (stepT 8 (stepT 8 (stepT 8 (stepT 1 (RT.mk b 0 0))))) then bif okT (stepT 8 (stepT 8 (stepT 8 (stepT 8 (stepT 1 (RT.mk b 0 0)))))) then bif okT (stepT 8 (stepT 8 (stepT 8 (stepT 8 (stepT 8 (stepT 1 (RT.mk b 0 0))))))) then bif okT (stepT 8 (stepT 8 (stepT 8 (stepT 8 (stepT 8 (stepT 8 (stepT 1 (RT.mk b 0 0)))))))) then bif okT (stepT 8 (stepT 8 (stepT 8 (stepT 8 (stepT 8 (stepT 8 (stepT 8 (stepT 1 (RT.mk b 0 0))))))))) then bif okT (stepT 8 (stepT 8 (stepT 8 (stepT 8 (stepT 8 (stepT 8 (stepT 8 (stepT 8 (stepT 1 (RT.mk b 0 0)))))))))) then bif okT (stepT 8 (stepT 8 (stepT 8 (stepT 8 (stepT 8 (stepT 8 (stepT 8 (stepT 8 (stepT 8 (stepT 1 (RT.mk b 0 0))))))))))) then bif okT (stepT 8 (stepT 8 (stepT 8 (stepT 8 (stepT 8 (stepT 8 (stepT 8 (stepT 8 (stepT 8 (stepT 8 (stepT 1 (RT.mk b 0 0)))))))))))) then bif okT (stepT 8 (stepT 8 (stepT 8 (stepT 8 (stepT 8 (stepT 8 (stepT 8 (stepT 8 (stepT 8 (stepT 8 (stepT 8 (stepT 1 (RT.mk b 0 0))))))))))))) then bif okT (stepT 8 (stepT 8 (stepT 8 (stepT 8 (stepT 8 (stepT 8 (stepT 8 (stepT 8 (stepT 8 (stepT 8 (stepT 8 (stepT 8 (stepT 1 (RT.mk b 0 0)))))))))))))) then bif decide (numT 1 (stepT 8 (stepT 8 (stepT 8 (stepT 8 (stepT 8 (stepT 8 (stepT 8 (stepT 8 (stepT 8 (stepT 8 (stepT 8 (stepT 8 (stepT 1 (RT.mk b 0 0)))))))))))))) > 4) then bif (stepT 1 (stepT 8 (stepT 8 (stepT 8 (stepT 8 (stepT 8 (stepT 8 (stepT 8 (stepT 8 (stepT 8 (stepT 8 (stepT 8 (stepT 8 (stepT 1 (RT.mk b 0 0))))))))))))))).e == 0 then lp38_0 f (tl38 k) f b_z b_f b (numT 1 (stepT 8 (stepT 8 (stepT 8 (stepT 8 (stepT 8 (stepT 8 (stepT 8 (stepT 8 (stepT 8 (stepT 8 (stepT 8 (stepT 8 (stepT 1 (RT.mk b 0 0))))))))))))))) (0) k0_z k0_f k0 k1_z k1_f k1 k2_z k2_f k2 (0) (0) (0) (0) (0) (0) (0) (0) (0) (0) (0) (0) (0) ([]) b_z b_f ((stepT 1 (stepT 8 (stepT 8 (stepT 8 (stepT 8 (stepT 8 (stepT 8 (stepT 8 (stepT 8 (stepT 8 (stepT 8 (stepT 8 (stepT 8 (stepT 1 (RT.mk b 0 0))))))))))))))).B) ((stepT 1 (stepT 8 (stepT 8 (stepT 8 (stepT 8 (stepT 8 (stepT 8 (stepT 8 (stepT 8 (stepT 8 (stepT 8 (stepT 8 (stepT 8 (stepT 1 (RT.mk b 0 0))))))))))))))).P) (4) (numT 1 (RT.mk b 0 0)) (numT 8 (stepT 1 (RT.mk b 0 0))) (numT 8 (stepT 8 (stepT 1 (RT.mk b 0 0)))) (numT 8 (stepT 8 (stepT 8 (stepT 1 (RT.mk b 0 0))))) (numT 8 (stepT 8 (stepT 8 (stepT 8 (stepT 1 (RT.mk b 0 0)))))) (numT 8 (stepT 8 (stepT 8 (stepT 8 (stepT 8 (stepT 1 (RT.mk b 0 0))))))) (numT 8 (stepT 8 (stepT 8 (stepT 8 (stepT 8 (stepT 8 (stepT 1 (RT.mk b 0 0)))))))) (numT 8 (stepT 8 (stepT 8 (stepT 8 (stepT 8 (stepT 8 (stepT 8 (stepT 1 (RT.mk b 0 0))))))))) (numT 8 (stepT 8 (stepT 8 (stepT 8 (stepT 8 (stepT 8 (stepT 8 (stepT 8 (stepT 1 (RT.mk b 0 0)))))))))) (numT 8 (stepT 8 (stepT 8 (stepT 8 (stepT 8 (stepT 8 (stepT 8 (stepT 8 (stepT 8 (stepT 1 (RT.mk b 0 0))))))))))) (numT 8 (stepT 8 (stepT 8 (stepT 8 (stepT 8 (stepT 8 (stepT 8 (stepT 8 (stepT 8 (stepT 8 (stepT 1 (RT.mk b 0 0)))))))))))) (numT 8 (stepT 8 (stepT 8 (stepT 8 (stepT 8 (stepT 8 (stepT 8 (stepT 8 (stepT 8 (stepT 8 (stepT 8 (stepT 1 (RT.mk b 0 0))))))))))))) (numT 8 (stepT 8 (stepT 8 (stepT 8 (stepT 8 (stepT 8 (stepT 8 (stepT 8 (stepT 8 (stepT 8 (stepT 8 (stepT 8 (stepT 1 (RT.mk b 0 0)))))))))))))) (0) true ([]) else lp38_0 f (tl38 k) f b_z b_f b (numT 1 (stepT 8 (stepT 8 (stepT 8 (stepT 8 (stepT 8 (stepT 8 (stepT 8 (stepT 8 (stepT 8 (stepT 8 (stepT 8 (stepT 8 (stepT 1 (RT.mk b 0 0))))))))))))))) (0) k0_z k0_f k0 k1_z k1_f k1 k2_z k2_f k2 (0) (0) (0) (0) (0) (0) (0) (0) (0) (0) (0) (0) (0) ([]) b_z b_f ((stepT 1 (stepT 8 (stepT 8 (stepT 8 (stepT 8 (stepT 8 (stepT 8 (stepT 8 (stepT 8 (stepT 8 (stepT 8 (stepT 8 (stepT 8 (stepT 1 (RT.mk b 0 0))))))))))))))).B) ((stepT 1 (stepT 8 (stepT 8 (stepT 8 (stepT 8 (stepT 8 (stepT 8 (stepT 8 (stepT 8 (stepT 8 (stepT 8 (stepT 8 (stepT 8 (stepT 1 (RT.mk b 0 0))))))))))))))).P) ((stepT 1 (stepT 8 (stepT 8 (stepT 8 (stepT 8 (stepT 8 (stepT 8 (stepT 8 (stepT 8 (stepT 8 (stepT 8 (stepT 8 (stepT 8 (stepT 1 (RT.mk b 0 0))))))))))))))).e) (numT 1 (RT.mk b 0 0)) (numT 8 (stepT 1 (RT.mk b 0 0))) (numT 8 (stepT 8 (stepT 1 (RT.mk b 0 0)))) (numT 8 (stepT 8 (stepT 8 (stepT 1 (RT.mk b 0 0))))) (numT 8 (stepT 8 (stepT 8 (stepT 8 (stepT 1 (RT.mk b 0 0)))))) (numT 8 (stepT 8 (stepT 8 (stepT 8 (stepT 8 (stepT 1 (RT.mk b 0 0))))))) (numT 8 (stepT 8 (stepT 8 (stepT 8 (stepT 8 (stepT 8 (stepT 1 (RT.mk b 0 0)))))))) (numT 8 (stepT 8 (stepT 8 (stepT 8 (stepT 8 (stepT 8 (stepT 8 (stepT 1 (RT.mk b 0 0))))))))) (numT 8 (stepT 8 (stepT 8 (stepT 8 (stepT 8 (stepT 8 (stepT 8 (stepT 8 (stepT 1 (RT.mk b 0 0)))))))))) (numT 8 (stepT 8 (stepT 8 (stepT 8 (stepT 8 (stepT 8 (stepT 8 (stepT 8 (stepT 8 (stepT 1 (RT.mk b 0 0))))))))))) (numT 8 (stepT 8 (stepT 8 (stepT 8 (stepT 8 (stepT 8 (stepT 8 (stepT 8 (stepT 8 (stepT 8 (stepT 1 (RT.mk b 0 0)))))))))))) (numT 8 (stepT 8 (stepT 8 (stepT 8 (stepT 8 (stepT 8 (stepT 8 (stepT 8 (stepT 8 (stepT 8 (stepT 8 (stepT 1 (RT.mk b 0 0))))))))))))) (numT 8 (stepT 8 (stepT 8 (stepT 8 (stepT 8 (stepT 8 (stepT 8 (stepT 8 (stepT 8 (stepT 8 (stepT 8 (stepT 8 (stepT 1 (RT.mk b 0 0)))))))))))))) (0) true ([]) else lp38_0 f (tl38 k) f b_z b_f b (numT 1 (stepT 8 (stepT 8 (stepT 8 (stepT 8 (stepT 8 (stepT 8 (stepT 8 (stepT 8 (stepT 8 (stepT 8 (stepT 8 (stepT 8 (stepT 1 (RT.mk b 0 0))))))))))))))) (0) k0_z k0_f k0 k1_z k1_f k1 k2_z k2_f k2 (0) (0) (0) (0) (0) (0) (0) (0) (0) (0) (0) (0) (0) ([]) b_z b_f ((stepT 1 (stepT 8 (stepT 8 (stepT 8 (stepT 8 (stepT 8 (stepT 8 (stepT 8 (stepT 8 (stepT 8 (stepT 8 (stepT 8 (stepT 8 (stepT 1 (RT.mk b 0 0))))))))))))))).B) ((stepT 1 (stepT 8 (stepT 8 (stepT 8 (stepT 8 (stepT 8 (stepT 8 (stepT 8 (stepT 8 (stepT 8 (stepT 8 (stepT 8 (stepT 8 (stepT 1 (RT.mk b 0 0))))))))))))))).P) ((stepT 1 (stepT 8 (stepT 8 (stepT 8 (stepT 8 (stepT 8 (stepT 8 (stepT 8 (stepT 8 (stepT 8 (stepT 8 (stepT 8 (stepT 8 (stepT 1 (RT.mk b 0 0))))))))))))))).e) (numT 1 (RT.mk b 0 0)) (numT 8 (stepT 1 (RT.mk b 0 0))) (numT 8 (stepT 8 (stepT 1 (RT.mk b 0 0)))) (numT 8 (stepT 8 (stepT 8 (stepT 1 (RT.mk b 0 0))))) (numT 8 (stepT 8 (stepT 8 (stepT 8 (stepT 1 (RT.mk b 0 0)))))) (numT 8 (stepT 8 (stepT 8 (stepT 8 (stepT 8 (stepT 1 (RT.mk b 0 0))))))) (numT 8 (stepT 8 (stepT 8 (stepT 8 (stepT 8 (stepT 8 (stepT 1 (RT.mk b 0 0)))))))) (numT 8 (stepT 8 (stepT 8 (stepT 8 (stepT 8 (stepT 8 (stepT 8 (stepT 1 (RT.mk b 0 0))))))))) (numT 8 (stepT 8 (stepT 8 (stepT 8 (stepT 8 (stepT 8 (stepT 8 (stepT 8 (stepT 1 (RT.mk b 0 0)))))))))) (numT 8 (stepT 8 (stepT 8 (stepT 8 (stepT 8 (stepT 8 (stepT 8 (stepT 8 (stepT 8 (stepT 1 (RT.mk b 0 0))))))))))) (numT 8 (stepT 8 (stepT 8 (stepT 8 (stepT 8 (stepT 8 (stepT 8 (stepT 8 (stepT 8 (stepT 8 (stepT 1 (RT.mk b 0 0)))))))))))) (numT 8 (stepT 8 (stepT 8 (stepT 8 (stepT 8 (stepT 8 (stepT 8 (stepT 8 (stepT 8 (stepT 8 (stepT 8 (stepT 1 (RT.mk b 0 0))))))))))))) (numT 8 (stepT 8 (stepT 8 (stepT 8 (stepT 8 (stepT 8 (stepT 8 (stepT 8 (stepT 8 (stepT 8 (stepT 8 (stepT 8 (stepT 1 (RT.mk b 0 0)))))))))))))) (0) true ([]) else none else none else none else none else none else none else none else none else none else none else none else none else none else none
theorem e38 (f : Nat) (k0_z : Bool) (k0_f : Bool) (k0 : List PV) (k1_z : Bool) (k1_f : Bool) (k1 : List PV) (k2_z : Bool) (k2_f : Bool) (k2 : List PV) (b_z : Bool) (b_f : Bool) (b : List PV) (k : Res → Option Res) : evFn tau F38 Try.f38 (Try.f38.body.get!) (an38 (r38_0 f)) [.ro, .ro] 0 [.st 31 [.ro 5 k0_z k0_f k0, .ro 5 k1_z k1_f k1, .ro 5 k2_z k2_f k2], .ro 5 b_z b_f b] [] k = g38 f k0_z k0_f k0 k1_z k1_f k1 k2_z k2_f k2 b_z b_f b k := by kernel_rfl
theorem it38 (f : Nat) : items (Try.f38.body.get!) (an38 (r38_0 f)) = [.l c38_0 nm38_0 N38 (r38_0 f)] := by kernel_rfl
theorem ia38 (f : Nat) : ∀ q ∈ items (Try.f38.body.get!) (an38 (r38_0 f)), q.Ok tau Try.prog 0 := by
  rw [it38 f]; simp only [List.forall_mem_cons, List.not_mem_nil, false_implies, implies_true, and_true]; exact i38_0 f
theorem fo38 : Try.prog.funcs[38]? = some Try.f38 := by kernel_rfl
theorem bo38 : Try.f38.body = some (Try.f38.body.get!) := by kernel_rfl
theorem en38 : Enters Try.prog 38 := enters_of fo38 (by kernel_rfl) bo38
end Go.Proofs.Ytcklhipdldpkhaa.Rx

-- FN ref16.Parse
/- The document's reading of a message is the program's. Own work. -/
namespace Go.Proofs.Ytcklhipdldpkhaa.Rx
open Go
set_option linter.unusedVariables false
set_option linter.unusedSimpArgs false
set_option maxRecDepth 100000
set_option maxHeartbeats 4000000
theorem inZ_eq (x m : Int) : inZ x m = innB x m := rfl
theorem txtS_err {s : RS} (h : s.e ≠ 0) : txtS s = s := by
  rw [txtS_eq]; unfold txtS0; rw [step_err h 2, step_err h]
theorem txR_err : ∀ (n : Nat) {s : RS}, s.e ≠ 0 → txR n s = s
  | 0, _, _ => rfl
  | n + 1, s, h => by show txR n (txtS s) = s; rw [txtS_err h, txR_err n h]
theorem okT_by {t : RT} (h : okT t = true) : byB t.view.b = true := by
  simp only [okT, Bool.and_eq_true] at h
  exact byB_drop h.2.2.1 _
theorem l38_e (f : Nat) (k0 : Bool → Bool → List PV → Bool → Bool → List PV → Bool → Bool → List PV → Bool → Bool → List PV → Int → Int → Int → Int → Int → Int → Int → Int → Int → Int → Int → Int → Int → List PV → Bool → Bool → List PV → Int → Int → Int → Int → Int → Int → Int → Int → Int → Int → Int → Int → Int → Int → Int → Nat → Bool → List PV → Option Res) (n : Nat) {z fl : Bool} {b : List PV} (v3 v4 : Int) {x5 x6 : Bool} {x7 : List PV} {x8 x9 : Bool} {x10 : List PV} {x11 x12 : Bool} {x13 : List PV} {x14 x15 x16 x17 x18 x19 x20 x21 x22 x23 x24 x25 x26 : Int} {x27 : List PV} {z2 f2 : Bool} {y33 y34 y35 y36 y37 y38 y39 y40 y41 y42 y43 y44 y45 : Int} {B : List PV} {P e : Int} (he : (e == 0) = false) {m : Nat} {nl : Bool} {L : List PV} :
    lp38_0 f k0 (n + 1) z fl b v3 v4 x5 x6 x7 x8 x9 x10 x11 x12 x13 x14 x15 x16 x17 x18 x19 x20 x21 x22 x23 x24 x25 x26 x27 z2 f2 B P e y33 y34 y35 y36 y37 y38 y39 y40 y41 y42 y43 y44 y45 m nl L = k0 z fl b x5 x6 x7 x8 x9 x10 x11 x12 x13 x14 x15 x16 x17 x18 x19 x20 x21 x22 x23 x24 x25 x26 x27 z2 f2 B P e y33 y34 y35 y36 y37 y38 y39 y40 y41 y42 y43 y44 y45 m nl L := by
  simp only [lp38_0, lpS38_0, he, cond_false]
  cases decide (v4 < v3) <;> rfl
theorem l38_0 (f : Nat) (k0 : Bool → Bool → List PV → Bool → Bool → List PV → Bool → Bool → List PV → Bool → Bool → List PV → Int → Int → Int → Int → Int → Int → Int → Int → Int → Int → Int → Int → Int → List PV → Bool → Bool → List PV → Int → Int → Int → Int → Int → Int → Int → Int → Int → Int → Int → Int → Int → Int → Int → Nat → Bool → List PV → Option Res) (R : Option Res) {z fl : Bool} {b : List PV} (N : Nat) (hN : N ≤ 4) {x5 x6 : Bool} {x7 : List PV} {x8 x9 : Bool} {x10 : List PV} {x11 x12 : Bool} {x13 : List PV} {x14 x15 x16 x17 x18 x19 x20 x21 x22 x23 x24 x25 x26 : Int} {x27 : List PV} {z2 f2 : Bool} {y33 y34 y35 y36 y37 y38 y39 y40 y41 y42 y43 y44 y45 : Int} :
    ∀ (d i n : Nat) (t : RT) (nl : Bool) (L : List PV), i + d = N → d < n → okT t = true → L.length ≤ i →
    (∀ (t' : RT) (nl' : Bool) (L' : List PV), okT t' = true → t'.view = txR d t.view → L'.length ≤ 4 → (t'.view.e = 0 → L' = L ++ txL d t.view ∧ nl' = (nl && (txL d t.view).isEmpty)) → k0 z fl b x5 x6 x7 x8 x9 x10 x11 x12 x13 x14 x15 x16 x17 x18 x19 x20 x21 x22 x23 x24 x25 x26 x27 z2 f2 t'.B t'.P t'.e y33 y34 y35 y36 y37 y38 y39 y40 y41 y42 y43 y44 y45 L'.length nl' L' = R) →
    lp38_0 f k0 n z fl b (N : Int) (i : Int) x5 x6 x7 x8 x9 x10 x11 x12 x13 x14 x15 x16 x17 x18 x19 x20 x21 x22 x23 x24 x25 x26 x27 z2 f2 t.B t.P t.e y33 y34 y35 y36 y37 y38 y39 y40 y41 y42 y43 y44 y45 L.length nl L = R
  | 0, i, n + 1, t, nl, L, h, hn, ht, hL, hk => by
      simp only [lp38_0, lpS38_0]
      exact (bif_f (by simp; omega)).trans (hk t nl L ht rfl (by omega) fun _ => by simp [txL])
  | d + 1, i, n + 1, t, nl, L, h, hn, ht, hL, hk => by
      cases he : (t.e == 0) with
      | false =>
        have he' : t.view.e ≠ 0 := by simpa [RT.view] using he
        rw [l38_e f k0 n _ _ he]
        exact hk t nl L ht (txR_err _ he').symm (by omega) fun h0 => absurd h0 he'
      | true =>
        have w : IntKind.i64.wrap ((i : Int) + 1) = ((i + 1 : Nat) : Int) := by rw [wrap_i64 (by omega) (by omega)]; omega
        have hm : RT.mk t.B t.P t.e = t := rfl
        have hs := txtV_size (okT_by ht)
        have htk : List.take (txtV t.view).size (ofBytes (txtV t.view)) = ofBytes (txtV t.view) := List.take_of_length_le (by rw [ofBytes_len]; exact Nat.le_refl _)
        simp only [lp38_0, lpS38_0, w, hm, txtVT_txt, htk, List.take_length, he]
        refine (bif_t (by simp; omega)).trans ((bif_t rfl).trans ((bif_t ht).trans ((bif_t (by simp [roomy]; omega)).trans ((bif_t (by simp [roomy]; omega)).trans ?_))))
        have := l38_0 f k0 R (z := z) (fl := fl) (b := b) N hN d (i + 1) n (txtT t) (nl && false) (L ++ [bodyP (txtV t.view)]) (by omega) (by omega) (okT_txtT ht) (by simp; omega) fun t' nl' L' h1 h2 h3 h4 => hk t' nl' L' h1 (by rw [h2, txtT_view]; rfl) h3 fun h0 => by
          obtain ⟨q1, q2⟩ := h4 h0
          rw [txtT_view] at q1 q2
          exact ⟨by rw [q1]; simp [txL], by rw [q2]; simp [txL]⟩
        rw [List.length_append] at this
        exact this
theorem bne_0 (x : Int) : (x != 0) = !(x == 0) := rfl
noncomputable def pflR : PA → Bool := hid fun p => !(parE0 p == 0)
theorem pflR_eq (p : PA) : pflR p = !(parE0 p == 0) := by rw [pflR, hid_eq]
noncomputable def parR (p : PA) : PV := .tup [.st 54 [.sc (.int .i64 (pfld 0 p)), .sc (.int .i64 (pfld 1 p)), .sc (.int .i64 (pfld 2 p)), .st 34 [.sc (.int .i64 (pfld 3 p)), .sc (.int .i64 (pfld 4 p))], .st 45 [.sc (.int .i64 (pfld 5 p)), .sc (.int .i64 (pfld 6 p))], .sc (.int .i64 (pfld 7 p)), .sc (.int .i64 (pfld 8 p)), .st 45 [.sc (.int .i64 (pfld 9 p)), .sc (.int .i64 (pfld 10 p))], .sc (.int .i64 (pfld 11 p)), .sc (.int .i64 (pfld 12 p)), .ro 29 (pbod p).isEmpty (pflR p) (pbod p)], .sc (.int .i64 (parE p))]
theorem parR_bad {p : PA} {e : Int} (h : parE0 p = e) (h0 : (e == 0) = false) : parR p = zeroM e := by
  unfold parR zeroM
  simp only [pfld_eq, pbod_eq, parE_eq, pflR_eq, h, h0, cond_false, List.isEmpty_nil, Bool.not_false]
theorem parR_ok {p : PA} (h : parE0 p = 0) : parR p = .tup [.st 54 [.sc (.int .i64 (fld 0 ⟨p.b, 0⟩)), .sc (.int .i64 (fld 1 ⟨p.b, 0⟩)), .sc (.int .i64 (fld 2 ⟨p.b, 0⟩)), .st 34 [.sc (.int .i64 (fld 3 ⟨p.b, 0⟩)), .sc (.int .i64 (fld 4 ⟨p.b, 0⟩))], .st 45 [.sc (.int .i64 (fld 5 ⟨p.b, 0⟩)), .sc (.int .i64 (fld 6 ⟨p.b, 0⟩))], .sc (.int .i64 (fld 7 ⟨p.b, 0⟩)), .sc (.int .i64 (fld 8 ⟨p.b, 0⟩)), .st 45 [.sc (.int .i64 (fld 9 ⟨p.b, 0⟩)), .sc (.int .i64 (fld 10 ⟨p.b, 0⟩))], .sc (.int .i64 (fld 11 ⟨p.b, 0⟩)), .sc (.int .i64 (fld 12 ⟨p.b, 0⟩)), .ro 29 (bodL ⟨p.b, 0⟩).isEmpty false (bodL ⟨p.b, 0⟩)], .sc (.int .i64 0)] := by
  unfold parR
  simp only [pfld_eq, pbod_eq, parE_eq, pflR_eq, h, beq_self_eq_true, cond_true, Bool.not_true]
theorem tl38_eq {z0 f0 z1 f1 z2 f2 z f : Bool} {k0 k1 k2 b : List PV} (hb : byB b = true) (h0 : kOk k0 = true) (h1 : kOk k1 = true) (h2 : kOk k2 = true) (k : Res → Option Res) (c1 : ¬ b.length > 8192)
    (hkd : 0 ≤ fld 0 ⟨b, 0⟩ ∧ fld 0 ⟨b, 0⟩ < 65536) {t' : RT} {nl' : Bool} {L' : List PV} (ht : okT t' = true) (hV : t'.view = txR (msgN ⟨b, 0⟩) (msgS ⟨b, 0⟩)) (hL4 : L'.length ≤ 4) (hBd : t'.view.e = 0 → L' = bodL ⟨b, 0⟩ ∧ nl' = (bodL ⟨b, 0⟩).isEmpty)
    {u0 u1 u2 u3 u4 u5 u6 u7 u8 u9 u10 u11 u12 : Int} {ul : List PV} {za fa : Bool} :
    tl38 k z f b z0 f0 k0 z1 f1 k1 z2 f2 k2 u0 u1 u2 u3 u4 u5 u6 u7 u8 u9 u10 u11 u12 ul za fa t'.B t'.P t'.e (fld 0 ⟨b, 0⟩) (fld 1 ⟨b, 0⟩) (fld 2 ⟨b, 0⟩) (fld 3 ⟨b, 0⟩) (fld 4 ⟨b, 0⟩) (fld 5 ⟨b, 0⟩) (fld 6 ⟨b, 0⟩) (fld 7 ⟨b, 0⟩) (fld 8 ⟨b, 0⟩) (fld 9 ⟨b, 0⟩) (fld 10 ⟨b, 0⟩) (fld 11 ⟨b, 0⟩) (fld 12 ⟨b, 0⟩) L'.length nl' L' = k ⟨parR ⟨[.ro 5 z0 f0 k0, .ro 5 z1 f1 k1, .ro 5 z2 f2 k2], b⟩, [], []⟩ := by
  generalize hp : PA.mk [.ro 5 z0 f0 k0, .ro 5 z1 f1 k1, .ro 5 z2 f2 k2] b = p
  have hpb : p.b = b := by rw [← hp]
  have hpl : p.l = [.ro 5 z0 f0 k0, .ro 5 z1 f1 k1, .ro 5 z2 f2 k2] := by rw [← hp]
  have hE : parE0 p = parE0 p := rfl
  conv at hE => rhs; unfold parE0
  rw [hpb] at hE
  rw [show decide (b.length > 8192) = false by simpa using c1, cond_false] at hE
  have hm : RT.mk t'.B t'.P t'.e = t' := rfl
  simp only [tl38, hm]
  refine (bif_t ht).trans ?_
  have hokh : okT (hashT t') = true := okT_hash ht
  have hv : (hashT t').view = msgE ⟨b, 0⟩ := by rw [hashT_view, hV, msgE_eq]
  have hve : (hashT t').e = (msgE ⟨b, 0⟩).e := by rw [← hv]; rfl
  have hvP : decide ((hashT t').P < zi (hashT t').B.length) = decide ((msgE ⟨b, 0⟩).b.length > 0) := by
    rw [← hv]
    show decide _ = decide ((List.drop _ _).length > 0)
    rw [List.length_drop]
    simp only [okT, Bool.and_eq_true, decide_eq_true_eq] at hokh
    apply decide_eq_decide.2
    simp only [zi]; omega
  have hH : hashVT t' = msgH ⟨b, 0⟩ := by rw [hashVT_val, hV, msgH_eq]
  simp only [hve, hvP, bne_0, inA_1, inA_2, inZ_eq, hH]
  have hC : parC ⟨b, 0⟩ = bif innB (IntKind.i64.wrap (fld 0 ⟨b, 0⟩ - 1)) 4 then (bif chkB (fld 1 ⟨b, 0⟩) (fld 2 ⟨b, 0⟩) (fld 3 ⟨b, 0⟩) (fld 4 ⟨b, 0⟩) (fld 5 ⟨b, 0⟩) (fld 6 ⟨b, 0⟩) (fld 7 ⟨b, 0⟩) (fld 8 ⟨b, 0⟩) (fld 9 ⟨b, 0⟩) (fld 10 ⟨b, 0⟩) (fld 11 ⟨b, 0⟩) (fld 12 ⟨b, 0⟩) then 0 else 1) else 3 := by unfold parC; rw [chk_eq]; rfl
  have hwk : IntKind.i64.wrap (fld 0 ⟨b, 0⟩ - 1) = fld 0 ⟨b, 0⟩ - 1 := wrap_i64 (by omega) (by omega)
  rw [hwk] at hC
  cases ce : ((msgE ⟨b, 0⟩).e == 0) with
  | false =>
    rw [ce, cond_false] at hE
    rw [cond_false, parR_bad hE ce]
    exact bif_t rfl
  | true =>
    rw [ce, cond_true] at hE
    rw [cond_true]
    cases c2 : decide ((msgE ⟨b, 0⟩).b.length > 0) with
    | true =>
      rw [c2, cond_true] at hE
      rw [cond_true, parR_bad hE (by decide)]
      rfl
    | false =>
      rw [c2, cond_false] at hE
      rw [cond_false]
      refine (bif_f rfl).trans ?_
      have bad3 : innB (fld 0 ⟨b, 0⟩ - 1) 4 = false → k ⟨zeroM 3, [], []⟩ = k ⟨parR p, [], []⟩ := by
        intro h
        rw [h, cond_false] at hC
        rw [hC] at hE
        rw [parR_bad (show parE0 p = 3 from hE) (by decide)]
      by_cases d1 : fld 0 ⟨b, 0⟩ < 1
      · exact (bif_t (by simpa using d1)).trans (bad3 (by simp [innB]; omega))
      refine (bif_f (by simpa using d1)).trans ?_
      by_cases d2 : fld 0 ⟨b, 0⟩ > 5
      · exact (bif_t (by simpa using d2)).trans (bad3 (by simp [innB]; omega))
      refine (bif_f (by simpa using d2)).trans ?_
      have hkin : innB (fld 0 ⟨b, 0⟩ - 1) 4 = true := by simp [innB]; omega
      rw [hkin, cond_true] at hC
      have bad1 : chkB (fld 1 ⟨b, 0⟩) (fld 2 ⟨b, 0⟩) (fld 3 ⟨b, 0⟩) (fld 4 ⟨b, 0⟩) (fld 5 ⟨b, 0⟩) (fld 6 ⟨b, 0⟩) (fld 7 ⟨b, 0⟩) (fld 8 ⟨b, 0⟩) (fld 9 ⟨b, 0⟩) (fld 10 ⟨b, 0⟩) (fld 11 ⟨b, 0⟩) (fld 12 ⟨b, 0⟩) = false → k ⟨zeroM 1, [], []⟩ = k ⟨parR p, [], []⟩ := by
        intro h
        rw [h, cond_false] at hC
        rw [hC] at hE
        rw [parR_bad (show parE0 p = 1 from hE) (by decide)]
      cases c0 : innB (fld 1 ⟨b, 0⟩) 2 with
      | false => exact (bif_t rfl).trans (bad1 (by simp [chkB, c0]))
      | true =>
      refine (bif_f rfl).trans ?_
      cases q1 : innB (fld 2 ⟨b, 0⟩) 2 with
      | false => exact (bif_t rfl).trans (bad1 (by simp [chkB, q1]))
      | true =>
      refine (bif_f rfl).trans ?_
      cases c2' : (fld 1 ⟨b, 0⟩ == fld 2 ⟨b, 0⟩) with
      | true => exact (bif_t rfl).trans (bad1 (by simp [chkB, c2']))
      | false =>
      refine (bif_f rfl).trans ?_
      cases c3 : (innB (fld 3 ⟨b, 0⟩) 2 && innB (fld 4 ⟨b, 0⟩) 99) with
      | false => exact (bif_t rfl).trans (bad1 (by have := c3; simp only [Bool.and_eq_false_iff] at this; rcases this with h | h <;> simp [chkB, h]))
      | true =>
      refine (bif_f rfl).trans ?_
      cases c4 : (innB (fld 5 ⟨b, 0⟩) 2 && innB (fld 6 ⟨b, 0⟩) 7) with
      | false => exact (bif_t rfl).trans (bad1 (by have := c4; simp only [Bool.and_eq_false_iff] at this; rcases this with h | h <;> simp [chkB, h]))
      | true =>
      refine (bif_f rfl).trans ?_
      cases c5 : (innB (fld 9 ⟨b, 0⟩) 2 && innB (fld 10 ⟨b, 0⟩) 7) with
      | false => exact (bif_t rfl).trans (bad1 (by have := c5; simp only [Bool.and_eq_false_iff] at this; rcases this with h | h <;> simp [chkB, h]))
      | true =>
      refine (bif_f rfl).trans ?_
      cases c6 : innB (fld 7 ⟨b, 0⟩) 1073741824 with
      | false => exact (bif_t rfl).trans (bad1 (by simp [chkB, c6]))
      | true =>
      refine (bif_f rfl).trans ?_
      cases c7 : innB (fld 8 ⟨b, 0⟩) 1073741824 with
      | false => exact (bif_t rfl).trans (bad1 (by simp [chkB, c7]))
      | true =>
      refine (bif_f rfl).trans ?_
      cases c8 : innB (fld 11 ⟨b, 0⟩) 1073741824 with
      | false => exact (bif_t rfl).trans (bad1 (by simp [chkB, c8]))
      | true =>
      refine (bif_f rfl).trans ?_
      cases c9 : innB (fld 12 ⟨b, 0⟩) 255 with
      | false => exact (bif_t rfl).trans (bad1 (by simp [chkB, c9]))
      | true =>
      refine (bif_f rfl).trans ?_
      have hcb : chkB (fld 1 ⟨b, 0⟩) (fld 2 ⟨b, 0⟩) (fld 3 ⟨b, 0⟩) (fld 4 ⟨b, 0⟩) (fld 5 ⟨b, 0⟩) (fld 6 ⟨b, 0⟩) (fld 7 ⟨b, 0⟩) (fld 8 ⟨b, 0⟩) (fld 9 ⟨b, 0⟩) (fld 10 ⟨b, 0⟩) (fld 11 ⟨b, 0⟩) (fld 12 ⟨b, 0⟩) = true := by
        simp only [Bool.and_eq_true] at c3 c4 c5
        simp [chkB, c0, q1, c2', c3, c4, c5, c6, c7, c8, c9]
      rw [hcb, cond_true] at hC
      rw [hC] at hE
      replace hE : parE0 p = bif parM p == msgH ⟨b, 0⟩ then 0 else 14 := hE
      have hfr : 0 ≤ fld 1 ⟨b, 0⟩ ∧ fld 1 ⟨b, 0⟩ ≤ 2 := by simpa [innB] using c0
      have hK : ∃ zz ff kk, getP (PV.st 31 [.ro 5 z0 f0 k0, .ro 5 z1 f1 k1, .ro 5 z2 f2 k2]) [(fld 1 ⟨b, 0⟩).toNat] = .ro 5 zz ff kk ∧ kOk kk = true ∧ keyF ⟨[.ro 5 z0 f0 k0, .ro 5 z1 f1 k1, .ro 5 z2 f2 k2], fld 1 ⟨b, 0⟩⟩ = kk := by
        have hkf : keyF ⟨[.ro 5 z0 f0 k0, .ro 5 z1 f1 k1, .ro 5 z2 f2 k2], fld 1 ⟨b, 0⟩⟩ = (getP (PV.st 31 [.ro 5 z0 f0 k0, .ro 5 z1 f1 k1, .ro 5 z2 f2 k2]) [(fld 1 ⟨b, 0⟩).toNat]).els := by rw [keyF_eq, keyF0, c0]; rfl
        have : fld 1 ⟨b, 0⟩ = 0 ∨ fld 1 ⟨b, 0⟩ = 1 ∨ fld 1 ⟨b, 0⟩ = 2 := by omega
        rcases this with h | h | h <;> rw [h] at hkf ⊢
        · exact ⟨z0, f0, k0, rfl, h0, hkf⟩
        · exact ⟨z1, f1, k1, rfl, h1, hkf⟩
        · exact ⟨z2, f2, k2, rfl, h2, hkf⟩
      obtain ⟨zz, ff, kk, hK, hkk, hkf⟩ := hK
      have hM : parM p = macP (ints kk) (ints (b.take (b.length - 32))) := by unfold parM; rw [hpb, hpl, hkf]
      have hMl : (parM p).length = 32 := by rw [hM]; exact macP_length _ _
      have hr := msg_room (b := b) (e := 0) (by simpa using ce)
      have hw : IntKind.i64.wrap (zi b.length - 32) = ((b.length - 32 : Nat) : Int) := by simp only [zi]; rw [wrap_i64 (by omega) (by omega)]; omega
      have hat : allInt .u8 (b.take (b.length - 32)) = true := (byB_iff.1 (byB_take hb (b.length - 32))).1
      unfold kOk at hkk
      rw [Bool.and_eq_true, decide_eq_true_eq] at hkk
      simp only [hK, hw, Int.toNat_natCast, PV.els, PV.isRo, eqInts_pu, ← hM]
      refine (bif_t (by simp [zi]; omega)).trans ((bif_t (by simp)).trans ((bif_t (by simp)).trans ((bif_t (by rw [hkk.1, hat]; simp; omega)).trans ((bif_t (by simp [hMl, msgH_length])).trans ?_))))
      have hcm : (parM p == msgH ⟨b, 0⟩) = (msgH ⟨b, 0⟩ == parM p) := BEq.comm
      rw [hcm] at hE
      cases cm : (msgH ⟨b, 0⟩ == parM p) with
      | false =>
        rw [cm, cond_false] at hE
        refine (bif_t rfl).trans ?_
        rw [parR_bad hE (by decide)]
        rfl
      | true =>
        rw [cm, cond_true] at hE
        refine (bif_f rfl).trans ?_
        have hte : t'.view.e = 0 := by
          have he0 : (msgE ⟨b, 0⟩).e = 0 := by simpa using ce
          rw [← hv, hashT_view, hashS_eq] at he0
          exact Classical.byContradiction fun h => runB_err 32 h he0
        obtain ⟨w1, w2⟩ := hBd hte
        rw [parR_ok hE, hpb, List.take_length, w1, w2]
        rfl
theorem g38_eq (z0 f0 z1 f1 z2 f2 z f : Bool) (k0 k1 k2 b : List PV) (hb : byB b = true) (h0 : kOk k0 = true) (h1 : kOk k1 = true) (h2 : kOk k2 = true) (k : Res → Option Res) :
    g38 10 z0 f0 k0 z1 f1 k1 z2 f2 k2 z f b k = k ⟨parR ⟨[.ro 5 z0 f0 k0, .ro 5 z1 f1 k1, .ro 5 z2 f2 k2], b⟩, [], []⟩ := by
  generalize hp : PA.mk [.ro 5 z0 f0 k0, .ro 5 z1 f1 k1, .ro 5 z2 f2 k2] b = p
  have hpb : p.b = b := by rw [← hp]
  have hpl : p.l = [.ro 5 z0 f0 k0, .ro 5 z1 f1 k1, .ro 5 z2 f2 k2] := by rw [← hp]
  have hE : parE0 p = parE0 p := rfl
  conv at hE => rhs; unfold parE0
  rw [hpb] at hE
  unfold g38
  by_cases c1 : b.length > 8192
  · refine (bif_t (by simp [zi]; omega)).trans ?_
    rw [show decide (b.length > 8192) = true by simpa using c1, cond_true] at hE
    rw [parR_bad hE (by decide)]
    rfl
  refine (bif_f (by simp [zi]; omega)).trans ?_
  rw [show decide (b.length > 8192) = false by simpa using c1, cond_false] at hE
  have hok0 : okT (RT.mk b 0 0) = true := by simp [okT, hb]; omega
  have hv0 : (RT.mk b 0 0).view = RS.mk b 0 := rfl
  subst hp
  refine (bif_t hok0).trans ?_
  have a1 := okT_stepT hok0 1
  refine (bif_t a1).trans ?_
  have a2 := okT_stepT a1 8
  refine (bif_t a2).trans ?_
  have a3 := okT_stepT a2 8
  refine (bif_t a3).trans ?_
  have a4 := okT_stepT a3 8
  refine (bif_t a4).trans ?_
  have a5 := okT_stepT a4 8
  refine (bif_t a5).trans ?_
  have a6 := okT_stepT a5 8
  refine (bif_t a6).trans ?_
  have a7 := okT_stepT a6 8
  refine (bif_t a7).trans ?_
  have a8 := okT_stepT a7 8
  refine (bif_t a8).trans ?_
  have a9 := okT_stepT a8 8
  refine (bif_t a9).trans ?_
  have a10 := okT_stepT a9 8
  refine (bif_t a10).trans ?_
  have a11 := okT_stepT a10 8
  refine (bif_t a11).trans ?_
  have a12 := okT_stepT a11 8
  refine (bif_t a12).trans ?_
  have a13 := okT_stepT a12 8
  refine (bif_t a13).trans ?_
  have hokc : okT (stepT 1 (stepT 8 (stepT 8 (stepT 8 (stepT 8 (stepT 8 (stepT 8 (stepT 8 (stepT 8 (stepT 8 (stepT 8 (stepT 8 (stepT 8 (stepT 1 (RT.mk b 0 0))))))))))))))) = true := okT_stepT a13 1
  have hvc : (stepT 1 (stepT 8 (stepT 8 (stepT 8 (stepT 8 (stepT 8 (stepT 8 (stepT 8 (stepT 8 (stepT 8 (stepT 8 (stepT 8 (stepT 8 (stepT 1 (RT.mk b 0 0))))))))))))))).view = stepS 1 (fS 13 ⟨b, 0⟩) := by simp only [stepT_view, hv0, fS]
  generalize hcur : stepT 1 (stepT 8 (stepT 8 (stepT 8 (stepT 8 (stepT 8 (stepT 8 (stepT 8 (stepT 8 (stepT 8 (stepT 8 (stepT 8 (stepT 8 (stepT 1 (RT.mk b 0 0)))))))))))))) = tc at *
  have nf0 : numT 1 (RT.mk b 0 0) = fld 0 ⟨b, 0⟩ := by rw [fld_eq]; simp only [numT_num, stepT_view, hv0, fld0]
  have nf1 : numT 8 (stepT 1 (RT.mk b 0 0)) = fld 1 ⟨b, 0⟩ := by rw [fld_eq]; simp only [numT_num, stepT_view, hv0, fld0, fS]
  have nf2 : numT 8 (stepT 8 (stepT 1 (RT.mk b 0 0))) = fld 2 ⟨b, 0⟩ := by rw [fld_eq]; simp only [numT_num, stepT_view, hv0, fld0, fS]
  have nf3 : numT 8 (stepT 8 (stepT 8 (stepT 1 (RT.mk b 0 0)))) = fld 3 ⟨b, 0⟩ := by rw [fld_eq]; simp only [numT_num, stepT_view, hv0, fld0, fS]
  have nf4 : numT 8 (stepT 8 (stepT 8 (stepT 8 (stepT 1 (RT.mk b 0 0))))) = fld 4 ⟨b, 0⟩ := by rw [fld_eq]; simp only [numT_num, stepT_view, hv0, fld0, fS]
  have nf5 : numT 8 (stepT 8 (stepT 8 (stepT 8 (stepT 8 (stepT 1 (RT.mk b 0 0)))))) = fld 5 ⟨b, 0⟩ := by rw [fld_eq]; simp only [numT_num, stepT_view, hv0, fld0, fS]
  have nf6 : numT 8 (stepT 8 (stepT 8 (stepT 8 (stepT 8 (stepT 8 (stepT 1 (RT.mk b 0 0))))))) = fld 6 ⟨b, 0⟩ := by rw [fld_eq]; simp only [numT_num, stepT_view, hv0, fld0, fS]
  have nf7 : numT 8 (stepT 8 (stepT 8 (stepT 8 (stepT 8 (stepT 8 (stepT 8 (stepT 1 (RT.mk b 0 0)))))))) = fld 7 ⟨b, 0⟩ := by rw [fld_eq]; simp only [numT_num, stepT_view, hv0, fld0, fS]
  have nf8 : numT 8 (stepT 8 (stepT 8 (stepT 8 (stepT 8 (stepT 8 (stepT 8 (stepT 8 (stepT 1 (RT.mk b 0 0))))))))) = fld 8 ⟨b, 0⟩ := by rw [fld_eq]; simp only [numT_num, stepT_view, hv0, fld0, fS]
  have nf9 : numT 8 (stepT 8 (stepT 8 (stepT 8 (stepT 8 (stepT 8 (stepT 8 (stepT 8 (stepT 8 (stepT 1 (RT.mk b 0 0)))))))))) = fld 9 ⟨b, 0⟩ := by rw [fld_eq]; simp only [numT_num, stepT_view, hv0, fld0, fS]
  have nf10 : numT 8 (stepT 8 (stepT 8 (stepT 8 (stepT 8 (stepT 8 (stepT 8 (stepT 8 (stepT 8 (stepT 8 (stepT 1 (RT.mk b 0 0))))))))))) = fld 10 ⟨b, 0⟩ := by rw [fld_eq]; simp only [numT_num, stepT_view, hv0, fld0, fS]
  have nf11 : numT 8 (stepT 8 (stepT 8 (stepT 8 (stepT 8 (stepT 8 (stepT 8 (stepT 8 (stepT 8 (stepT 8 (stepT 8 (stepT 1 (RT.mk b 0 0)))))))))))) = fld 11 ⟨b, 0⟩ := by rw [fld_eq]; simp only [numT_num, stepT_view, hv0, fld0, fS]
  have nf12 : numT 8 (stepT 8 (stepT 8 (stepT 8 (stepT 8 (stepT 8 (stepT 8 (stepT 8 (stepT 8 (stepT 8 (stepT 8 (stepT 8 (stepT 1 (RT.mk b 0 0))))))))))))) = fld 12 ⟨b, 0⟩ := by rw [fld_eq]; simp only [numT_num, stepT_view, hv0, fld0, fS]
  have nfc : numT 1 (stepT 8 (stepT 8 (stepT 8 (stepT 8 (stepT 8 (stepT 8 (stepT 8 (stepT 8 (stepT 8 (stepT 8 (stepT 8 (stepT 8 (stepT 1 (RT.mk b 0 0)))))))))))))) = cntS ⟨b, 0⟩ := by unfold cntS; simp only [numT_num, stepT_view, hv0, fS]
  simp only [nfc, nf0, nf1, nf2, nf3, nf4, nf5, nf6, nf7, nf8, nf9, nf10, nf11, nf12]
  have hcnt := cnt_bounds (s := ⟨b, 0⟩) hb
  have hkd : 0 ≤ fld 0 ⟨b, 0⟩ ∧ fld 0 ⟨b, 0⟩ < 65536 := by rw [fld_eq]; show 0 ≤ numS 1 _ ∧ numS 1 _ < 65536; rw [numS_eq]; exact numS_small (s := ⟨b, 0⟩) hb (by omega)
  have hbyb : byB (stepS 1 (fS 13 ⟨b, 0⟩)).b = true := byS_step (byS_fS hb 13) 1
  cases h4 : decide (cntS ⟨b, 0⟩ > 4) with
  | true =>
    have hN : msgN ⟨b, 0⟩ = 0 := by unfold msgN; rw [h4]; rfl
    have hS : msgS ⟨b, 0⟩ = failS 4 (stepS 1 (fS 13 ⟨b, 0⟩)) := by unfold msgS; rw [h4]; rfl
    rw [cond_true]
    cases he : (tc.e == 0) with
    | true =>
      rw [cond_true]
      refine (l38_e 10 (tl38 k) 9 _ _ (by decide)).trans ?_
      have hV : (RT.mk tc.B tc.P 4).view = txR (msgN ⟨b, 0⟩) (msgS ⟨b, 0⟩) := by
        rw [hN, hS, ← hvc]
        show RS.mk _ _ = failS 4 tc.view
        unfold failS
        rw [show (tc.view.e == 0) = true from he]; rfl
      exact tl38_eq (t' := ⟨tc.B, tc.P, 4⟩) (nl' := true) (L' := []) hb h0 h1 h2 k c1 hkd hokc hV (by decide) fun h => by
        have h' : (4 : Int) = 0 := h
        exact absurd h' (by decide)
    | false =>
      rw [cond_false]
      refine (l38_e 10 (tl38 k) 9 _ _ he).trans ?_
      have hV : tc.view = txR (msgN ⟨b, 0⟩) (msgS ⟨b, 0⟩) := by
        rw [hN, hS, ← hvc]
        show tc.view = failS 4 tc.view
        unfold failS
        rw [show (tc.view.e == 0) = false from he]; rfl
      exact tl38_eq (t' := tc) (nl' := true) (L' := []) hb h0 h1 h2 k c1 hkd hokc hV (by decide) fun h => by
        have : (tc.e == 0) = true := by simpa [RT.view] using h
        rw [he] at this; cases this
  | false =>
    have hN : msgN ⟨b, 0⟩ = (cntS ⟨b, 0⟩).toNat := by unfold msgN; rw [h4]; rfl
    have hS : msgS ⟨b, 0⟩ = stepS 1 (fS 13 ⟨b, 0⟩) := by unfold msgS; rw [h4]; rfl
    have h4' : ¬ cntS ⟨b, 0⟩ > 4 := by simpa using h4
    rw [cond_false]
    have hcn : cntS ⟨b, 0⟩ = (((cntS ⟨b, 0⟩).toNat : Nat) : Int) := (Int.toNat_of_nonneg hcnt).symm
    generalize hNN : (cntS ⟨b, 0⟩).toNat = NN at *
    rw [hcn] at h4' ⊢
    refine l38_0 10 (tl38 k) _ NN (by omega) NN 0 10 tc true [] (by omega) (by omega) hokc (by decide) fun t' nl' L' q1 q2 q3 q4 => ?_
    have hVt : tc.view = msgS ⟨b, 0⟩ := by rw [hS, hvc]
    refine tl38_eq hb h0 h1 h2 k c1 hkd q1 (by rw [q2, hN, hVt]) q3 fun h => ?_
    obtain ⟨w1, w2⟩ := q4 h
    rw [hVt] at w1 w2
    rw [bodL_eq, hN]
    exact ⟨by rw [w1, List.nil_append], by rw [w2, Bool.true_and]⟩
noncomputable def run38' : List PV → List Ent → (Res → Option Res) → Option Res
  | [.st 31 [.ro 5 z0 f0 k0, .ro 5 z1 f1 k1, .ro 5 z2 f2 k2], .ro 5 z f b], [], k =>
    bif byB b && (kOk k0 && (kOk k1 && kOk k2)) then k ⟨parR ⟨[.ro 5 z0 f0 k0, .ro 5 z1 f1 k1, .ro 5 z2 f2 k2], b⟩, [], []⟩ else none
  | _, _, _ => none
noncomputable def s38' : Sig := { own := [], run := run38' }
theorem ok38' : CallOk tau Try.prog 38 s38' := CallOk.mk' fun xs es k res hl hr => by
  change run38' xs es k = some res at hr
  unfold run38' at hr
  split at hr
  · rename_i z0 f0 k0 z1 f1 k1 z2 f2 k2 z f b
    obtain ⟨hc, hr⟩ := of_bif hr
    simp only [Bool.and_eq_true] at hc
    have hg := (g38_eq z0 f0 z1 f1 z2 f2 z f k0 k1 k2 b hc.1 hc.2.1 hc.2.2.1 hc.2.2.2 k).trans hr
    exact fn_at tabOk F38_ok mixed fo38 bo38 (an38 (r38_0 10)) [.ro, .ro] 0 0 (ia38 10) hl rfl ((e38 10 z0 f0 k0 z1 f1 k1 z2 f2 k2 z f b k).trans hg)
  · cases hr
end Go.Proofs.Ytcklhipdldpkhaa.Rx

/- What bytes.Equal computes. Own work, printed by a program of the worker's own. -/
namespace Go.Proofs.Ytcklhipdldpkhaa.Rx
open Go
set_option linter.unusedVariables false
set_option maxRecDepth 100000
set_option maxHeartbeats 0
end Go.Proofs.Ytcklhipdldpkhaa.Rx

/- What slices.EqualFunc[[][]byte,[][]byte,[]byte,[]byte] computes. Own work, printed by a program of the worker's own. -/
namespace Go.Proofs.Ytcklhipdldpkhaa.Rx
open Go
set_option linter.unusedVariables false
set_option maxRecDepth 100000
set_option maxHeartbeats 0
end Go.Proofs.Ytcklhipdldpkhaa.Rx
