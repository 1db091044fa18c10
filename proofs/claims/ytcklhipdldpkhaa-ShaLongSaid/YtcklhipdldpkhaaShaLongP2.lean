/- What the functions of this law compute, and their plain laws. Conditions: none. -/
import Derived.Test.YtcklhipdldpkhaaShaLongP1
/- What comitia/comitiaref2.Sum computes. Own work, printed by a program of the worker's own. -/
namespace Go.Proofs.Ytcklhipdldpkhaa.Rx
open Go
set_option linter.unusedVariables false
set_option maxRecDepth 100000
set_option maxHeartbeats 0
def N28 : Nat := 278
noncomputable def F28 : Fns := addF 72 s72 (addF 73 s73' F0)
theorem F28_ok : FnsOk tau Try.prog F28 := (F0_ok.add ok73' en73).add ok72 en72
noncomputable def c28_0 : Code := subC (Try.f28.body.get!) [1, 1, 1, 1, 1, 0, 0, 0]
def nm28_0 : Nm := [(0, .any), (2, .any), (3, .any), (4, .any), (5, .any)]
def nx28_0 : Nm := [(0, .any), (2, .any), (3, .any), (4, .any), (5, .any)]
def x28_0 : An := (.seq (.seq .leaf (.cond .leaf .leaf)) (.block none .leaf))
noncomputable def c28_1 : Code := subC (Try.f28.body.get!) [1, 1, 1, 1, 1, 1, 1, 0, 1, 0, 0]
def nm28_1 : Nm := [(2, .any), (3, .any), (4, .any), (5, .any), (6, .any), (7, .any)]
def nx28_1 : Nm := [(2, .any), (3, .any), (4, .any), (5, .any)]
def x28_1 : An := (.seq (.seq .leaf (.cond .leaf .leaf)) (.seq (.block none .leaf) .leaf))
noncomputable def c28_3 : Code := subC (Try.f28.body.get!) [1, 1, 1, 1, 1, 1, 1, 1, 1, 0, 1, 0, 0, 1, 0, 0, 0, 1, 0, 0]
def nm28_3 : Nm := [(2, .any), (3, .any), (4, .any), (5, .any), (8, .any), (9, .any), (10, .any)]
def nx28_3 : Nm := [(2, .any), (3, .any), (4, .any), (5, .any), (8, .any), (9, .any)]
def x28_3 : An := (.seq (.seq .leaf (.cond .leaf .leaf)) (.seq (.block none (.seq .leaf .leaf)) .leaf))
noncomputable def c28_4 : Code := subC (Try.f28.body.get!) [1, 1, 1, 1, 1, 1, 1, 1, 1, 0, 1, 0, 0, 1, 0, 0, 1, 0, 1, 0, 0]
def nm28_4 : Nm := [(2, .any), (3, .any), (4, .any), (5, .any), (8, .any), (9, .any), (12, .any)]
def nx28_4 : Nm := [(2, .any), (3, .any), (4, .any), (5, .any), (8, .any), (9, .any)]
def x28_4 : An := (.seq (.seq .leaf (.cond .leaf .leaf)) (.seq (.block none (.seq .leaf .leaf)) .leaf))
noncomputable def c28_5 : Code := subC (Try.f28.body.get!) [1, 1, 1, 1, 1, 1, 1, 1, 1, 0, 1, 0, 0, 1, 0, 0, 1, 1, 1, 0, 1, 0, 0]
def nm28_5 : Nm := [(2, .any), (3, .any), (4, .any), (5, .any), (8, .any), (9, .any), (15, .any), (16, .any)]
def nx28_5 : Nm := [(2, .any), (3, .any), (4, .any), (5, .any), (8, .any), (9, .any), (15, .any)]
def x28_5 : An := (.seq (.seq .leaf (.cond .leaf .leaf)) (.seq (.block none (.seq .leaf (.seq .leaf (.seq .leaf .leaf)))) .leaf))
noncomputable def c28_6 : Code := subC (Try.f28.body.get!) [1, 1, 1, 1, 1, 1, 1, 1, 1, 0, 1, 0, 0, 1, 0, 0, 1, 1, 1, 1, 1, 0, 0]
def nm28_6 : Nm := [(2, .any), (3, .any), (4, .any), (5, .any), (8, .any), (9, .any), (15, .any), (20, .any)]
def nx28_6 : Nm := [(2, .any), (3, .any), (4, .any), (5, .any), (8, .any), (9, .any)]
def x28_6 : An := (.seq (.seq .leaf (.cond .leaf .leaf)) (.seq (.block none .leaf) .leaf))
noncomputable def c28_2 : Code := subC (Try.f28.body.get!) [1, 1, 1, 1, 1, 1, 1, 1, 1, 0, 1, 0, 0]
def nm28_2 : Nm := [(2, .any), (3, .any), (4, .any), (5, .any), (8, .any), (9, .any)]
def nx28_2 : Nm := [(2, .any), (4, .any)]
def x28_2 (r3 : RunL) (r4 : RunL) (r5 : RunL) (r6 : RunL) : An := (.seq (.seq .leaf (.cond .leaf .leaf)) (.seq (.block none (.seq (.seq .leaf (.block none (.sum nm28_3 N28 r3))) (.seq (.seq .leaf (.block none (.sum nm28_4 N28 r4))) (.seq .leaf (.seq (.seq .leaf (.block none (.sum nm28_5 N28 r5))) (.seq .leaf (.block none (.sum nm28_6 N28 r6)))))))) .leaf))
noncomputable def c28_7 : Code := subC (Try.f28.body.get!) [1, 1, 1, 1, 1, 1, 1, 1, 1, 1, 1, 0, 1, 0, 0]
def nm28_7 : Nm := [(2, .any), (4, .any), (21, .any), (22, .any)]
def nx28_7 : Nm := [(2, .any), (21, .any)]
def x28_7 : An := (.seq (.seq .leaf (.cond .leaf .leaf)) (.seq (.block none .leaf) .leaf))
def an28 (r0 : RunL) (r1 : RunL) (r2 : RunL) (r7 : RunL) : An := (.seq .leaf (.seq .leaf (.seq .leaf (.seq .leaf (.seq .leaf (.seq (.block none (.sum nm28_0 N28 r0)) (.seq .leaf (.seq (.seq .leaf (.block none (.sum nm28_1 N28 r1))) (.seq .leaf (.seq (.seq .leaf (.block none (.sum nm28_2 N28 r2))) (.seq .leaf (.seq (.seq .leaf (.block none (.sum nm28_7 N28 r7))) (.seq .leaf .leaf)))))))))))))
def lpS28_0 (f : Nat) (rc : Bool → Bool → List
  PV → Nat → List
  PV → List
  PV → List
  PV → List
  PV → Option Res) (k0 : Bool → Bool → List
  PV → Nat → List PV → List PV → List PV → List PV → Option Res) (v0 : Bool) (v1 : Bool) (v2 : List PV) (v3 : Nat) (v4 : List PV) (v5 : List PV) (v6 : List PV) (v7 : List PV) : Option Res :=
  bif (zi v3).tmod 64 != 56 then
    bif roomy (v3 + 1) 1 && true then
      rc v0 v1 v2 (v3 + 1) v4 v5 v6 (List.take v3 v7 ++ [PV.sc (Value.int IntKind.u8 0)])
    else none
  else k0 v0 v1 v2 v3 v4 v5 v6 v7
def lp28_0 (f : Nat) (k0 : Bool → Bool → List PV → Nat → List PV → List PV → List PV → List PV → Option Res) : Nat → Bool → Bool → List PV → Nat → List PV → List PV → List PV → List PV → Option Res
  | 0, _, _, _, _, _, _, _, _ => none
  | n + 1, v0, v1, v2, v3, v4, v5, v6, v7 => lpS28_0 f (lp28_0 f k0 n) k0 v0 v1 v2 v3 v4 v5 v6 v7
theorem lpR28_0 (f : Nat) (k : Kont) (n : Nat) (v0 : Bool) (v1 : Bool) (v2 : List
  PV) (v3 : Nat) (v4 : List
  PV) (v5 : List
  PV) (v6 : List
  PV) (v7 : List
  PV) : evLoop tau 0 nm28_0 (fun s k => ev tau F28 0 0 c28_0 (x28_0 ) s k) (n + 1) (fillS nm28_0 N28 [PV.ro 5 v0 v1 v2, PV.ptr 4464 [], PV.ptr 4465 [], PV.ptr 4466 [],
  PV.ow 5 4467 [] 0 v3
    none] [(4464, Ent.box false 37 (PV.ar 37 v4)), (4465, Ent.box false 118 (PV.ar 118 v5)), (4466, Ent.box false 112 (PV.ar 112 v6)),
  (4467,
    Ent.vec false 5 false
      v7)]) (kNorm tau 0 nx28_0 k) = lpS28_0 f (fun v0 v1 v2 v3 v4 v5 v6 v7 => evLoop tau 0 nm28_0 (fun s k => ev tau F28 0 0 c28_0 (x28_0 ) s k) n (fillS nm28_0 N28 [PV.ro 5 v0 v1 v2,
  PV.ptr 4464 [], PV.ptr 4465 [], PV.ptr 4466 [],
  PV.ow 5 4467 [] 0 v3
    none] [(4464, Ent.box false 37 (PV.ar 37 v4)), (4465, Ent.box false 118 (PV.ar 118 v5)), (4466, Ent.box false 112 (PV.ar 112 v6)),
  (4467,
    Ent.vec false 5 false
      v7)]) (kNorm tau 0 nx28_0 k)) (fun x0 x1 x2 x3 x4 x5 x6 x7 => k (Ex.exit
  0) (fillS nx28_0 N28 [PV.ro 5 x0 x1 x2, PV.ptr 4464 [], PV.ptr 4465 [], PV.ptr 4466 [],
  PV.ow 5 4467 [] 0 x3
    none] [(4464, Ent.box false 37 (PV.ar 37 x4)), (4465, Ent.box false 118 (PV.ar 118 x5)), (4466, Ent.box false 112 (PV.ar 112 x6)),
  (4467, Ent.vec false 5 false x7)])) v0 v1 v2 v3 v4 v5 v6 v7 := by kernel_rfl
theorem lpE28_0 (f : Nat) (k : Kont) : ∀ (n : Nat) (v0 : Bool) (v1 : Bool) (v2 : List
  PV) (v3 : Nat) (v4 : List
  PV) (v5 : List
  PV) (v6 : List
  PV) (v7 : List
  PV), evLoop tau 0 nm28_0 (fun s k => ev tau F28 0 0 c28_0 (x28_0 ) s k) n (fillS nm28_0 N28 [PV.ro 5 v0 v1 v2, PV.ptr 4464 [], PV.ptr 4465 [], PV.ptr 4466 [],
  PV.ow 5 4467 [] 0 v3
    none] [(4464, Ent.box false 37 (PV.ar 37 v4)), (4465, Ent.box false 118 (PV.ar 118 v5)), (4466, Ent.box false 112 (PV.ar 112 v6)),
  (4467,
    Ent.vec false 5 false
      v7)]) (kNorm tau 0 nx28_0 k) = lp28_0 f (fun x0 x1 x2 x3 x4 x5 x6 x7 => k (Ex.exit
  0) (fillS nx28_0 N28 [PV.ro 5 x0 x1 x2, PV.ptr 4464 [], PV.ptr 4465 [], PV.ptr 4466 [],
  PV.ow 5 4467 [] 0 x3
    none] [(4464, Ent.box false 37 (PV.ar 37 x4)), (4465, Ent.box false 118 (PV.ar 118 x5)), (4466, Ent.box false 112 (PV.ar 112 x6)), (4467, Ent.vec false 5 false x7)])) n v0 v1 v2 v3 v4 v5 v6 v7
  | 0, _, _, _, _, _, _, _, _ => rfl
  | n + 1, v0, v1, v2, v3, v4, v5, v6, v7 => (lpR28_0 f k n v0 v1 v2 v3 v4 v5 v6 v7).trans (congrArg (fun r => lpS28_0 f r (fun x0 x1 x2 x3 x4 x5 x6 x7 => k (Ex.exit
  0) (fillS nx28_0 N28 [PV.ro 5 x0 x1 x2, PV.ptr 4464 [], PV.ptr 4465 [], PV.ptr 4466 [],
  PV.ow 5 4467 [] 0 x3
    none] [(4464, Ent.box false 37 (PV.ar 37 x4)), (4465, Ent.box false 118 (PV.ar 118 x5)), (4466, Ent.box false 112 (PV.ar 112 x6)),
  (4467, Ent.vec false 5 false x7)])) v0 v1 v2 v3 v4 v5 v6 v7) (by funext v0 v1 v2 v3 v4 v5 v6 v7; exact lpE28_0 f k n v0 v1 v2 v3 v4 v5 v6 v7))
def r28_0 (f : Nat) : List PV → List (Nat × Ent) → Kont → Option Res
  | [PV.ro 5 v0 v1 v2, PV.ptr 4464 [], PV.ptr 4465 [], PV.ptr 4466 [],
  PV.ow 5 4467 [] 0 v3
    none], [(4464, Ent.box false 37 (PV.ar 37 v4)), (4465, Ent.box false 118 (PV.ar 118 v5)), (4466, Ent.box false 112 (PV.ar 112 v6)),
  (4467,
    Ent.vec false 5 false
      v7)], k => lp28_0 f (fun x0 x1 x2 x3 x4 x5 x6 x7 => k (Ex.exit
  0) (fillS nx28_0 N28 [PV.ro 5 x0 x1 x2, PV.ptr 4464 [], PV.ptr 4465 [], PV.ptr 4466 [],
  PV.ow 5 4467 [] 0 x3
    none] [(4464, Ent.box false 37 (PV.ar 37 x4)), (4465, Ent.box false 118 (PV.ar 118 x5)), (4466, Ent.box false 112 (PV.ar 112 x6)), (4467, Ent.vec false 5 false x7)])) f v0 v1 v2 v3 v4 v5 v6 v7
  | _, _, _ => none
theorem it28_0 (f : Nat) : items c28_0 x28_0 = [] := by kernel_rfl
theorem i17_0 (f : Nat) : (Item.l c28_0 nm28_0 N28 (r28_0 f)).Ok tau Try.prog 0 := loop_item tabOk F28_ok mixed (x := x28_0) (nm2 := nx28_0) (anOk_items _ _ (by rw [it28_0 f]; intro q hq; cases hq)) fun vs hp k res hr => by
  unfold r28_0 at hr
  split at hr
  · exact ⟨f, 0, (lpE28_0 f _ f _ _ _ _ _ _ _ _ ).trans hr⟩
  · cases hr
def lpS28_1 (f : Nat) (rc : Nat → Int → Int → List
  PV → List
  PV → List
  PV → List
  PV → Option Res) (k0 : Nat → List PV → List PV → List PV → List PV → Option Res) (v0 : Nat) (v1 : Int) (v2 : Int) (v3 : List PV) (v4 : List PV) (v5 : List PV) (v6 : List PV) : Option Res :=
  bif decide (v2 ≥ 0) then
    bif decide (0 ≤ IntKind.u64.wrap (8 * IntKind.u64.wrap v2)) && true then
      bif roomy (v0 + 1) 1 && true then
        rc (v0 + 1) v1 (IntKind.i64.wrap (v2 - 1)) v3 v4 v5 (List.take v0 v6 ++ [PV.sc (Value.int IntKind.u8 (IntKind.u8.wrap (shrI IntKind.u64 v1 (IntKind.u64.wrap (8 * IntKind.u64.wrap v2)))))])
      else none
    else none
  else k0 v0 v3 v4 v5 v6
def lp28_1 (f : Nat) (k0 : Nat → List PV → List PV → List PV → List PV → Option Res) : Nat → Nat → Int → Int → List PV → List PV → List PV → List PV → Option Res
  | 0, _, _, _, _, _, _, _ => none
  | n + 1, v0, v1, v2, v3, v4, v5, v6 => lpS28_1 f (lp28_1 f k0 n) k0 v0 v1 v2 v3 v4 v5 v6
theorem lpR28_1 (f : Nat) (k : Kont) (n : Nat) (v0 : Nat) (v1 : Int) (v2 : Int) (v3 : List
  PV) (v4 : List
  PV) (v5 : List
  PV) (v6 : List
  PV) : evLoop tau 0 nm28_1 (fun s k => ev tau F28 0 0 c28_1 (x28_1 ) s k) (n + 1) (fillS nm28_1 N28 [PV.ptr 4464 [], PV.ptr 4465 [], PV.ptr 4466 [], PV.ow 5 4467 [] 0 v0 none,
  PV.sc (Value.int IntKind.u64 v1),
  PV.sc
    (Value.int IntKind.i64
      v2)] [(4464, Ent.box false 37 (PV.ar 37 v3)), (4465, Ent.box false 118 (PV.ar 118 v4)), (4466, Ent.box false 112 (PV.ar 112 v5)),
  (4467,
    Ent.vec false 5 false
      v6)]) (kNorm tau 0 nx28_1 k) = lpS28_1 f (fun v0 v1 v2 v3 v4 v5 v6 => evLoop tau 0 nm28_1 (fun s k => ev tau F28 0 0 c28_1 (x28_1 ) s k) n (fillS nm28_1 N28 [PV.ptr 4464 [], PV.ptr 4465 [],
  PV.ptr 4466 [], PV.ow 5 4467 [] 0 v0 none, PV.sc (Value.int IntKind.u64 v1),
  PV.sc
    (Value.int IntKind.i64
      v2)] [(4464, Ent.box false 37 (PV.ar 37 v3)), (4465, Ent.box false 118 (PV.ar 118 v4)), (4466, Ent.box false 112 (PV.ar 112 v5)),
  (4467,
    Ent.vec false 5 false
      v6)]) (kNorm tau 0 nx28_1 k)) (fun x0 x1 x2 x3 x4 => k (Ex.exit
  2) (fillS nx28_1 N28 [PV.ptr 4464 [], PV.ptr 4465 [], PV.ptr 4466 [],
  PV.ow 5 4467 [] 0 x0
    none] [(4464, Ent.box false 37 (PV.ar 37 x1)), (4465, Ent.box false 118 (PV.ar 118 x2)), (4466, Ent.box false 112 (PV.ar 112 x3)),
  (4467, Ent.vec false 5 false x4)])) v0 v1 v2 v3 v4 v5 v6 := by kernel_rfl
theorem lpE28_1 (f : Nat) (k : Kont) : ∀ (n : Nat) (v0 : Nat) (v1 : Int) (v2 : Int) (v3 : List
  PV) (v4 : List
  PV) (v5 : List
  PV) (v6 : List
  PV), evLoop tau 0 nm28_1 (fun s k => ev tau F28 0 0 c28_1 (x28_1 ) s k) n (fillS nm28_1 N28 [PV.ptr 4464 [], PV.ptr 4465 [], PV.ptr 4466 [], PV.ow 5 4467 [] 0 v0 none,
  PV.sc (Value.int IntKind.u64 v1),
  PV.sc
    (Value.int IntKind.i64
      v2)] [(4464, Ent.box false 37 (PV.ar 37 v3)), (4465, Ent.box false 118 (PV.ar 118 v4)), (4466, Ent.box false 112 (PV.ar 112 v5)),
  (4467,
    Ent.vec false 5 false
      v6)]) (kNorm tau 0 nx28_1 k) = lp28_1 f (fun x0 x1 x2 x3 x4 => k (Ex.exit
  2) (fillS nx28_1 N28 [PV.ptr 4464 [], PV.ptr 4465 [], PV.ptr 4466 [],
  PV.ow 5 4467 [] 0 x0
    none] [(4464, Ent.box false 37 (PV.ar 37 x1)), (4465, Ent.box false 118 (PV.ar 118 x2)), (4466, Ent.box false 112 (PV.ar 112 x3)), (4467, Ent.vec false 5 false x4)])) n v0 v1 v2 v3 v4 v5 v6
  | 0, _, _, _, _, _, _, _ => rfl
  | n + 1, v0, v1, v2, v3, v4, v5, v6 => (lpR28_1 f k n v0 v1 v2 v3 v4 v5 v6).trans (congrArg (fun r => lpS28_1 f r (fun x0 x1 x2 x3 x4 => k (Ex.exit
  2) (fillS nx28_1 N28 [PV.ptr 4464 [], PV.ptr 4465 [], PV.ptr 4466 [],
  PV.ow 5 4467 [] 0 x0
    none] [(4464, Ent.box false 37 (PV.ar 37 x1)), (4465, Ent.box false 118 (PV.ar 118 x2)), (4466, Ent.box false 112 (PV.ar 112 x3)),
  (4467, Ent.vec false 5 false x4)])) v0 v1 v2 v3 v4 v5 v6) (by funext v0 v1 v2 v3 v4 v5 v6; exact lpE28_1 f k n v0 v1 v2 v3 v4 v5 v6))
def r28_1 (f : Nat) : List PV → List (Nat × Ent) → Kont → Option Res
  | [PV.ptr 4464 [], PV.ptr 4465 [], PV.ptr 4466 [], PV.ow 5 4467 [] 0 v0 none, PV.sc (Value.int IntKind.u64 v1),
  PV.sc
    (Value.int IntKind.i64
      v2)], [(4464, Ent.box false 37 (PV.ar 37 v3)), (4465, Ent.box false 118 (PV.ar 118 v4)), (4466, Ent.box false 112 (PV.ar 112 v5)),
  (4467,
    Ent.vec false 5 false
      v6)], k => lp28_1 f (fun x0 x1 x2 x3 x4 => k (Ex.exit
  2) (fillS nx28_1 N28 [PV.ptr 4464 [], PV.ptr 4465 [], PV.ptr 4466 [],
  PV.ow 5 4467 [] 0 x0
    none] [(4464, Ent.box false 37 (PV.ar 37 x1)), (4465, Ent.box false 118 (PV.ar 118 x2)), (4466, Ent.box false 112 (PV.ar 112 x3)), (4467, Ent.vec false 5 false x4)])) f v0 v1 v2 v3 v4 v5 v6
  | _, _, _ => none
theorem it28_1 (f : Nat) : items c28_1 x28_1 = [] := by kernel_rfl
theorem i17_1 (f : Nat) : (Item.l c28_1 nm28_1 N28 (r28_1 f)).Ok tau Try.prog 0 := loop_item tabOk F28_ok mixed (x := x28_1) (nm2 := nx28_1) (anOk_items _ _ (by rw [it28_1 f]; intro q hq; cases hq)) fun vs hp k res hr => by
  unfold r28_1 at hr
  split at hr
  · exact ⟨f, 0, (lpE28_1 f _ f _ _ _ _ _ _ _ ).trans hr⟩
  · cases hr
def lpS28_3 (f : Nat) (rc : Nat → Int → Int → List
  PV → List
  PV → List
  PV → List
  PV → List
  PV → Option Res) (k0 : Nat → Int → List
  PV → List PV → List PV → List PV → List PV → Option Res) (v0 : Nat) (v1 : Int) (v2 : Int) (v3 : List PV) (v4 : List PV) (v5 : List PV) (v6 : List PV) (v7 : List PV) : Option Res :=
  bif decide (v2 < 16) then
    bif decide (0 ≤ IntKind.i64.wrap (v1 + IntKind.i64.wrap (4 * v2))) && decide (IntKind.i64.wrap (v1 + IntKind.i64.wrap (4 * v2)) < zi v0) && true then
      bif PV.isInt IntKind.u8 (getP (v6.getD (0 + (IntKind.i64.wrap (v1 + IntKind.i64.wrap (4 * v2))).toNat) PV.top) []) && true then
        bif decide (0 ≤ IntKind.i64.wrap (IntKind.i64.wrap (v1 + IntKind.i64.wrap (4 * v2)) + 1)) && decide (IntKind.i64.wrap (IntKind.i64.wrap (v1 + IntKind.i64.wrap (4 * v2)) + 1) < zi v0) &&
          true then
          bif PV.isInt IntKind.u8 (getP (v6.getD (0 + (IntKind.i64.wrap (IntKind.i64.wrap (v1 + IntKind.i64.wrap (4 * v2)) + 1)).toNat) PV.top) []) && true then
            bif decide (0 ≤ IntKind.i64.wrap (IntKind.i64.wrap (v1 + IntKind.i64.wrap (4 * v2)) + 2)) && decide (IntKind.i64.wrap (IntKind.i64.wrap (v1 + IntKind.i64.wrap (4 * v2)) + 2) < zi v0) &&
              true then
              bif PV.isInt IntKind.u8 (getP (v6.getD (0 + (IntKind.i64.wrap (IntKind.i64.wrap (v1 + IntKind.i64.wrap (4 * v2)) + 2)).toNat) PV.top) []) && true then
                bif decide (0 ≤ IntKind.i64.wrap (IntKind.i64.wrap (v1 + IntKind.i64.wrap (4 * v2)) + 3)) &&
                    decide (IntKind.i64.wrap (IntKind.i64.wrap (v1 + IntKind.i64.wrap (4 * v2)) + 3) < zi v0) &&
                  true then
                  bif PV.isInt IntKind.u8 (getP (v6.getD (0 + (IntKind.i64.wrap (IntKind.i64.wrap (v1 + IntKind.i64.wrap (4 * v2)) + 3)).toNat) PV.top) []) && true then
                    bif decide (0 ≤ v2) && decide (v2 < zi 64) && true then
                      rc v0 v1 (IntKind.i64.wrap
                        (v2 +
                          1)) v3 v4 v5 v6 (v7.set v2.toNat
                        (PV.sc
                          (Value.int IntKind.u32
                            (bitI BinOp.or IntKind.u32
                              (bitI BinOp.or IntKind.u32
                                (bitI BinOp.or IntKind.u32 (shlI IntKind.u32 (IntKind.u32.wrap (getP (v6.getD (0 + (IntKind.i64.wrap (v1 + IntKind.i64.wrap (4 * v2))).toNat) PV.top) []).int) 24)
                                  (shlI IntKind.u32 (IntKind.u32.wrap (getP (v6.getD (0 + (IntKind.i64.wrap (IntKind.i64.wrap (v1 + IntKind.i64.wrap (4 * v2)) + 1)).toNat) PV.top) []).int) 16))
                                (shlI IntKind.u32 (IntKind.u32.wrap (getP (v6.getD (0 + (IntKind.i64.wrap (IntKind.i64.wrap (v1 + IntKind.i64.wrap (4 * v2)) + 2)).toNat) PV.top) []).int) 8))
                              (IntKind.u32.wrap (getP (v6.getD (0 + (IntKind.i64.wrap (IntKind.i64.wrap (v1 + IntKind.i64.wrap (4 * v2)) + 3)).toNat) PV.top) []).int)))))
                    else none
                  else none
                else none
              else none
            else none
          else none
        else none
      else none
    else none
  else k0 v0 v1 v3 v4 v5 v6 v7
def lp28_3 (f : Nat) (k0 : Nat → Int → List PV → List PV → List PV → List PV → List PV → Option Res) : Nat → Nat → Int → Int → List PV → List PV → List PV → List PV → List PV → Option Res
  | 0, _, _, _, _, _, _, _, _ => none
  | n + 1, v0, v1, v2, v3, v4, v5, v6, v7 => lpS28_3 f (lp28_3 f k0 n) k0 v0 v1 v2 v3 v4 v5 v6 v7
theorem lpR28_3 (f : Nat) (k : Kont) (n : Nat) (v0 : Nat) (v1 : Int) (v2 : Int) (v3 : List
  PV) (v4 : List
  PV) (v5 : List
  PV) (v6 : List
  PV) (v7 : List
  PV) : evLoop tau 0 nm28_3 (fun s k => ev tau F28 0 0 c28_3 (x28_3 ) s k) (n + 1) (fillS nm28_3 N28 [PV.ptr 4464 [], PV.ptr 4465 [], PV.ptr 4466 [], PV.ow 5 4467 [] 0 v0 none, PV.ptr 4468 [],
  PV.sc (Value.int IntKind.i64 v1),
  PV.sc
    (Value.int IntKind.i64
      v2)] [(4464, Ent.box false 37 (PV.ar 37 v3)), (4465, Ent.box false 118 (PV.ar 118 v4)), (4466, Ent.box false 112 (PV.ar 112 v5)), (4467, Ent.vec false 5 false v6),
  (4468,
    Ent.box false 118
      (PV.ar 118
        v7))]) (kNorm tau 0 nx28_3 k) = lpS28_3 f (fun v0 v1 v2 v3 v4 v5 v6 v7 => evLoop tau 0 nm28_3 (fun s k => ev tau F28 0 0 c28_3 (x28_3 ) s k) n (fillS nm28_3 N28 [PV.ptr 4464 [],
  PV.ptr 4465 [], PV.ptr 4466 [], PV.ow 5 4467 [] 0 v0 none, PV.ptr 4468 [], PV.sc (Value.int IntKind.i64 v1),
  PV.sc
    (Value.int IntKind.i64
      v2)] [(4464, Ent.box false 37 (PV.ar 37 v3)), (4465, Ent.box false 118 (PV.ar 118 v4)), (4466, Ent.box false 112 (PV.ar 112 v5)), (4467, Ent.vec false 5 false v6),
  (4468,
    Ent.box false 118
      (PV.ar 118
        v7))]) (kNorm tau 0 nx28_3 k)) (fun x0 x1 x2 x3 x4 x5 x6 => k (Ex.exit
  6) (fillS nx28_3 N28 [PV.ptr 4464 [], PV.ptr 4465 [], PV.ptr 4466 [], PV.ow 5 4467 [] 0 x0 none, PV.ptr 4468 [],
  PV.sc
    (Value.int IntKind.i64
      x1)] [(4464, Ent.box false 37 (PV.ar 37 x2)), (4465, Ent.box false 118 (PV.ar 118 x3)), (4466, Ent.box false 112 (PV.ar 112 x4)), (4467, Ent.vec false 5 false x5),
  (4468, Ent.box false 118 (PV.ar 118 x6))])) v0 v1 v2 v3 v4 v5 v6 v7 := by kernel_rfl
theorem lpE28_3 (f : Nat) (k : Kont) : ∀ (n : Nat) (v0 : Nat) (v1 : Int) (v2 : Int) (v3 : List
  PV) (v4 : List
  PV) (v5 : List
  PV) (v6 : List
  PV) (v7 : List
  PV), evLoop tau 0 nm28_3 (fun s k => ev tau F28 0 0 c28_3 (x28_3 ) s k) n (fillS nm28_3 N28 [PV.ptr 4464 [], PV.ptr 4465 [], PV.ptr 4466 [], PV.ow 5 4467 [] 0 v0 none, PV.ptr 4468 [],
  PV.sc (Value.int IntKind.i64 v1),
  PV.sc
    (Value.int IntKind.i64
      v2)] [(4464, Ent.box false 37 (PV.ar 37 v3)), (4465, Ent.box false 118 (PV.ar 118 v4)), (4466, Ent.box false 112 (PV.ar 112 v5)), (4467, Ent.vec false 5 false v6),
  (4468,
    Ent.box false 118
      (PV.ar 118
        v7))]) (kNorm tau 0 nx28_3 k) = lp28_3 f (fun x0 x1 x2 x3 x4 x5 x6 => k (Ex.exit
  6) (fillS nx28_3 N28 [PV.ptr 4464 [], PV.ptr 4465 [], PV.ptr 4466 [], PV.ow 5 4467 [] 0 x0 none, PV.ptr 4468 [],
  PV.sc
    (Value.int IntKind.i64
      x1)] [(4464, Ent.box false 37 (PV.ar 37 x2)), (4465, Ent.box false 118 (PV.ar 118 x3)), (4466, Ent.box false 112 (PV.ar 112 x4)), (4467, Ent.vec false 5 false x5),
  (4468, Ent.box false 118 (PV.ar 118 x6))])) n v0 v1 v2 v3 v4 v5 v6 v7
  | 0, _, _, _, _, _, _, _, _ => rfl
  | n + 1, v0, v1, v2, v3, v4, v5, v6, v7 => (lpR28_3 f k n v0 v1 v2 v3 v4 v5 v6 v7).trans (congrArg (fun r => lpS28_3 f r (fun x0 x1 x2 x3 x4 x5 x6 => k (Ex.exit
  6) (fillS nx28_3 N28 [PV.ptr 4464 [], PV.ptr 4465 [], PV.ptr 4466 [], PV.ow 5 4467 [] 0 x0 none, PV.ptr 4468 [],
  PV.sc
    (Value.int IntKind.i64
      x1)] [(4464, Ent.box false 37 (PV.ar 37 x2)), (4465, Ent.box false 118 (PV.ar 118 x3)), (4466, Ent.box false 112 (PV.ar 112 x4)), (4467, Ent.vec false 5 false x5),
  (4468, Ent.box false 118 (PV.ar 118 x6))])) v0 v1 v2 v3 v4 v5 v6 v7) (by funext v0 v1 v2 v3 v4 v5 v6 v7; exact lpE28_3 f k n v0 v1 v2 v3 v4 v5 v6 v7))
def r28_3 (f : Nat) : List PV → List (Nat × Ent) → Kont → Option Res
  | [PV.ptr 4464 [], PV.ptr 4465 [], PV.ptr 4466 [], PV.ow 5 4467 [] 0 v0 none, PV.ptr 4468 [], PV.sc (Value.int IntKind.i64 v1),
  PV.sc
    (Value.int IntKind.i64
      v2)], [(4464, Ent.box false 37 (PV.ar 37 v3)), (4465, Ent.box false 118 (PV.ar 118 v4)), (4466, Ent.box false 112 (PV.ar 112 v5)), (4467, Ent.vec false 5 false v6),
  (4468,
    Ent.box false 118
      (PV.ar 118
        v7))], k => lp28_3 f (fun x0 x1 x2 x3 x4 x5 x6 => k (Ex.exit
  6) (fillS nx28_3 N28 [PV.ptr 4464 [], PV.ptr 4465 [], PV.ptr 4466 [], PV.ow 5 4467 [] 0 x0 none, PV.ptr 4468 [],
  PV.sc
    (Value.int IntKind.i64
      x1)] [(4464, Ent.box false 37 (PV.ar 37 x2)), (4465, Ent.box false 118 (PV.ar 118 x3)), (4466, Ent.box false 112 (PV.ar 112 x4)), (4467, Ent.vec false 5 false x5),
  (4468, Ent.box false 118 (PV.ar 118 x6))])) f v0 v1 v2 v3 v4 v5 v6 v7
  | _, _, _ => none
theorem it28_3 (f : Nat) : items c28_3 x28_3 = [] := by kernel_rfl
theorem i17_3 (f : Nat) : (Item.l c28_3 nm28_3 N28 (r28_3 f)).Ok tau Try.prog 0 := loop_item tabOk F28_ok mixed (x := x28_3) (nm2 := nx28_3) (anOk_items _ _ (by rw [it28_3 f]; intro q hq; cases hq)) fun vs hp k res hr => by
  unfold r28_3 at hr
  split at hr
  · exact ⟨f, 0, (lpE28_3 f _ f _ _ _ _ _ _ _ _ ).trans hr⟩
  · cases hr
def lpS28_4 (f : Nat) (rc : Nat → Int → Int → List
  PV → List
  PV → List
  PV → List
  PV → List
  PV → Option Res) (k0 : Nat → Int → List
  PV → List PV → List PV → List PV → List PV → Option Res) (v0 : Nat) (v1 : Int) (v2 : Int) (v3 : List PV) (v4 : List PV) (v5 : List PV) (v6 : List PV) (v7 : List PV) : Option Res :=
  bif decide (v2 < 64) then
    bif decide (0 ≤ IntKind.i64.wrap (v2 - 15)) && decide (IntKind.i64.wrap (v2 - 15) < zi 64) && true then
      bif PV.isInt IntKind.u32 (getP (PV.ar 118 v7) [(IntKind.i64.wrap (v2 - 15)).toNat]) && true then
        bif decide (0 ≤ IntKind.i64.wrap (v2 - 2)) && decide (IntKind.i64.wrap (v2 - 2) < zi 64) && true then
          bif PV.isInt IntKind.u32 (getP (PV.ar 118 v7) [(IntKind.i64.wrap (v2 - 2)).toNat]) && true then
            bif decide (0 ≤ IntKind.i64.wrap (v2 - 7)) && decide (IntKind.i64.wrap (v2 - 7) < zi 64) && true then
              bif PV.isInt IntKind.u32 (getP (PV.ar 118 v7) [(IntKind.i64.wrap (v2 - 7)).toNat]) && true then
                bif decide (0 ≤ IntKind.i64.wrap (v2 - 16)) && decide (IntKind.i64.wrap (v2 - 16) < zi 64) && true then
                  bif PV.isInt IntKind.u32 (getP (PV.ar 118 v7) [(IntKind.i64.wrap (v2 - 16)).toNat]) && true then
                    bif decide (0 ≤ v2) && decide (v2 < zi 64) && true then
                      rc v0 v1 (IntKind.i64.wrap
                        (v2 +
                          1)) v3 v4 v5 v6 (v7.set v2.toNat
                        (PV.sc
                          (Value.int IntKind.u32
                            (IntKind.u32.wrap
                              (IntKind.u32.wrap
                                  (IntKind.u32.wrap
                                      (bitI BinOp.xor IntKind.u32
                                          (bitI BinOp.xor IntKind.u32 (rr (getP (PV.ar 118 v7) [(IntKind.i64.wrap (v2 - 2)).toNat]).int 17)
                                            (rr (getP (PV.ar 118 v7) [(IntKind.i64.wrap (v2 - 2)).toNat]).int 19))
                                          (shrI IntKind.u32 (getP (PV.ar 118 v7) [(IntKind.i64.wrap (v2 - 2)).toNat]).int 10) +
                                        (getP (PV.ar 118 v7) [(IntKind.i64.wrap (v2 - 7)).toNat]).int) +
                                    bitI BinOp.xor IntKind.u32
                                      (bitI BinOp.xor IntKind.u32 (rr (getP (PV.ar 118 v7) [(IntKind.i64.wrap (v2 - 15)).toNat]).int 7)
                                        (rr (getP (PV.ar 118 v7) [(IntKind.i64.wrap (v2 - 15)).toNat]).int 18))
                                      (shrI IntKind.u32 (getP (PV.ar 118 v7) [(IntKind.i64.wrap (v2 - 15)).toNat]).int 3)) +
                                (getP (PV.ar 118 v7) [(IntKind.i64.wrap (v2 - 16)).toNat]).int)))))
                    else none
                  else none
                else none
              else none
            else none
          else none
        else none
      else none
    else none
  else k0 v0 v1 v3 v4 v5 v6 v7
def lp28_4 (f : Nat) (k0 : Nat → Int → List PV → List PV → List PV → List PV → List PV → Option Res) : Nat → Nat → Int → Int → List PV → List PV → List PV → List PV → List PV → Option Res
  | 0, _, _, _, _, _, _, _, _ => none
  | n + 1, v0, v1, v2, v3, v4, v5, v6, v7 => lpS28_4 f (lp28_4 f k0 n) k0 v0 v1 v2 v3 v4 v5 v6 v7
theorem lpR28_4 (f : Nat) (k : Kont) (n : Nat) (v0 : Nat) (v1 : Int) (v2 : Int) (v3 : List
  PV) (v4 : List
  PV) (v5 : List
  PV) (v6 : List
  PV) (v7 : List
  PV) : evLoop tau 0 nm28_4 (fun s k => ev tau F28 0 0 c28_4 (x28_4 ) s k) (n + 1) (fillS nm28_4 N28 [PV.ptr 4464 [], PV.ptr 4465 [], PV.ptr 4466 [], PV.ow 5 4467 [] 0 v0 none, PV.ptr 4468 [],
  PV.sc (Value.int IntKind.i64 v1),
  PV.sc
    (Value.int IntKind.i64
      v2)] [(4464, Ent.box false 37 (PV.ar 37 v3)), (4465, Ent.box false 118 (PV.ar 118 v4)), (4466, Ent.box false 112 (PV.ar 112 v5)), (4467, Ent.vec false 5 false v6),
  (4468,
    Ent.box false 118
      (PV.ar 118
        v7))]) (kNorm tau 0 nx28_4 k) = lpS28_4 f (fun v0 v1 v2 v3 v4 v5 v6 v7 => evLoop tau 0 nm28_4 (fun s k => ev tau F28 0 0 c28_4 (x28_4 ) s k) n (fillS nm28_4 N28 [PV.ptr 4464 [],
  PV.ptr 4465 [], PV.ptr 4466 [], PV.ow 5 4467 [] 0 v0 none, PV.ptr 4468 [], PV.sc (Value.int IntKind.i64 v1),
  PV.sc
    (Value.int IntKind.i64
      v2)] [(4464, Ent.box false 37 (PV.ar 37 v3)), (4465, Ent.box false 118 (PV.ar 118 v4)), (4466, Ent.box false 112 (PV.ar 112 v5)), (4467, Ent.vec false 5 false v6),
  (4468,
    Ent.box false 118
      (PV.ar 118
        v7))]) (kNorm tau 0 nx28_4 k)) (fun x0 x1 x2 x3 x4 x5 x6 => k (Ex.exit
  8) (fillS nx28_4 N28 [PV.ptr 4464 [], PV.ptr 4465 [], PV.ptr 4466 [], PV.ow 5 4467 [] 0 x0 none, PV.ptr 4468 [],
  PV.sc
    (Value.int IntKind.i64
      x1)] [(4464, Ent.box false 37 (PV.ar 37 x2)), (4465, Ent.box false 118 (PV.ar 118 x3)), (4466, Ent.box false 112 (PV.ar 112 x4)), (4467, Ent.vec false 5 false x5),
  (4468, Ent.box false 118 (PV.ar 118 x6))])) v0 v1 v2 v3 v4 v5 v6 v7 := by kernel_rfl
theorem lpE28_4 (f : Nat) (k : Kont) : ∀ (n : Nat) (v0 : Nat) (v1 : Int) (v2 : Int) (v3 : List
  PV) (v4 : List
  PV) (v5 : List
  PV) (v6 : List
  PV) (v7 : List
  PV), evLoop tau 0 nm28_4 (fun s k => ev tau F28 0 0 c28_4 (x28_4 ) s k) n (fillS nm28_4 N28 [PV.ptr 4464 [], PV.ptr 4465 [], PV.ptr 4466 [], PV.ow 5 4467 [] 0 v0 none, PV.ptr 4468 [],
  PV.sc (Value.int IntKind.i64 v1),
  PV.sc
    (Value.int IntKind.i64
      v2)] [(4464, Ent.box false 37 (PV.ar 37 v3)), (4465, Ent.box false 118 (PV.ar 118 v4)), (4466, Ent.box false 112 (PV.ar 112 v5)), (4467, Ent.vec false 5 false v6),
  (4468,
    Ent.box false 118
      (PV.ar 118
        v7))]) (kNorm tau 0 nx28_4 k) = lp28_4 f (fun x0 x1 x2 x3 x4 x5 x6 => k (Ex.exit
  8) (fillS nx28_4 N28 [PV.ptr 4464 [], PV.ptr 4465 [], PV.ptr 4466 [], PV.ow 5 4467 [] 0 x0 none, PV.ptr 4468 [],
  PV.sc
    (Value.int IntKind.i64
      x1)] [(4464, Ent.box false 37 (PV.ar 37 x2)), (4465, Ent.box false 118 (PV.ar 118 x3)), (4466, Ent.box false 112 (PV.ar 112 x4)), (4467, Ent.vec false 5 false x5),
  (4468, Ent.box false 118 (PV.ar 118 x6))])) n v0 v1 v2 v3 v4 v5 v6 v7
  | 0, _, _, _, _, _, _, _, _ => rfl
  | n + 1, v0, v1, v2, v3, v4, v5, v6, v7 => (lpR28_4 f k n v0 v1 v2 v3 v4 v5 v6 v7).trans (congrArg (fun r => lpS28_4 f r (fun x0 x1 x2 x3 x4 x5 x6 => k (Ex.exit
  8) (fillS nx28_4 N28 [PV.ptr 4464 [], PV.ptr 4465 [], PV.ptr 4466 [], PV.ow 5 4467 [] 0 x0 none, PV.ptr 4468 [],
  PV.sc
    (Value.int IntKind.i64
      x1)] [(4464, Ent.box false 37 (PV.ar 37 x2)), (4465, Ent.box false 118 (PV.ar 118 x3)), (4466, Ent.box false 112 (PV.ar 112 x4)), (4467, Ent.vec false 5 false x5),
  (4468, Ent.box false 118 (PV.ar 118 x6))])) v0 v1 v2 v3 v4 v5 v6 v7) (by funext v0 v1 v2 v3 v4 v5 v6 v7; exact lpE28_4 f k n v0 v1 v2 v3 v4 v5 v6 v7))
def r28_4 (f : Nat) : List PV → List (Nat × Ent) → Kont → Option Res
  | [PV.ptr 4464 [], PV.ptr 4465 [], PV.ptr 4466 [], PV.ow 5 4467 [] 0 v0 none, PV.ptr 4468 [], PV.sc (Value.int IntKind.i64 v1),
  PV.sc
    (Value.int IntKind.i64
      v2)], [(4464, Ent.box false 37 (PV.ar 37 v3)), (4465, Ent.box false 118 (PV.ar 118 v4)), (4466, Ent.box false 112 (PV.ar 112 v5)), (4467, Ent.vec false 5 false v6),
  (4468,
    Ent.box false 118
      (PV.ar 118
        v7))], k => lp28_4 f (fun x0 x1 x2 x3 x4 x5 x6 => k (Ex.exit
  8) (fillS nx28_4 N28 [PV.ptr 4464 [], PV.ptr 4465 [], PV.ptr 4466 [], PV.ow 5 4467 [] 0 x0 none, PV.ptr 4468 [],
  PV.sc
    (Value.int IntKind.i64
      x1)] [(4464, Ent.box false 37 (PV.ar 37 x2)), (4465, Ent.box false 118 (PV.ar 118 x3)), (4466, Ent.box false 112 (PV.ar 112 x4)), (4467, Ent.vec false 5 false x5),
  (4468, Ent.box false 118 (PV.ar 118 x6))])) f v0 v1 v2 v3 v4 v5 v6 v7
  | _, _, _ => none
theorem it28_4 (f : Nat) : items c28_4 x28_4 = [] := by kernel_rfl
theorem i17_4 (f : Nat) : (Item.l c28_4 nm28_4 N28 (r28_4 f)).Ok tau Try.prog 0 := loop_item tabOk F28_ok mixed (x := x28_4) (nm2 := nx28_4) (anOk_items _ _ (by rw [it28_4 f]; intro q hq; cases hq)) fun vs hp k res hr => by
  unfold r28_4 at hr
  split at hr
  · exact ⟨f, 0, (lpE28_4 f _ f _ _ _ _ _ _ _ _ ).trans hr⟩
  · cases hr
def lpS28_5 (f : Nat) (rc : Nat → Int → Int → List
  PV → List
  PV → List
  PV → List
  PV → List
  PV → List
  PV → Option Res) (k0 : Nat → Int → List
  PV → List
  PV → List PV → List PV → List PV → List PV → Option Res) (v0 : Nat) (v1 : Int) (v2 : Int) (v3 : List PV) (v4 : List PV) (v5 : List PV) (v6 : List PV) (v7 : List PV) (v8 : List PV) : Option Res :=
  bif decide (v2 < 64) then
    bif PV.isInt IntKind.u32 (getP (PV.ar 112 v8) [4]) && true then
      bif PV.isInt IntKind.u32 (getP (PV.ar 112 v8) [7]) && true then
        bif PV.isInt IntKind.u32 (getP (PV.ar 112 v8) [5]) && true then
          bif PV.isInt IntKind.u32 (getP (PV.ar 112 v8) [6]) && true then
            bif decide (0 ≤ v2) && decide (v2 < zi 64) && true then
              bif PV.isInt IntKind.u32 (getP (PV.ar 118 v4) [v2.toNat]) && true then
                bif decide (0 ≤ v2) && decide (v2 < zi 64) && true then
                  bif PV.isInt IntKind.u32 (getP (PV.ar 118 v7) [v2.toNat]) && true then
                    bif PV.isInt IntKind.u32 (getP (PV.ar 112 v8) [0]) && true then
                      bif PV.isInt IntKind.u32 (getP (PV.ar 112 v8) [0]) && true then
                        bif PV.isInt IntKind.u32 (getP (PV.ar 112 v8) [0]) && true then
                          bif PV.isInt IntKind.u32 (getP (PV.ar 112 v8) [0]) && true then
                            bif PV.isInt IntKind.u32 (getP (PV.ar 112 v8) [1]) && true then
                              bif PV.isInt IntKind.u32 (getP (PV.ar 112 v8) [0]) && true then
                                bif PV.isInt IntKind.u32 (getP (PV.ar 112 v8) [2]) && true then
                                  bif PV.isInt IntKind.u32 (getP (PV.ar 112 v8) [1]) && true then
                                    bif PV.isInt IntKind.u32 (getP (PV.ar 112 v8) [2]) && true then
                                      bif PV.isInt IntKind.u32 (getP (PV.ar 112 v8) [0]) && true then
                                        bif PV.isInt IntKind.u32 (getP (PV.ar 112 v8) [1]) && true then
                                          bif PV.isInt IntKind.u32 (getP (PV.ar 112 v8) [2]) && true then
                                            bif PV.isInt IntKind.u32 (getP (PV.ar 112 v8) [3]) && true then
                                              bif PV.isInt IntKind.u32 (getP (PV.ar 112 v8) [4]) && true then
                                                bif PV.isInt IntKind.u32 (getP (PV.ar 112 v8) [5]) && true then
                                                  bif PV.isInt IntKind.u32 (getP (PV.ar 112 v8) [6]) && true then
                                                    rc v0 v1 (IntKind.i64.wrap
                                                      (v2 +
                                                        1)) v3 v4 v5 v6 v7 ([PV.sc
                                                        (Value.int IntKind.u32
                                                          (IntKind.u32.wrap
                                                            (IntKind.u32.wrap
                                                                (IntKind.u32.wrap
                                                                    (IntKind.u32.wrap
                                                                        (IntKind.u32.wrap
                                                                            ((getP (PV.ar 112 v8) [7]).int +
                                                                              bitI BinOp.xor IntKind.u32
                                                                                (bitI BinOp.xor IntKind.u32 (rr (getP (PV.ar 112 v8) [4]).int 6) (rr (getP (PV.ar 112 v8) [4]).int 11))
                                                                                (rr (getP (PV.ar 112 v8) [4]).int 25)) +
                                                                          bitI BinOp.xor IntKind.u32 (bitI BinOp.and IntKind.u32 (getP (PV.ar 112 v8) [4]).int (getP (PV.ar 112 v8) [5]).int)
                                                                            (bitI BinOp.and IntKind.u32
                                                                              (bitI BinOp.xor IntKind.u32 (Int.ofNat (2 ^ IntKind.u32.bits - Nat.succ 0)) (getP (PV.ar 112 v8) [4]).int)
                                                                              (getP (PV.ar 112 v8) [6]).int)) +
                                                                      (getP (PV.ar 118 v4) [v2.toNat]).int) +
                                                                  (getP (PV.ar 118 v7) [v2.toNat]).int) +
                                                              IntKind.u32.wrap
                                                                (bitI BinOp.xor IntKind.u32 (bitI BinOp.xor IntKind.u32 (rr (getP (PV.ar 112 v8) [0]).int 2) (rr (getP (PV.ar 112 v8) [0]).int 13))
                                                                    (rr (getP (PV.ar 112 v8) [0]).int 22) +
                                                                  bitI BinOp.xor IntKind.u32
                                                                    (bitI BinOp.xor IntKind.u32 (bitI BinOp.and IntKind.u32 (getP (PV.ar 112 v8) [0]).int (getP (PV.ar 112 v8) [1]).int)
                                                                      (bitI BinOp.and IntKind.u32 (getP (PV.ar 112 v8) [0]).int (getP (PV.ar 112 v8) [2]).int))
                                                                    (bitI BinOp.and IntKind.u32 (getP (PV.ar 112 v8) [1]).int (getP (PV.ar 112 v8) [2]).int))))),
                                                      PV.sc (Value.int IntKind.u32 (getP (PV.ar 112 v8) [0]).int), PV.sc (Value.int IntKind.u32 (getP (PV.ar 112 v8) [1]).int),
                                                      PV.sc (Value.int IntKind.u32 (getP (PV.ar 112 v8) [2]).int),
                                                      PV.sc
                                                        (Value.int IntKind.u32
                                                          (IntKind.u32.wrap
                                                            ((getP (PV.ar 112 v8) [3]).int +
                                                              IntKind.u32.wrap
                                                                (IntKind.u32.wrap
                                                                    (IntKind.u32.wrap
                                                                        (IntKind.u32.wrap
                                                                            ((getP (PV.ar 112 v8) [7]).int +
                                                                              bitI BinOp.xor IntKind.u32
                                                                                (bitI BinOp.xor IntKind.u32 (rr (getP (PV.ar 112 v8) [4]).int 6) (rr (getP (PV.ar 112 v8) [4]).int 11))
                                                                                (rr (getP (PV.ar 112 v8) [4]).int 25)) +
                                                                          bitI BinOp.xor IntKind.u32 (bitI BinOp.and IntKind.u32 (getP (PV.ar 112 v8) [4]).int (getP (PV.ar 112 v8) [5]).int)
                                                                            (bitI BinOp.and IntKind.u32
                                                                              (bitI BinOp.xor IntKind.u32 (Int.ofNat (2 ^ IntKind.u32.bits - Nat.succ 0)) (getP (PV.ar 112 v8) [4]).int)
                                                                              (getP (PV.ar 112 v8) [6]).int)) +
                                                                      (getP (PV.ar 118 v4) [v2.toNat]).int) +
                                                                  (getP (PV.ar 118 v7) [v2.toNat]).int)))),
                                                      PV.sc (Value.int IntKind.u32 (getP (PV.ar 112 v8) [4]).int), PV.sc (Value.int IntKind.u32 (getP (PV.ar 112 v8) [5]).int),
                                                      PV.sc (Value.int IntKind.u32 (getP (PV.ar 112 v8) [6]).int)])
                                                  else none
                                                else none
                                              else none
                                            else none
                                          else none
                                        else none
                                      else none
                                    else none
                                  else none
                                else none
                              else none
                            else none
                          else none
                        else none
                      else none
                    else none
                  else none
                else none
              else none
            else none
          else none
        else none
      else none
    else none
  else k0 v0 v1 v3 v4 v5 v6 v7 v8
def lp28_5 (f : Nat) (k0 : Nat → Int → List
  PV → List PV → List PV → List PV → List PV → List PV → Option Res) : Nat → Nat → Int → Int → List PV → List PV → List PV → List PV → List PV → List PV → Option Res
  | 0, _, _, _, _, _, _, _, _, _ => none
  | n + 1, v0, v1, v2, v3, v4, v5, v6, v7, v8 => lpS28_5 f (lp28_5 f k0 n) k0 v0 v1 v2 v3 v4 v5 v6 v7 v8
theorem lpR28_5 (f : Nat) (k : Kont) (n : Nat) (v0 : Nat) (v1 : Int) (v2 : Int) (v3 : List
  PV) (v4 : List
  PV) (v5 : List
  PV) (v6 : List
  PV) (v7 : List
  PV) (v8 : List
  PV) : evLoop tau 0 nm28_5 (fun s k => ev tau F28 0 0 c28_5 (x28_5 ) s k) (n + 1) (fillS nm28_5 N28 [PV.ptr 4464 [], PV.ptr 4465 [], PV.ptr 4466 [], PV.ow 5 4467 [] 0 v0 none, PV.ptr 4468 [],
  PV.sc (Value.int IntKind.i64 v1), PV.ptr 4469 [],
  PV.sc
    (Value.int IntKind.i64
      v2)] [(4464, Ent.box false 37 (PV.ar 37 v3)), (4465, Ent.box false 118 (PV.ar 118 v4)), (4466, Ent.box false 112 (PV.ar 112 v5)), (4467, Ent.vec false 5 false v6),
  (4468, Ent.box false 118 (PV.ar 118 v7)),
  (4469,
    Ent.box false 112
      (PV.ar 112
        v8))]) (kNorm tau 0 nx28_5 k) = lpS28_5 f (fun v0 v1 v2 v3 v4 v5 v6 v7 v8 => evLoop tau 0 nm28_5 (fun s k => ev tau F28 0 0 c28_5 (x28_5 ) s k) n (fillS nm28_5 N28 [PV.ptr 4464 [],
  PV.ptr 4465 [], PV.ptr 4466 [], PV.ow 5 4467 [] 0 v0 none, PV.ptr 4468 [], PV.sc (Value.int IntKind.i64 v1), PV.ptr 4469 [],
  PV.sc
    (Value.int IntKind.i64
      v2)] [(4464, Ent.box false 37 (PV.ar 37 v3)), (4465, Ent.box false 118 (PV.ar 118 v4)), (4466, Ent.box false 112 (PV.ar 112 v5)), (4467, Ent.vec false 5 false v6),
  (4468, Ent.box false 118 (PV.ar 118 v7)),
  (4469,
    Ent.box false 112
      (PV.ar 112
        v8))]) (kNorm tau 0 nx28_5 k)) (fun x0 x1 x2 x3 x4 x5 x6 x7 => k (Ex.exit
  10) (fillS nx28_5 N28 [PV.ptr 4464 [], PV.ptr 4465 [], PV.ptr 4466 [], PV.ow 5 4467 [] 0 x0 none, PV.ptr 4468 [], PV.sc (Value.int IntKind.i64 x1),
  PV.ptr 4469
    []] [(4464, Ent.box false 37 (PV.ar 37 x2)), (4465, Ent.box false 118 (PV.ar 118 x3)), (4466, Ent.box false 112 (PV.ar 112 x4)), (4467, Ent.vec false 5 false x5),
  (4468, Ent.box false 118 (PV.ar 118 x6)), (4469, Ent.box false 112 (PV.ar 112 x7))])) v0 v1 v2 v3 v4 v5 v6 v7 v8 := by kernel_rfl
theorem lpE28_5 (f : Nat) (k : Kont) : ∀ (n : Nat) (v0 : Nat) (v1 : Int) (v2 : Int) (v3 : List
  PV) (v4 : List
  PV) (v5 : List
  PV) (v6 : List
  PV) (v7 : List
  PV) (v8 : List
  PV), evLoop tau 0 nm28_5 (fun s k => ev tau F28 0 0 c28_5 (x28_5 ) s k) n (fillS nm28_5 N28 [PV.ptr 4464 [], PV.ptr 4465 [], PV.ptr 4466 [], PV.ow 5 4467 [] 0 v0 none, PV.ptr 4468 [],
  PV.sc (Value.int IntKind.i64 v1), PV.ptr 4469 [],
  PV.sc
    (Value.int IntKind.i64
      v2)] [(4464, Ent.box false 37 (PV.ar 37 v3)), (4465, Ent.box false 118 (PV.ar 118 v4)), (4466, Ent.box false 112 (PV.ar 112 v5)), (4467, Ent.vec false 5 false v6),
  (4468, Ent.box false 118 (PV.ar 118 v7)),
  (4469,
    Ent.box false 112
      (PV.ar 112
        v8))]) (kNorm tau 0 nx28_5 k) = lp28_5 f (fun x0 x1 x2 x3 x4 x5 x6 x7 => k (Ex.exit
  10) (fillS nx28_5 N28 [PV.ptr 4464 [], PV.ptr 4465 [], PV.ptr 4466 [], PV.ow 5 4467 [] 0 x0 none, PV.ptr 4468 [], PV.sc (Value.int IntKind.i64 x1),
  PV.ptr 4469
    []] [(4464, Ent.box false 37 (PV.ar 37 x2)), (4465, Ent.box false 118 (PV.ar 118 x3)), (4466, Ent.box false 112 (PV.ar 112 x4)), (4467, Ent.vec false 5 false x5),
  (4468, Ent.box false 118 (PV.ar 118 x6)), (4469, Ent.box false 112 (PV.ar 112 x7))])) n v0 v1 v2 v3 v4 v5 v6 v7 v8
  | 0, _, _, _, _, _, _, _, _, _ => rfl
  | n + 1, v0, v1, v2, v3, v4, v5, v6, v7, v8 => (lpR28_5 f k n v0 v1 v2 v3 v4 v5 v6 v7 v8).trans (congrArg (fun r => lpS28_5 f r (fun x0 x1 x2 x3 x4 x5 x6 x7 => k (Ex.exit
  10) (fillS nx28_5 N28 [PV.ptr 4464 [], PV.ptr 4465 [], PV.ptr 4466 [], PV.ow 5 4467 [] 0 x0 none, PV.ptr 4468 [], PV.sc (Value.int IntKind.i64 x1),
  PV.ptr 4469
    []] [(4464, Ent.box false 37 (PV.ar 37 x2)), (4465, Ent.box false 118 (PV.ar 118 x3)), (4466, Ent.box false 112 (PV.ar 112 x4)), (4467, Ent.vec false 5 false x5),
  (4468, Ent.box false 118 (PV.ar 118 x6)), (4469, Ent.box false 112 (PV.ar 112 x7))])) v0 v1 v2 v3 v4 v5 v6 v7 v8) (by funext v0 v1 v2 v3 v4 v5 v6 v7 v8; exact lpE28_5 f k n v0 v1 v2 v3 v4 v5 v6 v7 v8))
def r28_5 (f : Nat) : List PV → List (Nat × Ent) → Kont → Option Res
  | [PV.ptr 4464 [], PV.ptr 4465 [], PV.ptr 4466 [], PV.ow 5 4467 [] 0 v0 none, PV.ptr 4468 [], PV.sc (Value.int IntKind.i64 v1), PV.ptr 4469 [],
  PV.sc
    (Value.int IntKind.i64
      v2)], [(4464, Ent.box false 37 (PV.ar 37 v3)), (4465, Ent.box false 118 (PV.ar 118 v4)), (4466, Ent.box false 112 (PV.ar 112 v5)), (4467, Ent.vec false 5 false v6),
  (4468, Ent.box false 118 (PV.ar 118 v7)),
  (4469,
    Ent.box false 112
      (PV.ar 112
        v8))], k => lp28_5 f (fun x0 x1 x2 x3 x4 x5 x6 x7 => k (Ex.exit
  10) (fillS nx28_5 N28 [PV.ptr 4464 [], PV.ptr 4465 [], PV.ptr 4466 [], PV.ow 5 4467 [] 0 x0 none, PV.ptr 4468 [], PV.sc (Value.int IntKind.i64 x1),
  PV.ptr 4469
    []] [(4464, Ent.box false 37 (PV.ar 37 x2)), (4465, Ent.box false 118 (PV.ar 118 x3)), (4466, Ent.box false 112 (PV.ar 112 x4)), (4467, Ent.vec false 5 false x5),
  (4468, Ent.box false 118 (PV.ar 118 x6)), (4469, Ent.box false 112 (PV.ar 112 x7))])) f v0 v1 v2 v3 v4 v5 v6 v7 v8
  | _, _, _ => none
theorem it28_5 (f : Nat) : items c28_5 x28_5 = [] := by kernel_rfl
theorem i17_5 (f : Nat) : (Item.l c28_5 nm28_5 N28 (r28_5 f)).Ok tau Try.prog 0 := loop_item tabOk F28_ok mixed (x := x28_5) (nm2 := nx28_5) (anOk_items _ _ (by rw [it28_5 f]; intro q hq; cases hq)) fun vs hp k res hr => by
  unfold r28_5 at hr
  split at hr
  · exact ⟨f, 0, (lpE28_5 f _ f _ _ _ _ _ _ _ _ _ ).trans hr⟩
  · cases hr
def lpS28_6 (f : Nat) (rc : Nat → Int → Int → List
  PV → List
  PV → List
  PV → List
  PV → List
  PV → List
  PV → Option Res) (k0 : Nat → Int → List
  PV → List PV → List PV → List PV → List PV → Option Res) (v0 : Nat) (v1 : Int) (v2 : Int) (v3 : List PV) (v4 : List PV) (v5 : List PV) (v6 : List PV) (v7 : List PV) (v8 : List PV) : Option Res :=
  bif decide (v2 < 8) then
    bif decide (0 ≤ v2) && decide (v2 < zi 8) && true then
      bif PV.isInt IntKind.u32 (getP (PV.ar 112 v5) [v2.toNat]) && true then
        bif decide (0 ≤ v2) && decide (v2 < zi 8) && true then
          bif PV.isInt IntKind.u32 (getP (PV.ar 112 v8) [v2.toNat]) && true then
            bif decide (0 ≤ v2) && decide (v2 < zi 8) && true then
              rc v0 v1 (IntKind.i64.wrap
                (v2 + 1)) v3 v4 (v5.set v2.toNat (PV.sc (Value.int IntKind.u32 (IntKind.u32.wrap ((getP (PV.ar 112 v5) [v2.toNat]).int + (getP (PV.ar 112 v8) [v2.toNat]).int))))) v6 v7 v8
            else none
          else none
        else none
      else none
    else none
  else k0 v0 v1 v3 v4 v5 v6 v7
def lp28_6 (f : Nat) (k0 : Nat → Int → List PV → List PV → List PV → List PV → List PV → Option Res) : Nat → Nat → Int → Int → List PV → List PV → List PV → List PV → List PV → List PV → Option Res
  | 0, _, _, _, _, _, _, _, _, _ => none
  | n + 1, v0, v1, v2, v3, v4, v5, v6, v7, v8 => lpS28_6 f (lp28_6 f k0 n) k0 v0 v1 v2 v3 v4 v5 v6 v7 v8
theorem lpR28_6 (f : Nat) (k : Kont) (n : Nat) (v0 : Nat) (v1 : Int) (v2 : Int) (v3 : List
  PV) (v4 : List
  PV) (v5 : List
  PV) (v6 : List
  PV) (v7 : List
  PV) (v8 : List
  PV) : evLoop tau 0 nm28_6 (fun s k => ev tau F28 0 0 c28_6 (x28_6 ) s k) (n + 1) (fillS nm28_6 N28 [PV.ptr 4464 [], PV.ptr 4465 [], PV.ptr 4466 [], PV.ow 5 4467 [] 0 v0 none, PV.ptr 4468 [],
  PV.sc (Value.int IntKind.i64 v1), PV.ptr 4469 [],
  PV.sc
    (Value.int IntKind.i64
      v2)] [(4464, Ent.box false 37 (PV.ar 37 v3)), (4465, Ent.box false 118 (PV.ar 118 v4)), (4466, Ent.box false 112 (PV.ar 112 v5)), (4467, Ent.vec false 5 false v6),
  (4468, Ent.box false 118 (PV.ar 118 v7)),
  (4469,
    Ent.box false 112
      (PV.ar 112
        v8))]) (kNorm tau 0 nx28_6 k) = lpS28_6 f (fun v0 v1 v2 v3 v4 v5 v6 v7 v8 => evLoop tau 0 nm28_6 (fun s k => ev tau F28 0 0 c28_6 (x28_6 ) s k) n (fillS nm28_6 N28 [PV.ptr 4464 [],
  PV.ptr 4465 [], PV.ptr 4466 [], PV.ow 5 4467 [] 0 v0 none, PV.ptr 4468 [], PV.sc (Value.int IntKind.i64 v1), PV.ptr 4469 [],
  PV.sc
    (Value.int IntKind.i64
      v2)] [(4464, Ent.box false 37 (PV.ar 37 v3)), (4465, Ent.box false 118 (PV.ar 118 v4)), (4466, Ent.box false 112 (PV.ar 112 v5)), (4467, Ent.vec false 5 false v6),
  (4468, Ent.box false 118 (PV.ar 118 v7)),
  (4469,
    Ent.box false 112
      (PV.ar 112
        v8))]) (kNorm tau 0 nx28_6 k)) (fun x0 x1 x2 x3 x4 x5 x6 => k (Ex.exit
  12) (fillS nx28_6 N28 [PV.ptr 4464 [], PV.ptr 4465 [], PV.ptr 4466 [], PV.ow 5 4467 [] 0 x0 none, PV.ptr 4468 [],
  PV.sc
    (Value.int IntKind.i64
      x1)] [(4464, Ent.box false 37 (PV.ar 37 x2)), (4465, Ent.box false 118 (PV.ar 118 x3)), (4466, Ent.box false 112 (PV.ar 112 x4)), (4467, Ent.vec false 5 false x5),
  (4468, Ent.box false 118 (PV.ar 118 x6))])) v0 v1 v2 v3 v4 v5 v6 v7 v8 := by kernel_rfl
theorem lpE28_6 (f : Nat) (k : Kont) : ∀ (n : Nat) (v0 : Nat) (v1 : Int) (v2 : Int) (v3 : List
  PV) (v4 : List
  PV) (v5 : List
  PV) (v6 : List
  PV) (v7 : List
  PV) (v8 : List
  PV), evLoop tau 0 nm28_6 (fun s k => ev tau F28 0 0 c28_6 (x28_6 ) s k) n (fillS nm28_6 N28 [PV.ptr 4464 [], PV.ptr 4465 [], PV.ptr 4466 [], PV.ow 5 4467 [] 0 v0 none, PV.ptr 4468 [],
  PV.sc (Value.int IntKind.i64 v1), PV.ptr 4469 [],
  PV.sc
    (Value.int IntKind.i64
      v2)] [(4464, Ent.box false 37 (PV.ar 37 v3)), (4465, Ent.box false 118 (PV.ar 118 v4)), (4466, Ent.box false 112 (PV.ar 112 v5)), (4467, Ent.vec false 5 false v6),
  (4468, Ent.box false 118 (PV.ar 118 v7)),
  (4469,
    Ent.box false 112
      (PV.ar 112
        v8))]) (kNorm tau 0 nx28_6 k) = lp28_6 f (fun x0 x1 x2 x3 x4 x5 x6 => k (Ex.exit
  12) (fillS nx28_6 N28 [PV.ptr 4464 [], PV.ptr 4465 [], PV.ptr 4466 [], PV.ow 5 4467 [] 0 x0 none, PV.ptr 4468 [],
  PV.sc
    (Value.int IntKind.i64
      x1)] [(4464, Ent.box false 37 (PV.ar 37 x2)), (4465, Ent.box false 118 (PV.ar 118 x3)), (4466, Ent.box false 112 (PV.ar 112 x4)), (4467, Ent.vec false 5 false x5),
  (4468, Ent.box false 118 (PV.ar 118 x6))])) n v0 v1 v2 v3 v4 v5 v6 v7 v8
  | 0, _, _, _, _, _, _, _, _, _ => rfl
  | n + 1, v0, v1, v2, v3, v4, v5, v6, v7, v8 => (lpR28_6 f k n v0 v1 v2 v3 v4 v5 v6 v7 v8).trans (congrArg (fun r => lpS28_6 f r (fun x0 x1 x2 x3 x4 x5 x6 => k (Ex.exit
  12) (fillS nx28_6 N28 [PV.ptr 4464 [], PV.ptr 4465 [], PV.ptr 4466 [], PV.ow 5 4467 [] 0 x0 none, PV.ptr 4468 [],
  PV.sc
    (Value.int IntKind.i64
      x1)] [(4464, Ent.box false 37 (PV.ar 37 x2)), (4465, Ent.box false 118 (PV.ar 118 x3)), (4466, Ent.box false 112 (PV.ar 112 x4)), (4467, Ent.vec false 5 false x5),
  (4468, Ent.box false 118 (PV.ar 118 x6))])) v0 v1 v2 v3 v4 v5 v6 v7 v8) (by funext v0 v1 v2 v3 v4 v5 v6 v7 v8; exact lpE28_6 f k n v0 v1 v2 v3 v4 v5 v6 v7 v8))
def r28_6 (f : Nat) : List PV → List (Nat × Ent) → Kont → Option Res
  | [PV.ptr 4464 [], PV.ptr 4465 [], PV.ptr 4466 [], PV.ow 5 4467 [] 0 v0 none, PV.ptr 4468 [], PV.sc (Value.int IntKind.i64 v1), PV.ptr 4469 [],
  PV.sc
    (Value.int IntKind.i64
      v2)], [(4464, Ent.box false 37 (PV.ar 37 v3)), (4465, Ent.box false 118 (PV.ar 118 v4)), (4466, Ent.box false 112 (PV.ar 112 v5)), (4467, Ent.vec false 5 false v6),
  (4468, Ent.box false 118 (PV.ar 118 v7)),
  (4469,
    Ent.box false 112
      (PV.ar 112
        v8))], k => lp28_6 f (fun x0 x1 x2 x3 x4 x5 x6 => k (Ex.exit
  12) (fillS nx28_6 N28 [PV.ptr 4464 [], PV.ptr 4465 [], PV.ptr 4466 [], PV.ow 5 4467 [] 0 x0 none, PV.ptr 4468 [],
  PV.sc
    (Value.int IntKind.i64
      x1)] [(4464, Ent.box false 37 (PV.ar 37 x2)), (4465, Ent.box false 118 (PV.ar 118 x3)), (4466, Ent.box false 112 (PV.ar 112 x4)), (4467, Ent.vec false 5 false x5),
  (4468, Ent.box false 118 (PV.ar 118 x6))])) f v0 v1 v2 v3 v4 v5 v6 v7 v8
  | _, _, _ => none
theorem it28_6 (f : Nat) : items c28_6 x28_6 = [] := by kernel_rfl
theorem i17_6 (f : Nat) : (Item.l c28_6 nm28_6 N28 (r28_6 f)).Ok tau Try.prog 0 := loop_item tabOk F28_ok mixed (x := x28_6) (nm2 := nx28_6) (anOk_items _ _ (by rw [it28_6 f]; intro q hq; cases hq)) fun vs hp k res hr => by
  unfold r28_6 at hr
  split at hr
  · exact ⟨f, 0, (lpE28_6 f _ f _ _ _ _ _ _ _ _ _ ).trans hr⟩
  · cases hr
def lpS28_2 (f : Nat) (rc : Nat → Int → List
  PV → List
  PV → List PV → List PV → List PV → Option Res) (k0 : List PV → List PV → Option Res) (v0 : Nat) (v1 : Int) (v2 : List PV) (v3 : List PV) (v4 : List PV) (v5 : List PV) (v6 : List PV) : Option Res :=
  bif decide (v1 < zi v0) then
    lp28_3 f (fun x0_2 x1_2 x2_2 x3_2 x4_2 x5_2 x6_2 =>
      lp28_4 f (fun x0_3 x1_3 x2_3 x3_3 x4_3 x5_3 x6_3 =>
        lp28_5 f (fun x0_4 x1_4 x2_4 x3_4 x4_4 x5_4 x6_4 x7_4 =>
          lp28_6 f (fun x0_5 x1_5 x2_5 x3_5 x4_5 x5_5 x6_5 =>
            rc x0_5 (IntKind.i64.wrap
              (x1_5 +
                64)) x2_5 x3_5 x4_5 x5_5 x6_5) f x0_4 x1_4 (0) x2_4 x3_4 x4_4 x5_4 x6_4 x7_4) f x0_3 x1_3 (0) x2_3 x3_3 x4_3 x5_3 x6_3 x4_3) f x0_2 x1_2 (16) x2_2 x3_2 x4_2 x5_2 x6_2) f v0 v1 (0) v2 v3 v4 v5 v6
  else k0 v2 v4
def lp28_2 (f : Nat) (k0 : List PV → List PV → Option Res) : Nat → Nat → Int → List PV → List PV → List PV → List PV → List PV → Option Res
  | 0, _, _, _, _, _, _, _ => none
  | n + 1, v0, v1, v2, v3, v4, v5, v6 => lpS28_2 f (lp28_2 f k0 n) k0 v0 v1 v2 v3 v4 v5 v6
theorem lpR28_2 (f : Nat) (k : Kont) (n : Nat) (v0 : Nat) (v1 : Int) (v2 : List
  PV) (v3 : List
  PV) (v4 : List
  PV) (v5 : List
  PV) (v6 : List
  PV) : evLoop tau 0 nm28_2 (fun s k => ev tau F28 0 0 c28_2 (x28_2 (r28_3 f) (r28_4 f) (r28_5 f) (r28_6 f)) s k) (n + 1) (fillS nm28_2 N28 [PV.ptr 4464 [], PV.ptr 4465 [], PV.ptr 4466 [], PV.ow 5 4467 [] 0 v0 none, PV.ptr 4468 [],
  PV.sc
    (Value.int IntKind.i64
      v1)] [(4464, Ent.box false 37 (PV.ar 37 v2)), (4465, Ent.box false 118 (PV.ar 118 v3)), (4466, Ent.box false 112 (PV.ar 112 v4)), (4467, Ent.vec false 5 false v5),
  (4468,
    Ent.box false 118
      (PV.ar 118
        v6))]) (kNorm tau 0 nx28_2 k) = lpS28_2 f (fun v0 v1 v2 v3 v4 v5 v6 => evLoop tau 0 nm28_2 (fun s k => ev tau F28 0 0 c28_2 (x28_2 (r28_3 f) (r28_4 f) (r28_5 f) (r28_6 f)) s k) n (fillS nm28_2 N28 [PV.ptr 4464 [],
  PV.ptr 4465 [], PV.ptr 4466 [], PV.ow 5 4467 [] 0 v0 none, PV.ptr 4468 [],
  PV.sc
    (Value.int IntKind.i64
      v1)] [(4464, Ent.box false 37 (PV.ar 37 v2)), (4465, Ent.box false 118 (PV.ar 118 v3)), (4466, Ent.box false 112 (PV.ar 112 v4)), (4467, Ent.vec false 5 false v5),
  (4468,
    Ent.box false 118
      (PV.ar 118
        v6))]) (kNorm tau 0 nx28_2 k)) (fun x0 x1 => k (Ex.exit
  4) (fillS nx28_2 N28 [PV.ptr 4464 [], PV.ptr 4465 []] [(4464, Ent.box false 37 (PV.ar 37 x0)), (4465, Ent.box false 112 (PV.ar 112 x1))])) v0 v1 v2 v3 v4 v5 v6 := by kernel_rfl
theorem lpE28_2 (f : Nat) (k : Kont) : ∀ (n : Nat) (v0 : Nat) (v1 : Int) (v2 : List
  PV) (v3 : List
  PV) (v4 : List
  PV) (v5 : List
  PV) (v6 : List
  PV), evLoop tau 0 nm28_2 (fun s k => ev tau F28 0 0 c28_2 (x28_2 (r28_3 f) (r28_4 f) (r28_5 f) (r28_6 f)) s k) n (fillS nm28_2 N28 [PV.ptr 4464 [], PV.ptr 4465 [], PV.ptr 4466 [], PV.ow 5 4467 [] 0 v0 none, PV.ptr 4468 [],
  PV.sc
    (Value.int IntKind.i64
      v1)] [(4464, Ent.box false 37 (PV.ar 37 v2)), (4465, Ent.box false 118 (PV.ar 118 v3)), (4466, Ent.box false 112 (PV.ar 112 v4)), (4467, Ent.vec false 5 false v5),
  (4468,
    Ent.box false 118
      (PV.ar 118
        v6))]) (kNorm tau 0 nx28_2 k) = lp28_2 f (fun x0 x1 => k (Ex.exit
  4) (fillS nx28_2 N28 [PV.ptr 4464 [], PV.ptr 4465 []] [(4464, Ent.box false 37 (PV.ar 37 x0)), (4465, Ent.box false 112 (PV.ar 112 x1))])) n v0 v1 v2 v3 v4 v5 v6
  | 0, _, _, _, _, _, _, _ => rfl
  | n + 1, v0, v1, v2, v3, v4, v5, v6 => (lpR28_2 f k n v0 v1 v2 v3 v4 v5 v6).trans (congrArg (fun r => lpS28_2 f r (fun x0 x1 => k (Ex.exit
  4) (fillS nx28_2 N28 [PV.ptr 4464 [],
  PV.ptr 4465 []] [(4464, Ent.box false 37 (PV.ar 37 x0)), (4465, Ent.box false 112 (PV.ar 112 x1))])) v0 v1 v2 v3 v4 v5 v6) (by funext v0 v1 v2 v3 v4 v5 v6; exact lpE28_2 f k n v0 v1 v2 v3 v4 v5 v6))
def r28_2 (f : Nat) : List PV → List (Nat × Ent) → Kont → Option Res
  | [PV.ptr 4464 [], PV.ptr 4465 [], PV.ptr 4466 [], PV.ow 5 4467 [] 0 v0 none, PV.ptr 4468 [],
  PV.sc
    (Value.int IntKind.i64
      v1)], [(4464, Ent.box false 37 (PV.ar 37 v2)), (4465, Ent.box false 118 (PV.ar 118 v3)), (4466, Ent.box false 112 (PV.ar 112 v4)), (4467, Ent.vec false 5 false v5),
  (4468,
    Ent.box false 118
      (PV.ar 118
        v6))], k => lp28_2 f (fun x0 x1 => k (Ex.exit
  4) (fillS nx28_2 N28 [PV.ptr 4464 [], PV.ptr 4465 []] [(4464, Ent.box false 37 (PV.ar 37 x0)), (4465, Ent.box false 112 (PV.ar 112 x1))])) f v0 v1 v2 v3 v4 v5 v6
  | _, _, _ => none
theorem it28_2 (f : Nat) : items c28_2 (x28_2 (r28_3 f) (r28_4 f) (r28_5 f) (r28_6 f)) = [.l c28_3 nm28_3 N28 (r28_3 f), .l c28_4 nm28_4 N28 (r28_4 f), .l c28_5 nm28_5 N28 (r28_5 f), .l c28_6 nm28_6 N28 (r28_6 f)] := by kernel_rfl
theorem i17_2 (f : Nat) : (Item.l c28_2 nm28_2 N28 (r28_2 f)).Ok tau Try.prog 0 := loop_item tabOk F28_ok mixed (x := (x28_2 (r28_3 f) (r28_4 f) (r28_5 f) (r28_6 f))) (nm2 := nx28_2) (anOk_items _ _ (by rw [it28_2 f]; simp only [List.forall_mem_cons, List.not_mem_nil, false_implies, implies_true, and_true]; exact ⟨i17_3 f, i17_4 f, i17_5 f, i17_6 f⟩)) fun vs hp k res hr => by
  unfold r28_2 at hr
  split at hr
  · exact ⟨f, 0, (lpE28_2 f _ f _ _ _ _ _ _ _ ).trans hr⟩
  · cases hr
def lpS28_7 (f : Nat) (rc : Int → List PV → List PV → List PV → Option Res) (k0 : List PV → List PV → Option Res) (v0 : Int) (v1 : List PV) (v2 : List PV) (v3 : List PV) : Option Res :=
  bif decide (v0 < 8) then
    bif decide (0 ≤ v0) && decide (v0 < zi 8) && true then
      bif PV.isInt IntKind.u32 (getP (PV.ar 112 v2) [v0.toNat]) && true then
        bif decide (0 ≤ v0) && decide (v0 < zi 8) && true then
          bif PV.isInt IntKind.u32 (getP (PV.ar 112 v2) [v0.toNat]) && true then
            bif decide (0 ≤ v0) && decide (v0 < zi 8) && true then
              bif PV.isInt IntKind.u32 (getP (PV.ar 112 v2) [v0.toNat]) && true then
                bif decide (0 ≤ v0) && decide (v0 < zi 8) && true then
                  bif PV.isInt IntKind.u32 (getP (PV.ar 112 v2) [v0.toNat]) && true then
                    bif decide (0 ≤ IntKind.i64.wrap (4 * v0)) && decide (IntKind.i64.wrap (4 * v0) < zi 32) && true then
                      bif decide (0 ≤ IntKind.i64.wrap (IntKind.i64.wrap (4 * v0) + 1)) && decide (IntKind.i64.wrap (IntKind.i64.wrap (4 * v0) + 1) < zi 32) && true then
                        bif decide (0 ≤ IntKind.i64.wrap (IntKind.i64.wrap (4 * v0) + 2)) && decide (IntKind.i64.wrap (IntKind.i64.wrap (4 * v0) + 2) < zi 32) && true then
                          bif decide (0 ≤ IntKind.i64.wrap (IntKind.i64.wrap (4 * v0) + 3)) && decide (IntKind.i64.wrap (IntKind.i64.wrap (4 * v0) + 3) < zi 32) && true then
                            rc (IntKind.i64.wrap
                              (v0 +
                                1)) v1 v2 ((((v3.set (IntKind.i64.wrap (4 * v0)).toNat (PV.sc (Value.int IntKind.u8 (IntKind.u8.wrap (shrI IntKind.u32 (getP (PV.ar 112 v2) [v0.toNat]).int 24))))).set
                                      (IntKind.i64.wrap (IntKind.i64.wrap (4 * v0) + 1)).toNat
                                      (PV.sc (Value.int IntKind.u8 (IntKind.u8.wrap (shrI IntKind.u32 (getP (PV.ar 112 v2) [v0.toNat]).int 16))))).set
                                  (IntKind.i64.wrap (IntKind.i64.wrap (4 * v0) + 2)).toNat
                                  (PV.sc (Value.int IntKind.u8 (IntKind.u8.wrap (shrI IntKind.u32 (getP (PV.ar 112 v2) [v0.toNat]).int 8))))).set
                              (IntKind.i64.wrap (IntKind.i64.wrap (4 * v0) + 3)).toNat (PV.sc (Value.int IntKind.u8 (IntKind.u8.wrap (getP (PV.ar 112 v2) [v0.toNat]).int))))
                          else none
                        else none
                      else none
                    else none
                  else none
                else none
              else none
            else none
          else none
        else none
      else none
    else none
  else k0 v1 v3
def lp28_7 (f : Nat) (k0 : List PV → List PV → Option Res) : Nat → Int → List PV → List PV → List PV → Option Res
  | 0, _, _, _, _ => none
  | n + 1, v0, v1, v2, v3 => lpS28_7 f (lp28_7 f k0 n) k0 v0 v1 v2 v3
theorem lpR28_7 (f : Nat) (k : Kont) (n : Nat) (v0 : Int) (v1 : List
  PV) (v2 : List
  PV) (v3 : List
  PV) : evLoop tau 0 nm28_7 (fun s k => ev tau F28 0 0 c28_7 (x28_7 ) s k) (n + 1) (fillS nm28_7 N28 [PV.ptr 4464 [], PV.ptr 4465 [], PV.ptr 4466 [],
  PV.sc
    (Value.int IntKind.i64
      v0)] [(4464, Ent.box false 37 (PV.ar 37 v1)), (4465, Ent.box false 112 (PV.ar 112 v2)),
  (4466,
    Ent.box false 37
      (PV.ar 37
        v3))]) (kNorm tau 0 nx28_7 k) = lpS28_7 f (fun v0 v1 v2 v3 => evLoop tau 0 nm28_7 (fun s k => ev tau F28 0 0 c28_7 (x28_7 ) s k) n (fillS nm28_7 N28 [PV.ptr 4464 [], PV.ptr 4465 [],
  PV.ptr 4466 [],
  PV.sc
    (Value.int IntKind.i64
      v0)] [(4464, Ent.box false 37 (PV.ar 37 v1)), (4465, Ent.box false 112 (PV.ar 112 v2)),
  (4466,
    Ent.box false 37
      (PV.ar 37
        v3))]) (kNorm tau 0 nx28_7 k)) (fun x0 x1 => k (Ex.exit
  14) (fillS nx28_7 N28 [PV.ptr 4464 [], PV.ptr 4465 []] [(4464, Ent.box false 37 (PV.ar 37 x0)), (4465, Ent.box false 37 (PV.ar 37 x1))])) v0 v1 v2 v3 := by kernel_rfl
theorem lpE28_7 (f : Nat) (k : Kont) : ∀ (n : Nat) (v0 : Int) (v1 : List
  PV) (v2 : List
  PV) (v3 : List
  PV), evLoop tau 0 nm28_7 (fun s k => ev tau F28 0 0 c28_7 (x28_7 ) s k) n (fillS nm28_7 N28 [PV.ptr 4464 [], PV.ptr 4465 [], PV.ptr 4466 [],
  PV.sc
    (Value.int IntKind.i64
      v0)] [(4464, Ent.box false 37 (PV.ar 37 v1)), (4465, Ent.box false 112 (PV.ar 112 v2)),
  (4466,
    Ent.box false 37
      (PV.ar 37
        v3))]) (kNorm tau 0 nx28_7 k) = lp28_7 f (fun x0 x1 => k (Ex.exit
  14) (fillS nx28_7 N28 [PV.ptr 4464 [], PV.ptr 4465 []] [(4464, Ent.box false 37 (PV.ar 37 x0)), (4465, Ent.box false 37 (PV.ar 37 x1))])) n v0 v1 v2 v3
  | 0, _, _, _, _ => rfl
  | n + 1, v0, v1, v2, v3 => (lpR28_7 f k n v0 v1 v2 v3).trans (congrArg (fun r => lpS28_7 f r (fun x0 x1 => k (Ex.exit
  14) (fillS nx28_7 N28 [PV.ptr 4464 [],
  PV.ptr 4465 []] [(4464, Ent.box false 37 (PV.ar 37 x0)), (4465, Ent.box false 37 (PV.ar 37 x1))])) v0 v1 v2 v3) (by funext v0 v1 v2 v3; exact lpE28_7 f k n v0 v1 v2 v3))
def r28_7 (f : Nat) : List PV → List (Nat × Ent) → Kont → Option Res
  | [PV.ptr 4464 [], PV.ptr 4465 [], PV.ptr 4466 [],
  PV.sc
    (Value.int IntKind.i64
      v0)], [(4464, Ent.box false 37 (PV.ar 37 v1)), (4465, Ent.box false 112 (PV.ar 112 v2)),
  (4466,
    Ent.box false 37
      (PV.ar 37
        v3))], k => lp28_7 f (fun x0 x1 => k (Ex.exit
  14) (fillS nx28_7 N28 [PV.ptr 4464 [], PV.ptr 4465 []] [(4464, Ent.box false 37 (PV.ar 37 x0)), (4465, Ent.box false 37 (PV.ar 37 x1))])) f v0 v1 v2 v3
  | _, _, _ => none
theorem it28_7 (f : Nat) : items c28_7 x28_7 = [] := by kernel_rfl
theorem i17_7 (f : Nat) : (Item.l c28_7 nm28_7 N28 (r28_7 f)).Ok tau Try.prog 0 := loop_item tabOk F28_ok mixed (x := x28_7) (nm2 := nx28_7) (anOk_items _ _ (by rw [it28_7 f]; intro q hq; cases hq)) fun vs hp k res hr => by
  unfold r28_7 at hr
  split at hr
  · exact ⟨f, 0, (lpE28_7 f _ f _ _ _ _ ).trans hr⟩
  · cases hr
def g28 (f : Nat) (nl : Bool) (fl : Bool) (b : List PV) (k : Res → Option Res) : Option Res :=
  bif roomy (0 + b.length) 1 && true then
    bif roomy (0 + b.length + 1) 1 && true then
      lp28_0 f (fun x0_0 x1_0 x2_0 x3_0 x4_0 x5_0 x6_0 x7_0 =>
        lp28_1 f (fun x0_1 x1_1 x2_1 x3_1 x4_1 =>
          lp28_2 f (fun x0_6 x1_6 =>
            lp28_7 f (fun x0_7 x1_7 =>
              k (Res.mk (PV.ar 37 x1_7) []
                [])) f (0) x0_6 x1_6 ([PV.sc (Value.int IntKind.u8 0), PV.sc (Value.int IntKind.u8 0), PV.sc (Value.int IntKind.u8 0), PV.sc (Value.int IntKind.u8 0), PV.sc (Value.int IntKind.u8 0),
              PV.sc (Value.int IntKind.u8 0), PV.sc (Value.int IntKind.u8 0), PV.sc (Value.int IntKind.u8 0), PV.sc (Value.int IntKind.u8 0), PV.sc (Value.int IntKind.u8 0),
              PV.sc (Value.int IntKind.u8 0), PV.sc (Value.int IntKind.u8 0), PV.sc (Value.int IntKind.u8 0), PV.sc (Value.int IntKind.u8 0), PV.sc (Value.int IntKind.u8 0),
              PV.sc (Value.int IntKind.u8 0), PV.sc (Value.int IntKind.u8 0), PV.sc (Value.int IntKind.u8 0), PV.sc (Value.int IntKind.u8 0), PV.sc (Value.int IntKind.u8 0),
              PV.sc (Value.int IntKind.u8 0), PV.sc (Value.int IntKind.u8 0), PV.sc (Value.int IntKind.u8 0), PV.sc (Value.int IntKind.u8 0), PV.sc (Value.int IntKind.u8 0),
              PV.sc (Value.int IntKind.u8 0), PV.sc (Value.int IntKind.u8 0), PV.sc (Value.int IntKind.u8 0), PV.sc (Value.int IntKind.u8 0), PV.sc (Value.int IntKind.u8 0),
              PV.sc (Value.int IntKind.u8 0),
              PV.sc
                (Value.int IntKind.u8
                  0)])) f x0_1 (0) x1_1 x2_1 x3_1 x4_1 ([PV.sc (Value.int IntKind.u32 0), PV.sc (Value.int IntKind.u32 0), PV.sc (Value.int IntKind.u32 0), PV.sc (Value.int IntKind.u32 0),
            PV.sc (Value.int IntKind.u32 0), PV.sc (Value.int IntKind.u32 0), PV.sc (Value.int IntKind.u32 0), PV.sc (Value.int IntKind.u32 0), PV.sc (Value.int IntKind.u32 0),
            PV.sc (Value.int IntKind.u32 0), PV.sc (Value.int IntKind.u32 0), PV.sc (Value.int IntKind.u32 0), PV.sc (Value.int IntKind.u32 0), PV.sc (Value.int IntKind.u32 0),
            PV.sc (Value.int IntKind.u32 0), PV.sc (Value.int IntKind.u32 0), PV.sc (Value.int IntKind.u32 0), PV.sc (Value.int IntKind.u32 0), PV.sc (Value.int IntKind.u32 0),
            PV.sc (Value.int IntKind.u32 0), PV.sc (Value.int IntKind.u32 0), PV.sc (Value.int IntKind.u32 0), PV.sc (Value.int IntKind.u32 0), PV.sc (Value.int IntKind.u32 0),
            PV.sc (Value.int IntKind.u32 0), PV.sc (Value.int IntKind.u32 0), PV.sc (Value.int IntKind.u32 0), PV.sc (Value.int IntKind.u32 0), PV.sc (Value.int IntKind.u32 0),
            PV.sc (Value.int IntKind.u32 0), PV.sc (Value.int IntKind.u32 0), PV.sc (Value.int IntKind.u32 0), PV.sc (Value.int IntKind.u32 0), PV.sc (Value.int IntKind.u32 0),
            PV.sc (Value.int IntKind.u32 0), PV.sc (Value.int IntKind.u32 0), PV.sc (Value.int IntKind.u32 0), PV.sc (Value.int IntKind.u32 0), PV.sc (Value.int IntKind.u32 0),
            PV.sc (Value.int IntKind.u32 0), PV.sc (Value.int IntKind.u32 0), PV.sc (Value.int IntKind.u32 0), PV.sc (Value.int IntKind.u32 0), PV.sc (Value.int IntKind.u32 0),
            PV.sc (Value.int IntKind.u32 0), PV.sc (Value.int IntKind.u32 0), PV.sc (Value.int IntKind.u32 0), PV.sc (Value.int IntKind.u32 0), PV.sc (Value.int IntKind.u32 0),
            PV.sc (Value.int IntKind.u32 0), PV.sc (Value.int IntKind.u32 0), PV.sc (Value.int IntKind.u32 0), PV.sc (Value.int IntKind.u32 0), PV.sc (Value.int IntKind.u32 0),
            PV.sc (Value.int IntKind.u32 0), PV.sc (Value.int IntKind.u32 0), PV.sc (Value.int IntKind.u32 0), PV.sc (Value.int IntKind.u32 0), PV.sc (Value.int IntKind.u32 0),
            PV.sc (Value.int IntKind.u32 0), PV.sc (Value.int IntKind.u32 0), PV.sc (Value.int IntKind.u32 0), PV.sc (Value.int IntKind.u32 0),
            PV.sc
              (Value.int IntKind.u32
                0)])) f x3_0 (IntKind.u64.wrap
          (IntKind.u64.wrap (zi x2_0.length) *
            8)) (7) x4_0 x5_0 x6_0 x7_0) f nl fl b (0 + b.length +
        1) ([PV.sc (Value.int IntKind.u8 0), PV.sc (Value.int IntKind.u8 0), PV.sc (Value.int IntKind.u8 0), PV.sc (Value.int IntKind.u8 0), PV.sc (Value.int IntKind.u8 0),
        PV.sc (Value.int IntKind.u8 0), PV.sc (Value.int IntKind.u8 0), PV.sc (Value.int IntKind.u8 0), PV.sc (Value.int IntKind.u8 0), PV.sc (Value.int IntKind.u8 0), PV.sc (Value.int IntKind.u8 0),
        PV.sc (Value.int IntKind.u8 0), PV.sc (Value.int IntKind.u8 0), PV.sc (Value.int IntKind.u8 0), PV.sc (Value.int IntKind.u8 0), PV.sc (Value.int IntKind.u8 0), PV.sc (Value.int IntKind.u8 0),
        PV.sc (Value.int IntKind.u8 0), PV.sc (Value.int IntKind.u8 0), PV.sc (Value.int IntKind.u8 0), PV.sc (Value.int IntKind.u8 0), PV.sc (Value.int IntKind.u8 0), PV.sc (Value.int IntKind.u8 0),
        PV.sc (Value.int IntKind.u8 0), PV.sc (Value.int IntKind.u8 0), PV.sc (Value.int IntKind.u8 0), PV.sc (Value.int IntKind.u8 0), PV.sc (Value.int IntKind.u8 0), PV.sc (Value.int IntKind.u8 0),
        PV.sc (Value.int IntKind.u8 0), PV.sc (Value.int IntKind.u8 0),
        PV.sc
          (Value.int IntKind.u8
            0)]) ([PV.sc (Value.int IntKind.u32 1116352408), PV.sc (Value.int IntKind.u32 1899447441), PV.sc (Value.int IntKind.u32 3049323471), PV.sc (Value.int IntKind.u32 3921009573),
        PV.sc (Value.int IntKind.u32 961987163), PV.sc (Value.int IntKind.u32 1508970993), PV.sc (Value.int IntKind.u32 2453635748), PV.sc (Value.int IntKind.u32 2870763221),
        PV.sc (Value.int IntKind.u32 3624381080), PV.sc (Value.int IntKind.u32 310598401), PV.sc (Value.int IntKind.u32 607225278), PV.sc (Value.int IntKind.u32 1426881987),
        PV.sc (Value.int IntKind.u32 1925078388), PV.sc (Value.int IntKind.u32 2162078206), PV.sc (Value.int IntKind.u32 2614888103), PV.sc (Value.int IntKind.u32 3248222580),
        PV.sc (Value.int IntKind.u32 3835390401), PV.sc (Value.int IntKind.u32 4022224774), PV.sc (Value.int IntKind.u32 264347078), PV.sc (Value.int IntKind.u32 604807628),
        PV.sc (Value.int IntKind.u32 770255983), PV.sc (Value.int IntKind.u32 1249150122), PV.sc (Value.int IntKind.u32 1555081692), PV.sc (Value.int IntKind.u32 1996064986),
        PV.sc (Value.int IntKind.u32 2554220882), PV.sc (Value.int IntKind.u32 2821834349), PV.sc (Value.int IntKind.u32 2952996808), PV.sc (Value.int IntKind.u32 3210313671),
        PV.sc (Value.int IntKind.u32 3336571891), PV.sc (Value.int IntKind.u32 3584528711), PV.sc (Value.int IntKind.u32 113926993), PV.sc (Value.int IntKind.u32 338241895),
        PV.sc (Value.int IntKind.u32 666307205), PV.sc (Value.int IntKind.u32 773529912), PV.sc (Value.int IntKind.u32 1294757372), PV.sc (Value.int IntKind.u32 1396182291),
        PV.sc (Value.int IntKind.u32 1695183700), PV.sc (Value.int IntKind.u32 1986661051), PV.sc (Value.int IntKind.u32 2177026350), PV.sc (Value.int IntKind.u32 2456956037),
        PV.sc (Value.int IntKind.u32 2730485921), PV.sc (Value.int IntKind.u32 2820302411), PV.sc (Value.int IntKind.u32 3259730800), PV.sc (Value.int IntKind.u32 3345764771),
        PV.sc (Value.int IntKind.u32 3516065817), PV.sc (Value.int IntKind.u32 3600352804), PV.sc (Value.int IntKind.u32 4094571909), PV.sc (Value.int IntKind.u32 275423344),
        PV.sc (Value.int IntKind.u32 430227734), PV.sc (Value.int IntKind.u32 506948616), PV.sc (Value.int IntKind.u32 659060556), PV.sc (Value.int IntKind.u32 883997877),
        PV.sc (Value.int IntKind.u32 958139571), PV.sc (Value.int IntKind.u32 1322822218), PV.sc (Value.int IntKind.u32 1537002063), PV.sc (Value.int IntKind.u32 1747873779),
        PV.sc (Value.int IntKind.u32 1955562222), PV.sc (Value.int IntKind.u32 2024104815), PV.sc (Value.int IntKind.u32 2227730452), PV.sc (Value.int IntKind.u32 2361852424),
        PV.sc (Value.int IntKind.u32 2428436474), PV.sc (Value.int IntKind.u32 2756734187), PV.sc (Value.int IntKind.u32 3204031479),
        PV.sc
          (Value.int IntKind.u32
            3329325298)]) ([PV.sc (Value.int IntKind.u32 1779033703), PV.sc (Value.int IntKind.u32 3144134277), PV.sc (Value.int IntKind.u32 1013904242), PV.sc (Value.int IntKind.u32 2773480762),
        PV.sc (Value.int IntKind.u32 1359893119), PV.sc (Value.int IntKind.u32 2600822924), PV.sc (Value.int IntKind.u32 528734635),
        PV.sc (Value.int IntKind.u32 1541459225)]) (List.take (0 + b.length) ([] ++ b) ++ [PV.sc (Value.int IntKind.u8 128)])
    else none
  else none
theorem e28 (f : Nat) (nl : Bool) (fl : Bool) (b : List PV) (k : Res → Option Res) : evFn tau F28 Try.f28 (Try.f28.body.get!) (an28 (r28_0 f) (r28_1 f) (r28_2 f) (r28_7 f)) [] 0 [.ro 5 nl fl b] [] k = g28 f nl fl b k := by kernel_rfl
theorem it28 (f : Nat) : items (Try.f28.body.get!) (an28 (r28_0 f) (r28_1 f) (r28_2 f) (r28_7 f)) = [.l c28_0 nm28_0 N28 (r28_0 f), .l c28_1 nm28_1 N28 (r28_1 f), .l c28_2 nm28_2 N28 (r28_2 f), .l c28_7 nm28_7 N28 (r28_7 f)] := by kernel_rfl
theorem ia28 (f : Nat) : ∀ q ∈ items (Try.f28.body.get!) (an28 (r28_0 f) (r28_1 f) (r28_2 f) (r28_7 f)), q.Ok tau Try.prog 0 := by
  rw [it28 f]; simp only [List.forall_mem_cons, List.not_mem_nil, false_implies, implies_true, and_true]; exact ⟨i17_0 f, i17_1 f, i17_2 f, i17_7 f⟩
theorem fo28 : Try.prog.funcs[28]? = some Try.f28 := by kernel_rfl
theorem bo28 : Try.f28.body = some (Try.f28.body.get!) := by kernel_rfl
theorem en28 : Enters Try.prog 28 := enters_of fo28 (by kernel_rfl) bo28
end Go.Proofs.Ytcklhipdldpkhaa.Rx

-- FN ref2.Sum
/- The document's sum. Own work. -/
namespace Go.Proofs.Ytcklhipdldpkhaa.Rx
open Go
set_option linter.unusedVariables false
set_option maxRecDepth 100000
set_option maxHeartbeats 1000000
theorem getP_nil (v : PV) : getP v [] = v := rfl
theorem getD8' {R : List Int} (h : R.length = 8) (j : Nat) (hj : j < 8) : (pu .u32 R).getD j .top = .sc (.int .u32 (R.getD j 0)) := pu_get (by omega)
theorem m28_0 (f : Nat) (a b : Bool) (c x y w : List PV) (k0 : Bool → Bool → List PV → Nat → List PV → List PV → List PV → List PV → Option Res) : ∀ (d n : Nat) (L : List Int), zs L.length = d → d < n → L.length + d ≤ 140737488355200 →
    lp28_0 f k0 n a b c L.length x y w (pu .u8 L) = k0 a b c (L.length + d) x y w (pu .u8 (L ++ List.replicate d 0))
  | 0, n + 1, L, hd, hn, hL => by
      simp only [lp28_0, lpS28_0, tmod64]
      refine (bif_f (by simp [zs] at hd ⊢; omega)).trans ?_
      simp
  | d + 1, n + 1, L, hd, hn, hL => by
      have hlt : d + 1 < 64 := by rw [← hd]; unfold zs; omega
      have c3 : roomy (L.length + 1) 1 = true := by simp [roomy]; omega
      simp only [lp28_0, lpS28_0, tmod64, c3, Bool.and_true, cond_true, pu_take]
      refine (bif_t (by simp [zs] at hd ⊢; omega)).trans ?_
      rw [List.take_of_length_le (Nat.le_refl _)]
      have := m28_0 f a b c x y w k0 d n (L ++ [0]) (by simp [zs] at hd ⊢; omega) (by omega) (by simp; omega)
      simp only [List.length_append, List.length_cons, List.length_nil, Nat.zero_add, pu_append] at this
      refine this.trans ?_
      rw [show L.length + 1 + d = L.length + (d + 1) from by omega, List.replicate_succ]
      simp
def lenR (N : Int) (i : Nat) : Int := IntKind.u8.wrap (shrI .u64 N (56 - 8 * (i : Int)))
theorem m28_1 (f : Nat) (N : Int) (x y w : List PV) (k0 : Nat → List PV → List PV → List PV → List PV → Option Res) (L : List Int) (hL : L.length ≤ 140737488355300) : ∀ (d i n : Nat), i + d = 8 → d < n →
    lp28_1 f k0 n (L.length + i) N (7 - (i : Int)) x y w (pu .u8 (L ++ (List.range i).map (lenR N))) = k0 (L.length + 8) x y w (pu .u8 (L ++ (List.range 8).map (lenR N)))
  | 0, i, n + 1, h, hn => by
      obtain rfl : i = 8 := by omega
      simp only [lp28_1, lpS28_1]
      exact bif_f (by decide)
  | d + 1, i, n + 1, h, hn => by
      have h1 : IntKind.i64.wrap (7 - (i : Int) - 1) = 7 - ((i + 1 : Nat) : Int) := by rw [wrap_i64 (by omega) (by omega)]; omega
      have h8 : IntKind.u64.wrap (7 - (i : Int)) = 7 - (i : Int) := by rw [wrap_u64_eq]; omega
      have h9 : IntKind.u64.wrap (8 * (7 - (i : Int))) = 56 - 8 * (i : Int) := by rw [wrap_u64_eq]; omega
      have c1 : decide (7 - (i : Int) ≥ 0) = true := by simp; omega
      have c2 : decide (0 ≤ 56 - 8 * (i : Int)) = true := by simp; omega
      have c3 : roomy (L.length + i + 1) 1 = true := by simp [roomy]; omega
      have hlen : (L ++ (List.range i).map (lenR N)).length = L.length + i := by simp
      simp only [lp28_1, lpS28_1, h1, h8, h9, c1, c2, c3, Bool.and_true, cond_true, pu_take]
      rw [List.take_of_length_le (by omega)]
      have := m28_1 f N x y w k0 L hL d (i + 1) n (by omega) (by omega)
      rw [List.range_succ, List.map_append, ← List.append_assoc, pu_append] at this
      exact this
theorem blk_get (P : List Int) (q j : Nat) (hj : j < 64) : ((P.drop (64 * q)).take 64).getD j 0 = P.getD (64 * q + j) 0 := by
  simp [List.getD_eq_getElem?_getD, hj, List.getElem?_drop]
theorem m28_3 (P : List Int) (q : Nat) (hq : 64 * q + 64 ≤ P.length) (hP : P.length ≤ 140737488356000) (T : List Int) (hT : T.length = 64) (f : Nat) (x y w : List PV) (k0 : Nat → Int → List PV → List PV → List PV → List PV → List PV → Option Res) : ∀ (d i n : Nat), i + d = 16 → d < n →
    lp28_3 f k0 n P.length ((64 * q : Nat) : Int) (i : Int) x y w (pu .u8 P) (pu .u32 (fillM (word ((P.drop (64 * q)).take 64)) T i)) = k0 P.length ((64 * q : Nat) : Int) x y w (pu .u8 P) (pu .u32 (fillM (word ((P.drop (64 * q)).take 64)) T 16))
  | 0, i, n + 1, h, hn => by
      obtain rfl : i = 16 := by omega
      simp only [lp28_3, lpS28_3]
      exact bif_f (by decide)
  | d + 1, i, n + 1, h, hn => by
      have h4 : IntKind.i64.wrap (4 * (i : Int)) = ((4 * i : Nat) : Int) := by rw [wrap_i64 (by omega) (by omega)]; omega
      have h40 : IntKind.i64.wrap (((64 * q : Nat) : Int) + ((4 * i : Nat) : Int)) = ((64 * q + 4 * i : Nat) : Int) := by rw [wrap_i64 (by omega) (by omega)]; omega
      have h41 : IntKind.i64.wrap (((64 * q + 4 * i : Nat) : Int) + 1) = ((64 * q + (4 * i + 1) : Nat) : Int) := by rw [wrap_i64 (by omega) (by omega)]; omega
      have h42 : IntKind.i64.wrap (((64 * q + 4 * i : Nat) : Int) + 2) = ((64 * q + (4 * i + 2) : Nat) : Int) := by rw [wrap_i64 (by omega) (by omega)]; omega
      have h43 : IntKind.i64.wrap (((64 * q + 4 * i : Nat) : Int) + 3) = ((64 * q + (4 * i + 3) : Nat) : Int) := by rw [wrap_i64 (by omega) (by omega)]; omega
      have h5 : IntKind.i64.wrap ((i : Int) + 1) = ((i + 1 : Nat) : Int) := by rw [wrap_i64 (by omega) (by omega)]; omega
      simp only [lp28_3, lpS28_3, h4, h40, h41, h42, h43, h5, Int.toNat_natCast, Nat.zero_add, getP_nil, zi]
      rw [pu_isInt (by omega), pu_isInt (by omega), pu_isInt (by omega), pu_isInt (by omega), pu_int (by omega), pu_int (by omega), pu_int (by omega), pu_int (by omega), pu_set]
      refine (bif_t (by simp; omega)).trans ?_
      refine (bif_t (by simp only [Bool.and_true, Bool.and_eq_true, decide_eq_true_eq]; omega)).trans ?_
      refine (bif_t rfl).trans ?_
      refine (bif_t (by simp only [Bool.and_true, Bool.and_eq_true, decide_eq_true_eq]; omega)).trans ?_
      refine (bif_t rfl).trans ?_
      refine (bif_t (by simp only [Bool.and_true, Bool.and_eq_true, decide_eq_true_eq]; omega)).trans ?_
      refine (bif_t rfl).trans ?_
      refine (bif_t (by simp only [Bool.and_true, Bool.and_eq_true, decide_eq_true_eq]; omega)).trans ?_
      refine (bif_t rfl).trans ?_
      refine (bif_t (by simp only [Bool.and_true, Bool.and_eq_true, decide_eq_true_eq]; omega)).trans ?_
      have := m28_3 P q hq hP T hT f x y w k0 d (i + 1) n (by omega) (by omega)
      rw [← fillM_set _ T i (by omega), word, blk_get P q _ (by omega), blk_get P q _ (by omega), blk_get P q _ (by omega), blk_get P q _ (by omega)] at this
      exact this
def fillT (bs T : List Int) (i : Nat) : List Int := sched bs i ++ T.drop (16 + i)
theorem fillT_length (bs T : List Int) (hT : T.length = 64) (i : Nat) (h : i ≤ 48) : (fillT bs T i).length = 64 := by simp [fillT, sched_length, hT]; omega
theorem fillT_get (bs T : List Int) (i j : Nat) (h : j < 16 + i) : (fillT bs T i).getD j 0 = (sched bs i).getD j 0 := by
  simp only [fillT, List.getD_eq_getElem?_getD]
  rw [List.getElem?_append_left (by rw [sched_length]; exact h)]
theorem fillT_set (bs T : List Int) (hT : T.length = 64) (i : Nat) (h : i < 48) (x : Int) : (fillT bs T i).set (i + 16) x = (sched bs i ++ [x]) ++ T.drop (16 + (i + 1)) := by
  rw [fillT, List.set_append_right _ _ (by rw [sched_length]; omega), sched_length, List.drop_eq_getElem_cons (by omega), show i + 16 - (16 + i) = 0 from by omega, List.set_cons_zero]
  simp [Nat.add_assoc]
theorem nxtW_eq (w16 w15 w7 w2 : Int) : ww (ww (ww (sg1 w2 + w7) + sg0 w15) + w16) = nxtW w16 w15 w7 w2 := by
  simp only [nxtW, ww, wrap_u32_eq]; omega
theorem m28_4 (bs T : List Int) (hT : T.length = 64) (f : Nat) (l : Nat) (p : Int) (x y w e : List PV) (k0 : Nat → Int → List PV → List PV → List PV → List PV → List PV → Option Res) : ∀ (d i n : Nat), i + d = 48 → d < n →
    lp28_4 f k0 n l p ((i + 16 : Nat) : Int) x y w e (pu .u32 (fillT bs T i)) = k0 l p x y w e (pu .u32 (spreadP bs))
  | 0, i, n + 1, h, hn => by
      obtain rfl : i = 48 := by omega
      simp only [lp28_4, lpS28_4]
      refine (bif_f (by decide)).trans ?_
      rw [fillT, List.drop_of_length_le (by omega), List.append_nil]; rfl
  | d + 1, i, n + 1, h, hn => by
      have h15 : IntKind.i64.wrap (((i + 16 : Nat) : Int) - 15) = ((i + 1 : Nat) : Int) := by rw [wrap_i64 (by omega) (by omega)]; omega
      have h2 : IntKind.i64.wrap (((i + 16 : Nat) : Int) - 2) = ((i + 14 : Nat) : Int) := by rw [wrap_i64 (by omega) (by omega)]; omega
      have h16 : IntKind.i64.wrap (((i + 16 : Nat) : Int) - 16) = ((i : Nat) : Int) := by rw [wrap_i64 (by omega) (by omega)]; omega
      have h7 : IntKind.i64.wrap (((i + 16 : Nat) : Int) - 7) = ((i + 9 : Nat) : Int) := by rw [wrap_i64 (by omega) (by omega)]; omega
      have h1 : IntKind.i64.wrap (((i + 16 : Nat) : Int) + 1) = ((i + 1 + 16 : Nat) : Int) := by rw [wrap_i64 (by omega) (by omega)]; omega
      have hl := fillT_length bs T hT i (by omega)
      simp only [lp28_4, lpS28_4, h15, h2, h16, h7, h1, Int.toNat_natCast, zi, getP_ar]
      rw [pu_isInt (by omega), pu_isInt (by omega), pu_isInt (by omega), pu_isInt (by omega), pu_int (by omega), pu_int (by omega), pu_int (by omega), pu_int (by omega), pu_set]
      refine (bif_t (by simp; omega)).trans ?_
      refine (bif_t (by simp; omega)).trans ?_
      refine (bif_t rfl).trans ?_
      refine (bif_t (by simp; omega)).trans ?_
      refine (bif_t rfl).trans ?_
      refine (bif_t (by simp; omega)).trans ?_
      refine (bif_t rfl).trans ?_
      refine (bif_t (by simp; omega)).trans ?_
      refine (bif_t rfl).trans ?_
      refine (bif_t (by simp; omega)).trans ?_
      have := m28_4 bs T hT f l p x y w e k0 d (i + 1) n (by omega) (by omega)
      rw [fillT_get bs T i i (by omega), fillT_get bs T i (i + 1) (by omega), fillT_get bs T i (i + 9) (by omega), fillT_get bs T i (i + 14) (by omega), fillT_set bs T hT i (by omega)]
      have hn := nxtW_eq ((sched bs i).getD i 0) ((sched bs i).getD (i + 1) 0) ((sched bs i).getD (i + 9) 0) ((sched bs i).getD (i + 14) 0)
      rw [fillT, sched, ← hn] at this
      exact this
theorem m28_5 (W s : List Int) (hW : W.length = 64) (hs : s.length = 8) (f : Nat) (l : Nat) (p : Int) (x w e : List PV) (k0 : Nat → Int → List PV → List PV → List PV → List PV → List PV → List PV → Option Res) : ∀ (d i n : Nat), i + d = 64 → d < n →
    lp28_5 f k0 n l p (i : Int) x (pu .u32 kks) w e (pu .u32 W) (pu .u32 (rnds W s i)) = k0 l p x (pu .u32 kks) w e (pu .u32 W) (pu .u32 (rnds W s 64))
  | 0, i, n + 1, h, hn => by
      obtain rfl : i = 64 := by omega
      simp only [lp28_5, lpS28_5]
      exact bif_f (by decide)
  | d + 1, i, n + 1, h, hn => by
      have hl := rnds_length W s hs i
      have h1 : IntKind.i64.wrap ((i : Int) + 1) = ((i + 1 : Nat) : Int) := by rw [wrap_i64 (by omega) (by omega)]; omega
      have hk : (pu .u32 kks).getD i .top = .sc (.int .u32 (kks.getD i 0)) := pu_get (by show i < 64; omega)
      have hw : (pu .u32 W).getD i .top = .sc (.int .u32 (W.getD i 0)) := pu_get (by omega)
      have c1 : decide ((i : Int) < 64) = true := by simp; omega
      have c2 : decide (0 ≤ (i : Int)) = true := by simp
      have c3 : decide ((i : Int) < zi 64) = true := by simp; omega
      simp only [lp28_5, lpS28_5, getP_ar, Int.toNat_natCast, h1, hk, hw, c1, c2, c3, getD8' hl 0 (by omega), getD8' hl 1 (by omega), getD8' hl 2 (by omega), getD8' hl 3 (by omega), getD8' hl 4 (by omega), getD8' hl 5 (by omega), getD8' hl 6 (by omega), getD8' hl 7 (by omega), PV.isInt, PV.int, decide_true, Bool.and_true, cond_true]
      exact m28_5 W s hW hs f l p x w e k0 d (i + 1) n (by omega) (by omega)
theorem m28_6 (t s : List Int) (ht : t.length = 8) (hs : s.length = 8) (f : Nat) (l : Nat) (p : Int) (x y e u : List PV) (k0 : Nat → Int → List PV → List PV → List PV → List PV → List PV → Option Res) : ∀ (d i n : Nat), i + d = 8 → d < n →
    lp28_6 f k0 n l p (i : Int) x y (pu .u32 (fillM (fun j => ww (t.getD j 0 + s.getD j 0)) s i)) e u (pu .u32 t) = k0 l p x y (pu .u32 ((List.range 8).map fun j => ww (t.getD j 0 + s.getD j 0))) e u
  | 0, i, n + 1, h, hn => by
      obtain rfl : i = 8 := by omega
      simp only [lp28_6, lpS28_6]
      refine (bif_f (by decide)).trans ?_
      have := fillM_full (fun j => ww (t.getD j 0 + s.getD j 0)) s
      rw [hs] at this; rw [this]
  | d + 1, i, n + 1, h, hn => by
      have hl : (fillM (fun j => ww (t.getD j 0 + s.getD j 0)) s i).length = 8 := by rw [fillM_length _ _ _ (by omega), hs]
      have h1 : IntKind.i64.wrap ((i : Int) + 1) = ((i + 1 : Nat) : Int) := by rw [wrap_i64 (by omega) (by omega)]; omega
      have c1 : decide ((i : Int) < 8) = true := by simp; omega
      have c2 : decide (0 ≤ (i : Int)) = true := by simp
      have c3 : decide ((i : Int) < zi 8) = true := by simp; omega
      have g1 : ((i : Int)).toNat = i := by omega
      simp only [lp28_6, lpS28_6, getP_ar, g1, h1, c1, c2, c3, getD8' hl i (by omega), getD8' ht i (by omega), fillM_get _ s i (by omega), PV.isInt, PV.int, decide_true, Bool.and_true, cond_true, pu_set]
      have := m28_6 t s ht hs f l p x y e u k0 d (i + 1) n (by omega) (by omega)
      rw [← fillM_set _ s i (by omega), Int.add_comm (t.getD i 0)] at this
      exact this
theorem outB0 (s : List Int) (i : Nat) : outB s (4 * i) = IntKind.u8.wrap (shrI .u32 (s.getD i 0) 24) := by
  rw [outB, show 4 * i / 4 = i from by omega, show 4 * i % 4 = 0 from by omega]; rfl
theorem outB1 (s : List Int) (i : Nat) : outB s (4 * i + 1) = IntKind.u8.wrap (shrI .u32 (s.getD i 0) 16) := by
  rw [outB, show (4 * i + 1) / 4 = i from by omega, show (4 * i + 1) % 4 = 1 from by omega]; rfl
theorem outB2 (s : List Int) (i : Nat) : outB s (4 * i + 2) = IntKind.u8.wrap (shrI .u32 (s.getD i 0) 8) := by
  rw [outB, show (4 * i + 2) / 4 = i from by omega, show (4 * i + 2) % 4 = 2 from by omega]; rfl
theorem outB3 (s : List Int) (i : Nat) : outB s (4 * i + 3) = IntKind.u8.wrap (s.getD i 0) := by
  rw [outB, show (4 * i + 3) / 4 = i from by omega, show (4 * i + 3) % 4 = 3 from by omega]
  have : shrI .u32 (s.getD i 0) (24 - 8 * ((3 : Nat) : Int)) = s.getD i 0 := by
    have h0 : (24 - 8 * ((3 : Nat) : Int)) = 0 := by decide
    rw [h0]; simp [shrI]
  rw [this]
theorem m28_7 (s : List Int) (hs : s.length = 8) (f : Nat) (k0 : List PV → List PV → Option Res) (a : List PV) (t : List Int) (ht : t.length = 32) : ∀ (d i n : Nat), i + d = 8 → d < n →
    lp28_7 f k0 n (i : Int) a (pu .u32 s) (pu .u8 (fillM (outB s) t (4 * i))) = k0 a (pu .u8 (outP s))
  | 0, i, n + 1, h, hn => by
      obtain rfl : i = 8 := by omega
      simp only [lp28_7, lpS28_7]
      refine (bif_f (by decide)).trans ?_
      have := fillM_full (outB s) t
      rw [ht] at this; rw [show 4 * 8 = 32 from rfl, this]; rfl
  | d + 1, i, n + 1, h, hn => by
      have h1 : IntKind.i64.wrap ((i : Int) + 1) = ((i + 1 : Nat) : Int) := by rw [wrap_i64 (by omega) (by omega)]; omega
      have h4 : IntKind.i64.wrap (4 * (i : Int)) = ((4 * i : Nat) : Int) := by rw [wrap_i64 (by omega) (by omega)]; omega
      have h41 : IntKind.i64.wrap (((4 * i : Nat) : Int) + 1) = ((4 * i + 1 : Nat) : Int) := by rw [wrap_i64 (by omega) (by omega)]; omega
      have h42 : IntKind.i64.wrap (((4 * i : Nat) : Int) + 2) = ((4 * i + 2 : Nat) : Int) := by rw [wrap_i64 (by omega) (by omega)]; omega
      have h43 : IntKind.i64.wrap (((4 * i : Nat) : Int) + 3) = ((4 * i + 3 : Nat) : Int) := by rw [wrap_i64 (by omega) (by omega)]; omega
      have c1 : decide ((i : Int) < 8) = true := by simp; omega
      have c2 : decide (0 ≤ (i : Int)) = true := by simp
      have c3 : decide ((i : Int) < zi 8) = true := by simp; omega
      have b0 : (decide (0 ≤ ((4 * i : Nat) : Int)) && decide (((4 * i : Nat) : Int) < zi 32) && true) = true := by simp; omega
      have b1 : (decide (0 ≤ ((4 * i + 1 : Nat) : Int)) && decide (((4 * i + 1 : Nat) : Int) < zi 32) && true) = true := by simp; omega
      have b2 : (decide (0 ≤ ((4 * i + 2 : Nat) : Int)) && decide (((4 * i + 2 : Nat) : Int) < zi 32) && true) = true := by simp; omega
      have b3 : (decide (0 ≤ ((4 * i + 3 : Nat) : Int)) && decide (((4 * i + 3 : Nat) : Int) < zi 32) && true) = true := by simp; omega
      have g1 : ((i : Int)).toNat = i := by omega
      have g2 : (((4 * i : Nat) : Int)).toNat = 4 * i := by omega
      have g3 : (((4 * i + 1 : Nat) : Int)).toNat = 4 * i + 1 := by omega
      have g4 : (((4 * i + 2 : Nat) : Int)).toNat = 4 * i + 2 := by omega
      have g5 : (((4 * i + 3 : Nat) : Int)).toNat = 4 * i + 3 := by omega
      simp only [lp28_7, lpS28_7, h1, h4, h41, h42, h43, b0, b1, b2, b3, g1, g2, g3, g4, g5, getP_ar, c1, c2, c3, getD8' hs i (by omega), PV.isInt, PV.int, decide_true, Bool.and_true, cond_true, pu_set]
      have := m28_7 s hs f k0 a t ht d (i + 1) n (by omega) (by omega)
      rw [show 4 * (i + 1) = 4 * i + 3 + 1 from by omega, ← fillM_set (outB s) t (4 * i + 3) (by omega), ← fillM_set (outB s) t (4 * i + 2) (by omega), ← fillM_set (outB s) t (4 * i + 1) (by omega), ← fillM_set (outB s) t (4 * i) (by omega), outB0, outB1, outB2, outB3] at this
      exact this
theorem m28_2 (P : List Int) (m : Nat) (hP : P.length = 64 * m) (hb : P.length ≤ 140737488356000) (f : Nat) (hf : 100 ≤ f) (x : List PV) (k0 : List PV → List PV → Option Res) : ∀ (d i n : Nat) (T : List Int), i + d = m → d < n → T.length = 64 →
    lp28_2 f k0 n P.length ((64 * i : Nat) : Int) x (pu .u32 kks) (pu .u32 (foldB iv P i)) (pu .u8 P) (pu .u32 T) = k0 x (pu .u32 (foldB iv P m))
  | 0, i, n + 1, T, h, hn, hT => by
      obtain rfl : i = m := by omega
      simp only [lp28_2, lpS28_2]
      exact bif_f (by simp [zi]; omega)
  | d + 1, i, n + 1, T, h, hn, hT => by
      have hfl := foldB_length iv P rfl i
      simp only [lp28_2, lpS28_2]
      refine (bif_t (by simp [zi]; omega)).trans ?_
      have e3 := fun kk => m28_3 P i (by omega) hb T hT f x (pu .u32 kks) (pu .u32 (foldB iv P i)) kk 16 0 f (by omega) (by omega)
      have e4 := fun kk => m28_4 ((P.drop (64 * i)).take 64) T hT f P.length ((64 * i : Nat) : Int) x (pu .u32 kks) (pu .u32 (foldB iv P i)) (pu .u8 P) kk 48 0 f (by omega) (by omega)
      have hW : (spreadP ((P.drop (64 * i)).take 64)).length = 64 := sched_length _ 48
      have e5 := fun kk => m28_5 (spreadP ((P.drop (64 * i)).take 64)) (foldB iv P i) hW hfl f P.length ((64 * i : Nat) : Int) x (pu .u32 (foldB iv P i)) (pu .u8 P) kk 64 0 f (by omega) (by omega)
      have e6 := fun kk => m28_6 (rnds (spreadP ((P.drop (64 * i)).take 64)) (foldB iv P i) 64) (foldB iv P i) (rnds_length _ _ hfl 64) hfl f P.length ((64 * i : Nat) : Int) x (pu .u32 kks) (pu .u8 P) (pu .u32 (spreadP ((P.drop (64 * i)).take 64))) kk 8 0 f (by omega) (by omega)
      have h0 : fillM (word ((P.drop (64 * i)).take 64)) T 16 = fillT ((P.drop (64 * i)).take 64) T 0 := rfl
      rw [fillM_zero] at e6
      simp only [fillM_zero] at e3
      refine (e3 _).trans ?_
      rw [h0]
      refine (e4 _).trans ?_
      refine (e5 _).trans ?_
      refine (e6 _).trans ?_
      have h1 : IntKind.i64.wrap (((64 * i : Nat) : Int) + 64) = ((64 * (i + 1) : Nat) : Int) := by rw [wrap_i64 (by omega) (by omega)]; omega
      rw [h1]
      exact m28_2 P m hP hb f hf x k0 d (i + 1) n (spreadP ((P.drop (64 * i)).take 64)) (by omega) (by omega) hW
theorem g28_eq (bs : List Int) (hb : bs.length ≤ 140737488355000) (nl fl : Bool) (k : Res → Option Res) : g28 ((padP bs).length / 64 + 100) nl fl (pu .u8 bs) k = k ⟨.ar 37 (pu .u8 (sumP bs)), [], []⟩ := by
  rw [sumP_eq]
  have hlen : (padP bs).length = bs.length + 1 + zs (bs.length + 1) + 8 := by simp [padP, lenB]; omega
  have hz : zs (bs.length + 1) < 64 := by unfold zs; omega
  have h64 : (padP bs).length = 64 * ((padP bs).length / 64) := padP_length bs
  generalize hf : (padP bs).length / 64 + 100 = f
  refine (bif_t (by simp [roomy]; omega)).trans ?_
  refine (bif_t (by simp [roomy]; omega)).trans ?_
  have hL : List.take (0 + (pu .u8 bs).length) ([] ++ pu .u8 bs) ++ [PV.sc (Value.int IntKind.u8 128)] = pu .u8 (bs ++ [128]) := by
    rw [List.take_of_length_le (by simp)]; simp
  rw [hL]
  have e0 := fun kk x y w => m28_0 f nl fl (pu .u8 bs) x y w kk (zs (bs.length + 1)) f (bs ++ [128]) (by simp) (by omega) (by simp; omega)
  simp only [List.length_append, List.length_cons, List.length_nil, Nat.zero_add] at e0
  have hl1 : 0 + (pu .u8 bs).length + 1 = bs.length + 1 := by simp
  rw [hl1]
  refine (e0 _ _ _ _).trans ?_
  have e1 := fun kk x y w => m28_1 f (IntKind.u64.wrap (IntKind.u64.wrap (zi (pu .u8 bs).length) * 8)) x y w kk (bs ++ [128] ++ List.replicate (zs (bs.length + 1)) 0) (by simp; omega) 8 0 f (by omega) (by omega)
  have hl2 : (bs ++ [128] ++ List.replicate (zs (bs.length + 1)) 0).length = bs.length + 1 + zs (bs.length + 1) := by simp; omega
  rw [hl2] at e1
  simp only [List.range_zero, List.map_nil, List.append_nil, Nat.add_zero] at e1
  refine (e1 _ _ _ _).trans ?_
  have hPd : bs ++ [128] ++ List.replicate (zs (bs.length + 1)) 0 ++ (List.range 8).map (lenR (IntKind.u64.wrap (IntKind.u64.wrap (zi (pu .u8 bs).length) * 8))) = padP bs := by
    rw [pu_length]; rfl
  rw [hPd, ← hlen]
  have e2 := fun kk x => m28_2 (padP bs) ((padP bs).length / 64) h64 (by omega) f (by omega) x kk ((padP bs).length / 64) 0 f (List.replicate 64 0) (by omega) (by omega) (by simp)
  refine (e2 _ _).trans ?_
  have hfl := foldB_length iv (padP bs) rfl ((padP bs).length / 64)
  have e7 := fun kk a => m28_7 (foldB iv (padP bs) ((padP bs).length / 64)) hfl f kk a (List.replicate 32 0) (by simp) 8 0 f (by omega) (by omega)
  simp only [Nat.mul_zero, fillM_zero] at e7
  exact e7 _ _
def run28' : List PV → List Ent → (Res → Option Res) → Option Res
  | [.ro 5 nl fl b], [], k => bif allInt .u8 b && decide (b.length ≤ 140737488355000) then k ⟨.ar 37 (pu .u8 (sumP (ints b))), [], []⟩ else none
  | _, _, _ => none
def s28' : Sig := { own := [], run := run28' }
theorem ok28' : CallOk tau Try.prog 28 s28' := fn_ok2 tabOk F28_ok mixed fo28 bo28 (fun n => an28 (r28_0 n) (r28_1 n) (r28_2 n) (r28_7 n)) [] 0 [] run28' (fun n => ia28 n) fun xs es k res hr => by
  unfold run28' at hr
  split at hr
  · rename_i nl fl l
    obtain ⟨hc, hr⟩ := of_bif hr
    simp only [Bool.and_eq_true, decide_eq_true_eq] at hc
    refine ⟨rfl, (padP (ints l)).length / 64 + 100, 0, (e28 _ _ _ _ _).trans ?_⟩
    have he := pu_ints hc.1
    have := g28_eq (ints l) (by simpa using hc.2) nl fl k
    rw [← he] at this
    rw [this]; exact hr
  · cases hr
end Go.Proofs.Ytcklhipdldpkhaa.Rx

/- What comitia/comitialaw2.ShaLong computes. Own work, printed by a program of the worker's own. -/
namespace Go.Proofs.Ytcklhipdldpkhaa.Rx
open Go
set_option linter.unusedVariables false
set_option maxRecDepth 100000
set_option maxHeartbeats 0
def N5 : Nat := 52
noncomputable def F5 : Fns := addF 28 s28' (addF 27 s27' (addF 26 s26' (addF 25 s25 (F0))))
theorem F5_ok : FnsOk tau Try.prog F5 := ((((F0_ok).add ok25 en25).add ok26' en26).add ok27' en27).add ok28' en28
noncomputable def c5_0 : Code := subC (Try.f5.body.get!) [1, 1, 1, 1, 0, 1, 0, 0]
def nm5_0 : Nm := [(0, .any), (1, .any), (2, .any), (3, .any), (9, .any), (10, .any)]
def nx5_0 : Nm := [(0, .any), (2, .any), (3, .any), (9, .any)]
def x5_0 : An := (.seq (.seq .leaf (.cond .leaf .leaf)) (.seq (.block none .leaf) .leaf))
def an5 (r0 : RunL) : An := (.seq .leaf (.seq (.seq .leaf (.cond (.seq .leaf .leaf) .leaf)) (.seq .leaf (.seq .leaf (.seq (.seq .leaf (.block none (.sum nm5_0 N5 r0))) (.seq (.seq .leaf (.cond (.seq .leaf .leaf) .leaf)) (.seq (.seq .leaf (.cond .leaf .leaf)) (.seq .leaf .leaf))))))))
noncomputable def lpS5_0 (f : Nat) (rc : Int → Int → Int → Int → Nat → Nat → Int → List
  PV → Option Res) (k0 : Int → Int → Int → Nat → Nat → List PV → Option Res) (v0 : Int) (v1 : Int) (v2 : Int) (v3 : Int) (v4 : Nat) (v5 : Nat) (v6 : Int) (v7 : List PV) : Option Res :=
  bif decide (v6 < v0) then
    bif decide (0 ≤ v6) && decide (v6 < zi v4) && true then
      rc v0 v1 v2 v3 v4 v5 (IntKind.i64.wrap (v6 + 1)) (v7.set (0 + v6.toNat) (PV.sc (Value.int IntKind.u8 (IntKind.u8.wrap (v1 + IntKind.u8.wrap v6)))))
    else none
  else k0 v0 v2 v3 v4 v5 v7
noncomputable def lp5_0 (f : Nat) (k0 : Int → Int → Int → Nat → Nat → List PV → Option Res) : Nat → Int → Int → Int → Int → Nat → Nat → Int → List PV → Option Res
  | 0, _, _, _, _, _, _, _, _ => none
  | n + 1, v0, v1, v2, v3, v4, v5, v6, v7 => lpS5_0 f (lp5_0 f k0 n) k0 v0 v1 v2 v3 v4 v5 v6 v7
theorem lpR5_0 (f : Nat) (k : Kont) (n : Nat) (v0 : Int) (v1 : Int) (v2 : Int) (v3 : Int) (v4 : Nat) (v5 : Nat) (v6 : Int) (v7 : List
  PV) : evLoop tau 0 nm5_0 (fun s k => ev tau F5 0 0 c5_0 (x5_0 ) s k) (n + 1) (fillS nm5_0 N5 [PV.sc (Value.int IntKind.i64 v0), PV.sc (Value.int IntKind.u8 v1),
  PV.sc (Value.int IntKind.i64 v2), PV.sc (Value.int IntKind.u8 v3), PV.ow 5 848 [] 0 v4 (some v5),
  PV.sc
    (Value.int IntKind.i64
      v6)] [(848,
    Ent.vec false 5 false
      v7)]) (kNorm tau 0 nx5_0 k) = lpS5_0 f (fun v0 v1 v2 v3 v4 v5 v6 v7 => evLoop tau 0 nm5_0 (fun s k => ev tau F5 0 0 c5_0 (x5_0 ) s k) n (fillS nm5_0 N5 [PV.sc (Value.int IntKind.i64 v0),
  PV.sc (Value.int IntKind.u8 v1), PV.sc (Value.int IntKind.i64 v2), PV.sc (Value.int IntKind.u8 v3), PV.ow 5 848 [] 0 v4 (some v5),
  PV.sc
    (Value.int IntKind.i64
      v6)] [(848,
    Ent.vec false 5 false
      v7)]) (kNorm tau 0 nx5_0 k)) (fun x0 x1 x2 x3 x4 x5 => k (Ex.exit
  0) (fillS nx5_0 N5 [PV.sc (Value.int IntKind.i64 x0), PV.sc (Value.int IntKind.i64 x1), PV.sc (Value.int IntKind.u8 x2),
  PV.ow 5 848 [] 0 x3 (some x4)] [(848, Ent.vec false 5 false x5)])) v0 v1 v2 v3 v4 v5 v6 v7 := by kernel_rfl
theorem lpE5_0 (f : Nat) (k : Kont) : ∀ (n : Nat) (v0 : Int) (v1 : Int) (v2 : Int) (v3 : Int) (v4 : Nat) (v5 : Nat) (v6 : Int) (v7 : List
  PV), evLoop tau 0 nm5_0 (fun s k => ev tau F5 0 0 c5_0 (x5_0 ) s k) n (fillS nm5_0 N5 [PV.sc (Value.int IntKind.i64 v0), PV.sc (Value.int IntKind.u8 v1), PV.sc (Value.int IntKind.i64 v2),
  PV.sc (Value.int IntKind.u8 v3), PV.ow 5 848 [] 0 v4 (some v5),
  PV.sc
    (Value.int IntKind.i64
      v6)] [(848,
    Ent.vec false 5 false
      v7)]) (kNorm tau 0 nx5_0 k) = lp5_0 f (fun x0 x1 x2 x3 x4 x5 => k (Ex.exit
  0) (fillS nx5_0 N5 [PV.sc (Value.int IntKind.i64 x0), PV.sc (Value.int IntKind.i64 x1), PV.sc (Value.int IntKind.u8 x2),
  PV.ow 5 848 [] 0 x3 (some x4)] [(848, Ent.vec false 5 false x5)])) n v0 v1 v2 v3 v4 v5 v6 v7
  | 0, _, _, _, _, _, _, _, _ => rfl
  | n + 1, v0, v1, v2, v3, v4, v5, v6, v7 => (lpR5_0 f k n v0 v1 v2 v3 v4 v5 v6 v7).trans (congrArg (fun r => lpS5_0 f r (fun x0 x1 x2 x3 x4 x5 => k (Ex.exit
  0) (fillS nx5_0 N5 [PV.sc (Value.int IntKind.i64 x0), PV.sc (Value.int IntKind.i64 x1), PV.sc (Value.int IntKind.u8 x2),
  PV.ow 5 848 [] 0 x3 (some x4)] [(848, Ent.vec false 5 false x5)])) v0 v1 v2 v3 v4 v5 v6 v7) (by funext v0 v1 v2 v3 v4 v5 v6 v7; exact lpE5_0 f k n v0 v1 v2 v3 v4 v5 v6 v7))
noncomputable def r5_0 (f : Nat) : List PV → List (Nat × Ent) → Kont → Option Res
  | [PV.sc (Value.int IntKind.i64 v0), PV.sc (Value.int IntKind.u8 v1), PV.sc (Value.int IntKind.i64 v2), PV.sc (Value.int IntKind.u8 v3), PV.ow 5 848 [] 0 v4 (some v5),
  PV.sc
    (Value.int IntKind.i64
      v6)], [(848,
    Ent.vec false 5 false
      v7)], k => lp5_0 f (fun x0 x1 x2 x3 x4 x5 => k (Ex.exit
  0) (fillS nx5_0 N5 [PV.sc (Value.int IntKind.i64 x0), PV.sc (Value.int IntKind.i64 x1), PV.sc (Value.int IntKind.u8 x2),
  PV.ow 5 848 [] 0 x3 (some x4)] [(848, Ent.vec false 5 false x5)])) f v0 v1 v2 v3 v4 v5 v6 v7
  | _, _, _ => none
theorem it5_0 (f : Nat) : items c5_0 x5_0 = [] := by kernel_rfl
theorem i5_0 (f : Nat) : (Item.l c5_0 nm5_0 N5 (r5_0 f)).Ok tau Try.prog 0 := loop_item tabOk F5_ok mixed (x := x5_0) (nm2 := nx5_0) (anOk_items _ _ (by rw [it5_0 f]; intro q hq; cases hq)) fun vs hp k res hr => by
  unfold r5_0 at hr
  split at hr
  · exact ⟨f, 0, (lpE5_0 f _ f _ _ _ _ _ _ _ _ ).trans hr⟩
  · cases hr
noncomputable def g5 (f : Nat) (n : Int) (by1 : Int) (at1 : Int) (turn : Int) (k : Res → Option Res) : Option Res :=
  bif decide (0 ≤ n % 300) && decide (n % 300 ≤ n % 300) && decide (n % 300 * zi 1 ≤ 140737488355328) && true then
    lp5_0 f (fun x0_0 x1_0 x2_0 x3_0 x4_0 x5_0 =>
      bif allInt IntKind.u8 (flat [PV.ro 5 false false (List.take x3_0 x5_0)]) && decide ((flat [PV.ro 5 false false (List.take x3_0 x5_0)]).length ≤ 140737488355000) then
        bif allInt IntKind.u8 (List.take x3_0 x5_0) && decide ((List.take x3_0 x5_0).length ≤ 140737488355000) then
          bif decide ((pu IntKind.u8 (sumP (ints (flat [PV.ro 5 false false (List.take x3_0 x5_0)])))).length = 32) && decide ((pu IntKind.u8 (sumP (ints (List.take x3_0 x5_0)))).length = 32) &&
                allInt IntKind.u8 (pu IntKind.u8 (sumP (ints (flat [PV.ro 5 false false (List.take x3_0 x5_0)])))) &&
              allInt IntKind.u8 (pu IntKind.u8 (sumP (ints (List.take x3_0 x5_0)))) &&
            true then
            bif !eqInts (pu IntKind.u8 (sumP (ints (flat [PV.ro 5 false false (List.take x3_0 x5_0)])))) (pu IntKind.u8 (sumP (ints (List.take x3_0 x5_0)))) then
              k (Res.mk (PV.sc (Value.bool false)) [] [])
            else bif decide (x0_0 > 0) then
              bif decide (0 < x0_0) && decide (x0_0 < 1000000000000) then
                bif decide (0 ≤ x1_0 % x0_0) && decide (x1_0 % x0_0 < zi x3_0) && true then
                  bif PV.isInt IntKind.u8 (getP (x5_0.getD (0 + (x1_0 % x0_0).toNat) PV.top) []) && true then
                    bif decide (0 ≤ x1_0 % x0_0) && decide (x1_0 % x0_0 < zi x3_0) && true then
                      bif allInt IntKind.u8
                          (flat
                            [PV.ro 5 false false
                                (List.take x3_0
                                  (x5_0.set (0 + (x1_0 % x0_0).toNat) (PV.sc (Value.int IntKind.u8 (IntKind.u8.wrap ((getP (x5_0.getD (0 + (x1_0 % x0_0).toNat) PV.top) []).int + x2_0))))))]) &&
                        decide
                          ((flat
                                [PV.ro 5 false false
                                    (List.take x3_0
                                      (x5_0.set (0 + (x1_0 % x0_0).toNat)
                                        (PV.sc (Value.int IntKind.u8 (IntKind.u8.wrap ((getP (x5_0.getD (0 + (x1_0 % x0_0).toNat) PV.top) []).int + x2_0))))))]).length ≤
                            140737488355000) then
                        bif allInt IntKind.u8
                            (List.take x3_0
                              (x5_0.set (0 + (x1_0 % x0_0).toNat) (PV.sc (Value.int IntKind.u8 (IntKind.u8.wrap ((getP (x5_0.getD (0 + (x1_0 % x0_0).toNat) PV.top) []).int + x2_0)))))) &&
                          decide
                            ((List.take x3_0
                                  (x5_0.set (0 + (x1_0 % x0_0).toNat) (PV.sc (Value.int IntKind.u8 (IntKind.u8.wrap ((getP (x5_0.getD (0 + (x1_0 % x0_0).toNat) PV.top) []).int + x2_0)))))).length ≤
                              140737488355000) then
                          bif decide
                                    ((pu IntKind.u8
                                          (sumP
                                            (ints
                                              (flat
                                                [PV.ro 5 false false
                                                    (List.take x3_0
                                                      (x5_0.set (0 + (x1_0 % x0_0).toNat)
                                                        (PV.sc (Value.int IntKind.u8 (IntKind.u8.wrap ((getP (x5_0.getD (0 + (x1_0 % x0_0).toNat) PV.top) []).int + x2_0))))))])))).length =
                                      32) &&
                                  decide
                                    ((pu IntKind.u8
                                          (sumP
                                            (ints
                                              (List.take x3_0
                                                (x5_0.set (0 + (x1_0 % x0_0).toNat)
                                                  (PV.sc (Value.int IntKind.u8 (IntKind.u8.wrap ((getP (x5_0.getD (0 + (x1_0 % x0_0).toNat) PV.top) []).int + x2_0))))))))).length =
                                      32) &&
                                allInt IntKind.u8
                                  (pu IntKind.u8
                                    (sumP
                                      (ints
                                        (flat
                                          [PV.ro 5 false false
                                              (List.take x3_0
                                                (x5_0.set (0 + (x1_0 % x0_0).toNat)
                                                  (PV.sc (Value.int IntKind.u8 (IntKind.u8.wrap ((getP (x5_0.getD (0 + (x1_0 % x0_0).toNat) PV.top) []).int + x2_0))))))])))) &&
                              allInt IntKind.u8
                                (pu IntKind.u8
                                  (sumP
                                    (ints
                                      (List.take x3_0
                                        (x5_0.set (0 + (x1_0 % x0_0).toNat) (PV.sc (Value.int IntKind.u8 (IntKind.u8.wrap ((getP (x5_0.getD (0 + (x1_0 % x0_0).toNat) PV.top) []).int + x2_0))))))))) &&
                            true then
                            k (Res.mk
                              (PV.sc
                                (Value.bool
                                  (eqInts
                                    (pu IntKind.u8
                                      (sumP
                                        (ints
                                          (flat
                                            [PV.ro 5 false false
                                                (List.take x3_0
                                                  (x5_0.set (0 + (x1_0 % x0_0).toNat)
                                                    (PV.sc (Value.int IntKind.u8 (IntKind.u8.wrap ((getP (x5_0.getD (0 + (x1_0 % x0_0).toNat) PV.top) []).int + x2_0))))))]))))
                                    (pu IntKind.u8
                                      (sumP
                                        (ints
                                          (List.take x3_0
                                            (x5_0.set (0 + (x1_0 % x0_0).toNat)
                                              (PV.sc (Value.int IntKind.u8 (IntKind.u8.wrap ((getP (x5_0.getD (0 + (x1_0 % x0_0).toNat) PV.top) []).int + x2_0))))))))))))
                              [] [])
                          else none
                        else none
                      else none
                    else none
                  else none
                else none
              else none
            else bif allInt IntKind.u8 (flat [PV.ro 5 false false (List.take x3_0 x5_0)]) && decide ((flat [PV.ro 5 false false (List.take x3_0 x5_0)]).length ≤ 140737488355000) then
              bif allInt IntKind.u8 (List.take x3_0 x5_0) && decide ((List.take x3_0 x5_0).length ≤ 140737488355000) then
                bif decide ((pu IntKind.u8 (sumP (ints (flat [PV.ro 5 false false (List.take x3_0 x5_0)])))).length = 32) && decide ((pu IntKind.u8 (sumP (ints (List.take x3_0 x5_0)))).length = 32) &&
                      allInt IntKind.u8 (pu IntKind.u8 (sumP (ints (flat [PV.ro 5 false false (List.take x3_0 x5_0)])))) &&
                    allInt IntKind.u8 (pu IntKind.u8 (sumP (ints (List.take x3_0 x5_0)))) &&
                  true then
                  k (Res.mk (PV.sc (Value.bool (eqInts (pu IntKind.u8 (sumP (ints (flat [PV.ro 5 false false (List.take x3_0 x5_0)])))) (pu IntKind.u8 (sumP (ints (List.take x3_0 x5_0))))))) [] [])
                else none
              else none
            else none
          else none
        else none
      else none) f (n % 300) by1 at1 turn ((n % 300).toNat) ((n % 300).toNat) (0) (List.replicate (n % 300).toNat (PV.sc (Value.int IntKind.u8 0)))
  else none
theorem e5 (f : Nat) (n : Int) (by1 : Int) (at1 : Int) (turn : Int) (k : Res → Option Res) : evFn tau F5 Try.f5 (Try.f5.body.get!) (an5 (r5_0 f)) [.ro] 0 [.sc (.int .i64 n), .sc (.int .u8 by1), .sc (.int .i64 at1), .sc (.int .u8 turn)] [] k = g5 f n by1 at1 turn k := by kernel_rfl
theorem it5 (f : Nat) : items (Try.f5.body.get!) (an5 (r5_0 f)) = [.l c5_0 nm5_0 N5 (r5_0 f)] := by kernel_rfl
theorem ia5 (f : Nat) : ∀ q ∈ items (Try.f5.body.get!) (an5 (r5_0 f)), q.Ok tau Try.prog 0 := by
  rw [it5 f]; simp only [List.forall_mem_cons, List.not_mem_nil, false_implies, implies_true, and_true]; exact i5_0 f
theorem fo5 : Try.prog.funcs[5]? = some Try.f5 := by kernel_rfl
theorem bo5 : Try.f5.body = some (Try.f5.body.get!) := by kernel_rfl
theorem en5 : Enters Try.prog 5 := enters_of fo5 (by kernel_rfl) bo5
end Go.Proofs.Ytcklhipdldpkhaa.Rx

/- What the types say of what is handed in. Own work. -/
namespace Go.Proofs.Ytcklhipdldpkhaa.Rx
open Go
set_option linter.unusedVariables false
set_option linter.unusedSimpArgs false
set_option maxRecDepth 100000
theorem tyL1 {τ : Tab} {m : Nat} {a : TypeId} {pvs : List PV} (h : TyL τ m [a] pvs) : ∃ p, pvs = [p] ∧ Ty τ m a p := by
  match pvs, h with
  | [p], h => exact ⟨p, rfl, h.1⟩
theorem tyL2 {τ : Tab} {m : Nat} {a b : TypeId} {pvs : List PV} (h : TyL τ m [a, b] pvs) : ∃ p q, pvs = [p, q] ∧ Ty τ m a p ∧ Ty τ m b q := by
  match pvs, h with
  | [p, q], h => exact ⟨p, q, rfl, h.1, h.2.1⟩
theorem tyL3 {τ : Tab} {m : Nat} {a b c : TypeId} {pvs : List PV} (h : TyL τ m [a, b, c] pvs) : ∃ p q r, pvs = [p, q, r] ∧ Ty τ m a p ∧ Ty τ m b q ∧ Ty τ m c r := by
  match pvs, h with
  | [p, q, r], h => exact ⟨p, q, r, rfl, h.1, h.2.1, h.2.2.1⟩
theorem tyL4 {τ : Tab} {m : Nat} {a b c d : TypeId} {pvs : List PV} (h : TyL τ m [a, b, c, d] pvs) : ∃ p q r s, pvs = [p, q, r, s] ∧ Ty τ m a p ∧ Ty τ m b q ∧ Ty τ m c r ∧ Ty τ m d s := by
  match pvs, h with
  | [p, q, r, s], h => exact ⟨p, q, r, s, rfl, h.1, h.2.1, h.2.2.1, h.2.2.2.1⟩
theorem inR_wf {l : List PV} (h : ∀ x ∈ ints l, (Lit.int .u8 x).wf = true) : inR (ints l) = true := by
  refine List.all_eq_true.2 fun x hx => ?_
  have := h x hx
  have e1 : IntKind.u8.min = 0 := rfl
  have e2 : IntKind.u8.max = 255 := rfl
  simp only [Lit.wf, e1, e2, Bool.and_eq_true, decide_eq_true_eq] at this
  simp only [Bool.and_eq_true, decide_eq_true_eq]
  omega
theorem flat_len_le (m : Nat) : ∀ (l : List PV), (∀ p ∈ l, p.els.length ≤ m) → (flat l).length ≤ l.length * m
  | [], h => by simp
  | p :: ps, h => by
      rw [flat_cons, List.length_append, List.length_cons, Nat.add_mul]
      have h1 := h p List.mem_cons_self
      have h2 := flat_len_le m ps fun q hq => h q (List.mem_cons_of_mem _ hq)
      omega
/-- rows of bytes, by their type -/
theorem ty_rows {n : Nat} (l : List PV) (h : ∀ q ∈ l, Ty tau (n + 2) 29 q) : l.all (PV.isRo 5) = true ∧ allInt .u8 (flat l) = true := by
  have u1 : tau.und 29 = some (.slice 5) := by kernel_rfl
  have u2 : tau.und 5 = some (.int .u8) := by kernel_rfl
  induction l with
  | nil => exact ⟨rfl, rfl⟩
  | cons p ps ih =>
    obtain ⟨i1, i2⟩ := ih fun q hq => h q (List.mem_cons_of_mem _ hq)
    obtain ⟨nl, els, rfl, _, _, t⟩ := ty_slice u1 (h p List.mem_cons_self)
    refine ⟨by simp [PV.isRo, i1], ?_⟩
    rw [flat_cons, allInt_append, i2]
    simp only [PV.els, Bool.and_true]
    exact ty_ints u2 els t
theorem flat_one (e : TypeId) (a b : Bool) (l : List PV) : flat [.ro e a b l] = l := by simp [PV.els]
theorem flat_two (e : TypeId) (a b c d : Bool) (l m : List PV) : flat [.ro e a b l, .ro e c d m] = l ++ m := by simp [PV.els]
end Go.Proofs.Ytcklhipdldpkhaa.Rx

-- FN law2.ShaLong
/- ShaLong: bytes of each length, turned at one place, too, are summed as the document says. Own work. -/
namespace Go.Proofs.Ytcklhipdldpkhaa.Rx
open Go
set_option linter.unusedVariables false
set_option linter.unusedSimpArgs false
set_option maxRecDepth 100000
set_option maxHeartbeats 1000000
theorem l5_0 (N : Nat) (hN : N < 300) (f : Nat) (k0 : Int → Int → Int → Nat → Nat → List PV → Option Res) (a b c : Int) (R : Option Res)
    (hk : ∀ L : List Int, L.length = N → k0 N b c N N (pu .u8 L) = R) : ∀ (d i n : Nat) (L : List Int), i + d = N → d < n → L.length = N →
    lp5_0 f k0 n (N : Int) a b c N N (i : Int) (pu .u8 L) = R
  | 0, i, n + 1, L, h, hn, hL => by
      simp only [lp5_0, lpS5_0]
      exact (bif_f (by simp; omega)).trans (hk L hL)
  | d + 1, i, n + 1, L, h, hn, hL => by
      have g1 : ((i : Int)).toNat = i := by omega
      have w1 : IntKind.i64.wrap ((i : Int) + 1) = ((i + 1 : Nat) : Int) := by rw [wrap_i64 (by omega) (by omega)]; omega
      simp only [lp5_0, lpS5_0, g1, w1, pu_set]
      refine (bif_t (by simp; omega)).trans ((bif_t (by simp [zi]; omega)).trans ?_)
      exact l5_0 N hN f k0 a b c R hk d (i + 1) n _ (by omega) (by omega) (by simpa using hL)
theorem g5_true (fu : Nat) (hfu : 300 < fu) (n b a t : Int) (k : Res → Option Res) : g5 fu n b a t k = k ⟨.sc (.bool true), [], []⟩ := by
  have h0 := Int.emod_nonneg n (show (300 : Int) ≠ 0 by decide)
  have h1 := Int.emod_lt_of_pos n (show (0 : Int) < 300 by decide)
  unfold g5
  obtain ⟨N, hN⟩ := Int.eq_ofNat_of_zero_le h0
  rw [hN] at h1 ⊢
  have g1 : ((N : Int)).toNat = N := by omega
  rw [g1, pu_replicate]
  refine (bif_t (by simp [zi]; omega)).trans ?_
  refine l5_0 N (by omega) fu _ b a t _ (fun L hL => ?_) N 0 fu _ (by omega) (by omega) (by simp)
  have hs : ∀ l : List Int, (sumP l).length = 32 := sumP_length
  have ht : ∀ l : List Int, l.length = N → List.take N (pu .u8 l) = pu .u8 l := fun l h => List.take_of_length_le (by simp; omega)
  simp only [flat_one, ht L hL, allInt_pu, pu_length, hs, ints_pu, eqInts_pu, beq_self_eq_true, Bool.not_true, Bool.true_and, Bool.and_true, decide_true, cond_true, cond_false]
  have d0 : decide (L.length ≤ 140737488355000) = true := by simp; omega
  simp only [d0, cond_true]
  by_cases hp : (N : Int) > 0
  · have e0 := Int.emod_nonneg a (show (N : Int) ≠ 0 by omega)
    have e1 := Int.emod_lt_of_pos a hp
    obtain ⟨j, hj⟩ := Int.eq_ofNat_of_zero_le e0
    rw [hj] at e1
    have g2 : ((j : Int)).toNat = j := by omega
    have hjL : j < L.length := by omega
    refine (bif_t (by simpa using hp)).trans ((bif_t (by simp; omega)).trans ?_)
    simp only [hj, g2, Nat.zero_add, pu_set]
    refine (bif_t (by simp [zi]; omega)).trans ((bif_t (show PV.isInt .u8 ((pu .u8 L).getD j .top) = true from pu_isInt hjL)).trans ((bif_t (by simp [zi]; omega)).trans ?_))
    simp only [ht _ (show (L.set j _).length = N by simpa using hL), allInt_pu, pu_length, List.length_set, d0, Bool.true_and, Bool.and_true, cond_true]
  · exact bif_f (by simpa using hp)
noncomputable def run5' : List PV → List Ent → (Res → Option Res) → Option Res
  | [.sc (.int .i64 n), .sc (.int .u8 b), .sc (.int .i64 a), .sc (.int .u8 t)], [], k => k ⟨.sc (.bool true), [], []⟩
  | _, _, _ => none
noncomputable def s5' : Sig := { own := [], run := run5' }
theorem ok5' : CallOk tau Try.prog 5 s5' := CallOk.mk' fun xs es k res hl hr => by
  change run5' xs es k = some res at hr
  unfold run5' at hr
  split at hr
  · rename_i n b a t
    exact fn_at tabOk F5_ok mixed fo5 bo5 (an5 (r5_0 400)) [.ro] 0 0 (ia5 400) hl rfl ((e5 400 n b a t k).trans ((g5_true 400 (by decide) n b a t k).trans hr))
  · cases hr
theorem run5_true : ∀ pvs, TyL tau 4 [3, 5, 3, 5] pvs → s5'.run pvs [] some = some ⟨.sc (.bool true), [], []⟩ := by
  intro pvs h
  obtain ⟨p, q, r, s, rfl, h1, h2, h3, h4⟩ := tyL4 h
  have u1 : tau.und 3 = some (.int .i64) := by kernel_rfl
  have u2 : tau.und 5 = some (.int .u8) := by kernel_rfl
  obtain ⟨x1, rfl, _⟩ := ty_int u1 h1
  obtain ⟨x2, rfl, _⟩ := ty_int u2 h2
  obtain ⟨x3, rfl, _⟩ := ty_int u1 h3
  obtain ⟨x4, rfl, _⟩ := ty_int u2 h4
  rfl
end Go.Proofs.Ytcklhipdldpkhaa.Rx
