/- What the functions of this law compute, and their plain laws. Conditions: none. -/
import Derived.Test.YtodldmomneecpaaHmacKeysP2
/- What comitia/comitiaref2.Sum computes. Own work, printed by a program of the worker's own. -/
namespace Go.Proofs.Ytodldmomneecpaa.Rx
open Go
set_option linter.unusedVariables false
set_option maxRecDepth 100000
set_option maxHeartbeats 0
def N17 : Nat := 278
noncomputable def F17 : Fns := addF 26 s26 (addF 27 s27' F0)
theorem F17_ok : FnsOk tau Try.prog F17 := (F0_ok.add ok27' en27).add ok26 en26
noncomputable def c17_0 : Code := subC (Try.f17.body.get!) [1, 1, 1, 1, 1, 0, 0, 0]
def nm17_0 : Nm := [(0, .any), (2, .any), (3, .any), (4, .any), (5, .any)]
def nx17_0 : Nm := [(0, .any), (2, .any), (3, .any), (4, .any), (5, .any)]
def x17_0 : An := (.seq (.seq .leaf (.cond .leaf .leaf)) (.block none .leaf))
noncomputable def c17_1 : Code := subC (Try.f17.body.get!) [1, 1, 1, 1, 1, 1, 1, 0, 1, 0, 0]
def nm17_1 : Nm := [(2, .any), (3, .any), (4, .any), (5, .any), (6, .any), (7, .any)]
def nx17_1 : Nm := [(2, .any), (3, .any), (4, .any), (5, .any)]
def x17_1 : An := (.seq (.seq .leaf (.cond .leaf .leaf)) (.seq (.block none .leaf) .leaf))
noncomputable def c17_3 : Code := subC (Try.f17.body.get!) [1, 1, 1, 1, 1, 1, 1, 1, 1, 0, 1, 0, 0, 1, 0, 0, 0, 1, 0, 0]
def nm17_3 : Nm := [(2, .any), (3, .any), (4, .any), (5, .any), (8, .any), (9, .any), (10, .any)]
def nx17_3 : Nm := [(2, .any), (3, .any), (4, .any), (5, .any), (8, .any), (9, .any)]
def x17_3 : An := (.seq (.seq .leaf (.cond .leaf .leaf)) (.seq (.block none (.seq .leaf .leaf)) .leaf))
noncomputable def c17_4 : Code := subC (Try.f17.body.get!) [1, 1, 1, 1, 1, 1, 1, 1, 1, 0, 1, 0, 0, 1, 0, 0, 1, 0, 1, 0, 0]
def nm17_4 : Nm := [(2, .any), (3, .any), (4, .any), (5, .any), (8, .any), (9, .any), (12, .any)]
def nx17_4 : Nm := [(2, .any), (3, .any), (4, .any), (5, .any), (8, .any), (9, .any)]
def x17_4 : An := (.seq (.seq .leaf (.cond .leaf .leaf)) (.seq (.block none (.seq .leaf .leaf)) .leaf))
noncomputable def c17_5 : Code := subC (Try.f17.body.get!) [1, 1, 1, 1, 1, 1, 1, 1, 1, 0, 1, 0, 0, 1, 0, 0, 1, 1, 1, 0, 1, 0, 0]
def nm17_5 : Nm := [(2, .any), (3, .any), (4, .any), (5, .any), (8, .any), (9, .any), (15, .any), (16, .any)]
def nx17_5 : Nm := [(2, .any), (3, .any), (4, .any), (5, .any), (8, .any), (9, .any), (15, .any)]
def x17_5 : An := (.seq (.seq .leaf (.cond .leaf .leaf)) (.seq (.block none (.seq .leaf (.seq .leaf (.seq .leaf .leaf)))) .leaf))
noncomputable def c17_6 : Code := subC (Try.f17.body.get!) [1, 1, 1, 1, 1, 1, 1, 1, 1, 0, 1, 0, 0, 1, 0, 0, 1, 1, 1, 1, 1, 0, 0]
def nm17_6 : Nm := [(2, .any), (3, .any), (4, .any), (5, .any), (8, .any), (9, .any), (15, .any), (20, .any)]
def nx17_6 : Nm := [(2, .any), (3, .any), (4, .any), (5, .any), (8, .any), (9, .any)]
def x17_6 : An := (.seq (.seq .leaf (.cond .leaf .leaf)) (.seq (.block none .leaf) .leaf))
noncomputable def c17_2 : Code := subC (Try.f17.body.get!) [1, 1, 1, 1, 1, 1, 1, 1, 1, 0, 1, 0, 0]
def nm17_2 : Nm := [(2, .any), (3, .any), (4, .any), (5, .any), (8, .any), (9, .any)]
def nx17_2 : Nm := [(2, .any), (4, .any)]
def x17_2 (r3 : RunL) (r4 : RunL) (r5 : RunL) (r6 : RunL) : An := (.seq (.seq .leaf (.cond .leaf .leaf)) (.seq (.block none (.seq (.seq .leaf (.block none (.sum nm17_3 N17 r3))) (.seq (.seq .leaf (.block none (.sum nm17_4 N17 r4))) (.seq .leaf (.seq (.seq .leaf (.block none (.sum nm17_5 N17 r5))) (.seq .leaf (.block none (.sum nm17_6 N17 r6)))))))) .leaf))
noncomputable def c17_7 : Code := subC (Try.f17.body.get!) [1, 1, 1, 1, 1, 1, 1, 1, 1, 1, 1, 0, 1, 0, 0]
def nm17_7 : Nm := [(2, .any), (4, .any), (21, .any), (22, .any)]
def nx17_7 : Nm := [(2, .any), (21, .any)]
def x17_7 : An := (.seq (.seq .leaf (.cond .leaf .leaf)) (.seq (.block none .leaf) .leaf))
def an17 (r0 : RunL) (r1 : RunL) (r2 : RunL) (r7 : RunL) : An := (.seq .leaf (.seq .leaf (.seq .leaf (.seq .leaf (.seq .leaf (.seq (.block none (.sum nm17_0 N17 r0)) (.seq .leaf (.seq (.seq .leaf (.block none (.sum nm17_1 N17 r1))) (.seq .leaf (.seq (.seq .leaf (.block none (.sum nm17_2 N17 r2))) (.seq .leaf (.seq (.seq .leaf (.block none (.sum nm17_7 N17 r7))) (.seq .leaf .leaf)))))))))))))
def lpS17_0 (f : Nat) (rc : Bool → Bool → List
  PV → Nat → List
  PV → List
  PV → List
  PV → List
  PV → Option Res) (k0 : Bool → Bool → List
  PV → Nat → List PV → List PV → List PV → List PV → Option Res) (v0 : Bool) (v1 : Bool) (v2 : List PV) (v3 : Nat) (v4 : List PV) (v5 : List PV) (v6 : List PV) (v7 : List PV) : Option Res :=
  bif (zi v3).tmod 64 != 56 then
    bif roomy (v3 + 1) 1 && true then
      rc v0 v1 v2 (v3 + 1) v4 v5 v6 (List.take v3 v7 ++ [PV.sc (Value.int IntKind.u8 0)])
    else none
  else k0 v0 v1 v2 v3 v4 v5 v6 v7
def lp17_0 (f : Nat) (k0 : Bool → Bool → List PV → Nat → List PV → List PV → List PV → List PV → Option Res) : Nat → Bool → Bool → List PV → Nat → List PV → List PV → List PV → List PV → Option Res
  | 0, _, _, _, _, _, _, _, _ => none
  | n + 1, v0, v1, v2, v3, v4, v5, v6, v7 => lpS17_0 f (lp17_0 f k0 n) k0 v0 v1 v2 v3 v4 v5 v6 v7
theorem lpR17_0 (f : Nat) (k : Kont) (n : Nat) (v0 : Bool) (v1 : Bool) (v2 : List
  PV) (v3 : Nat) (v4 : List
  PV) (v5 : List
  PV) (v6 : List
  PV) (v7 : List
  PV) : evLoop tau 0 nm17_0 (fun s k => ev tau F17 0 0 c17_0 (x17_0 ) s k) (n + 1) (fillS nm17_0 N17 [PV.ro 5 v0 v1 v2, PV.ptr 4464 [], PV.ptr 4465 [], PV.ptr 4466 [],
  PV.ow 5 4467 [] 0 v3
    none] [(4464, Ent.box false 26 (PV.ar 26 v4)), (4465, Ent.box false 51 (PV.ar 51 v5)), (4466, Ent.box false 53 (PV.ar 53 v6)),
  (4467,
    Ent.vec false 5 false
      v7)]) (kNorm tau 0 nx17_0 k) = lpS17_0 f (fun v0 v1 v2 v3 v4 v5 v6 v7 => evLoop tau 0 nm17_0 (fun s k => ev tau F17 0 0 c17_0 (x17_0 ) s k) n (fillS nm17_0 N17 [PV.ro 5 v0 v1 v2,
  PV.ptr 4464 [], PV.ptr 4465 [], PV.ptr 4466 [],
  PV.ow 5 4467 [] 0 v3
    none] [(4464, Ent.box false 26 (PV.ar 26 v4)), (4465, Ent.box false 51 (PV.ar 51 v5)), (4466, Ent.box false 53 (PV.ar 53 v6)),
  (4467,
    Ent.vec false 5 false
      v7)]) (kNorm tau 0 nx17_0 k)) (fun x0 x1 x2 x3 x4 x5 x6 x7 => k (Ex.exit
  0) (fillS nx17_0 N17 [PV.ro 5 x0 x1 x2, PV.ptr 4464 [], PV.ptr 4465 [], PV.ptr 4466 [],
  PV.ow 5 4467 [] 0 x3
    none] [(4464, Ent.box false 26 (PV.ar 26 x4)), (4465, Ent.box false 51 (PV.ar 51 x5)), (4466, Ent.box false 53 (PV.ar 53 x6)),
  (4467, Ent.vec false 5 false x7)])) v0 v1 v2 v3 v4 v5 v6 v7 := by kernel_rfl
theorem lpE17_0 (f : Nat) (k : Kont) : ∀ (n : Nat) (v0 : Bool) (v1 : Bool) (v2 : List
  PV) (v3 : Nat) (v4 : List
  PV) (v5 : List
  PV) (v6 : List
  PV) (v7 : List
  PV), evLoop tau 0 nm17_0 (fun s k => ev tau F17 0 0 c17_0 (x17_0 ) s k) n (fillS nm17_0 N17 [PV.ro 5 v0 v1 v2, PV.ptr 4464 [], PV.ptr 4465 [], PV.ptr 4466 [],
  PV.ow 5 4467 [] 0 v3
    none] [(4464, Ent.box false 26 (PV.ar 26 v4)), (4465, Ent.box false 51 (PV.ar 51 v5)), (4466, Ent.box false 53 (PV.ar 53 v6)),
  (4467,
    Ent.vec false 5 false
      v7)]) (kNorm tau 0 nx17_0 k) = lp17_0 f (fun x0 x1 x2 x3 x4 x5 x6 x7 => k (Ex.exit
  0) (fillS nx17_0 N17 [PV.ro 5 x0 x1 x2, PV.ptr 4464 [], PV.ptr 4465 [], PV.ptr 4466 [],
  PV.ow 5 4467 [] 0 x3
    none] [(4464, Ent.box false 26 (PV.ar 26 x4)), (4465, Ent.box false 51 (PV.ar 51 x5)), (4466, Ent.box false 53 (PV.ar 53 x6)), (4467, Ent.vec false 5 false x7)])) n v0 v1 v2 v3 v4 v5 v6 v7
  | 0, _, _, _, _, _, _, _, _ => rfl
  | n + 1, v0, v1, v2, v3, v4, v5, v6, v7 => (lpR17_0 f k n v0 v1 v2 v3 v4 v5 v6 v7).trans (congrArg (fun r => lpS17_0 f r (fun x0 x1 x2 x3 x4 x5 x6 x7 => k (Ex.exit
  0) (fillS nx17_0 N17 [PV.ro 5 x0 x1 x2, PV.ptr 4464 [], PV.ptr 4465 [], PV.ptr 4466 [],
  PV.ow 5 4467 [] 0 x3
    none] [(4464, Ent.box false 26 (PV.ar 26 x4)), (4465, Ent.box false 51 (PV.ar 51 x5)), (4466, Ent.box false 53 (PV.ar 53 x6)),
  (4467, Ent.vec false 5 false x7)])) v0 v1 v2 v3 v4 v5 v6 v7) (by funext v0 v1 v2 v3 v4 v5 v6 v7; exact lpE17_0 f k n v0 v1 v2 v3 v4 v5 v6 v7))
def r17_0 (f : Nat) : List PV → List (Nat × Ent) → Kont → Option Res
  | [PV.ro 5 v0 v1 v2, PV.ptr 4464 [], PV.ptr 4465 [], PV.ptr 4466 [],
  PV.ow 5 4467 [] 0 v3
    none], [(4464, Ent.box false 26 (PV.ar 26 v4)), (4465, Ent.box false 51 (PV.ar 51 v5)), (4466, Ent.box false 53 (PV.ar 53 v6)),
  (4467,
    Ent.vec false 5 false
      v7)], k => lp17_0 f (fun x0 x1 x2 x3 x4 x5 x6 x7 => k (Ex.exit
  0) (fillS nx17_0 N17 [PV.ro 5 x0 x1 x2, PV.ptr 4464 [], PV.ptr 4465 [], PV.ptr 4466 [],
  PV.ow 5 4467 [] 0 x3
    none] [(4464, Ent.box false 26 (PV.ar 26 x4)), (4465, Ent.box false 51 (PV.ar 51 x5)), (4466, Ent.box false 53 (PV.ar 53 x6)), (4467, Ent.vec false 5 false x7)])) f v0 v1 v2 v3 v4 v5 v6 v7
  | _, _, _ => none
theorem it17_0 (f : Nat) : items c17_0 x17_0 = [] := by kernel_rfl
theorem i17_0 (f : Nat) : (Item.l c17_0 nm17_0 N17 (r17_0 f)).Ok tau Try.prog 0 := loop_item tabOk F17_ok mixed (x := x17_0) (nm2 := nx17_0) (anOk_items _ _ (by rw [it17_0 f]; intro q hq; cases hq)) fun vs hp k res hr => by
  unfold r17_0 at hr
  split at hr
  · exact ⟨f, 0, (lpE17_0 f _ f _ _ _ _ _ _ _ _ ).trans hr⟩
  · cases hr
def lpS17_1 (f : Nat) (rc : Nat → Int → Int → List
  PV → List
  PV → List
  PV → List
  PV → Option Res) (k0 : Nat → List PV → List PV → List PV → List PV → Option Res) (v0 : Nat) (v1 : Int) (v2 : Int) (v3 : List PV) (v4 : List PV) (v5 : List PV) (v6 : List PV) : Option Res :=
  bif decide (v2 ≥ 0) then
    bif decide (0 ≤ IntKind.u64.wrap (8 * IntKind.u64.wrap v2)) && true then
      bif roomy (v0 + 1) 1 && true then
        rc (v0 + 1) v1 (IntKind.i64.wrap (v2 - 1)) v3 v4 v5 (List.take v0 v6 ++ [PV.sc (Value.int IntKind.u8 (IntKind.u8.wrap (shrI IntKind.u64 v1 (IntKind.u64.wrap (8 * IntKind.u64.wrap v2)))))])
      else none
    else none
  else k0 v0 v3 v4 v5 v6
def lp17_1 (f : Nat) (k0 : Nat → List PV → List PV → List PV → List PV → Option Res) : Nat → Nat → Int → Int → List PV → List PV → List PV → List PV → Option Res
  | 0, _, _, _, _, _, _, _ => none
  | n + 1, v0, v1, v2, v3, v4, v5, v6 => lpS17_1 f (lp17_1 f k0 n) k0 v0 v1 v2 v3 v4 v5 v6
theorem lpR17_1 (f : Nat) (k : Kont) (n : Nat) (v0 : Nat) (v1 : Int) (v2 : Int) (v3 : List
  PV) (v4 : List
  PV) (v5 : List
  PV) (v6 : List
  PV) : evLoop tau 0 nm17_1 (fun s k => ev tau F17 0 0 c17_1 (x17_1 ) s k) (n + 1) (fillS nm17_1 N17 [PV.ptr 4464 [], PV.ptr 4465 [], PV.ptr 4466 [], PV.ow 5 4467 [] 0 v0 none,
  PV.sc (Value.int IntKind.u64 v1),
  PV.sc
    (Value.int IntKind.i64
      v2)] [(4464, Ent.box false 26 (PV.ar 26 v3)), (4465, Ent.box false 51 (PV.ar 51 v4)), (4466, Ent.box false 53 (PV.ar 53 v5)),
  (4467,
    Ent.vec false 5 false
      v6)]) (kNorm tau 0 nx17_1 k) = lpS17_1 f (fun v0 v1 v2 v3 v4 v5 v6 => evLoop tau 0 nm17_1 (fun s k => ev tau F17 0 0 c17_1 (x17_1 ) s k) n (fillS nm17_1 N17 [PV.ptr 4464 [], PV.ptr 4465 [],
  PV.ptr 4466 [], PV.ow 5 4467 [] 0 v0 none, PV.sc (Value.int IntKind.u64 v1),
  PV.sc
    (Value.int IntKind.i64
      v2)] [(4464, Ent.box false 26 (PV.ar 26 v3)), (4465, Ent.box false 51 (PV.ar 51 v4)), (4466, Ent.box false 53 (PV.ar 53 v5)),
  (4467,
    Ent.vec false 5 false
      v6)]) (kNorm tau 0 nx17_1 k)) (fun x0 x1 x2 x3 x4 => k (Ex.exit
  2) (fillS nx17_1 N17 [PV.ptr 4464 [], PV.ptr 4465 [], PV.ptr 4466 [],
  PV.ow 5 4467 [] 0 x0
    none] [(4464, Ent.box false 26 (PV.ar 26 x1)), (4465, Ent.box false 51 (PV.ar 51 x2)), (4466, Ent.box false 53 (PV.ar 53 x3)),
  (4467, Ent.vec false 5 false x4)])) v0 v1 v2 v3 v4 v5 v6 := by kernel_rfl
theorem lpE17_1 (f : Nat) (k : Kont) : ∀ (n : Nat) (v0 : Nat) (v1 : Int) (v2 : Int) (v3 : List
  PV) (v4 : List
  PV) (v5 : List
  PV) (v6 : List
  PV), evLoop tau 0 nm17_1 (fun s k => ev tau F17 0 0 c17_1 (x17_1 ) s k) n (fillS nm17_1 N17 [PV.ptr 4464 [], PV.ptr 4465 [], PV.ptr 4466 [], PV.ow 5 4467 [] 0 v0 none,
  PV.sc (Value.int IntKind.u64 v1),
  PV.sc
    (Value.int IntKind.i64
      v2)] [(4464, Ent.box false 26 (PV.ar 26 v3)), (4465, Ent.box false 51 (PV.ar 51 v4)), (4466, Ent.box false 53 (PV.ar 53 v5)),
  (4467,
    Ent.vec false 5 false
      v6)]) (kNorm tau 0 nx17_1 k) = lp17_1 f (fun x0 x1 x2 x3 x4 => k (Ex.exit
  2) (fillS nx17_1 N17 [PV.ptr 4464 [], PV.ptr 4465 [], PV.ptr 4466 [],
  PV.ow 5 4467 [] 0 x0
    none] [(4464, Ent.box false 26 (PV.ar 26 x1)), (4465, Ent.box false 51 (PV.ar 51 x2)), (4466, Ent.box false 53 (PV.ar 53 x3)), (4467, Ent.vec false 5 false x4)])) n v0 v1 v2 v3 v4 v5 v6
  | 0, _, _, _, _, _, _, _ => rfl
  | n + 1, v0, v1, v2, v3, v4, v5, v6 => (lpR17_1 f k n v0 v1 v2 v3 v4 v5 v6).trans (congrArg (fun r => lpS17_1 f r (fun x0 x1 x2 x3 x4 => k (Ex.exit
  2) (fillS nx17_1 N17 [PV.ptr 4464 [], PV.ptr 4465 [], PV.ptr 4466 [],
  PV.ow 5 4467 [] 0 x0
    none] [(4464, Ent.box false 26 (PV.ar 26 x1)), (4465, Ent.box false 51 (PV.ar 51 x2)), (4466, Ent.box false 53 (PV.ar 53 x3)),
  (4467, Ent.vec false 5 false x4)])) v0 v1 v2 v3 v4 v5 v6) (by funext v0 v1 v2 v3 v4 v5 v6; exact lpE17_1 f k n v0 v1 v2 v3 v4 v5 v6))
def r17_1 (f : Nat) : List PV → List (Nat × Ent) → Kont → Option Res
  | [PV.ptr 4464 [], PV.ptr 4465 [], PV.ptr 4466 [], PV.ow 5 4467 [] 0 v0 none, PV.sc (Value.int IntKind.u64 v1),
  PV.sc
    (Value.int IntKind.i64
      v2)], [(4464, Ent.box false 26 (PV.ar 26 v3)), (4465, Ent.box false 51 (PV.ar 51 v4)), (4466, Ent.box false 53 (PV.ar 53 v5)),
  (4467,
    Ent.vec false 5 false
      v6)], k => lp17_1 f (fun x0 x1 x2 x3 x4 => k (Ex.exit
  2) (fillS nx17_1 N17 [PV.ptr 4464 [], PV.ptr 4465 [], PV.ptr 4466 [],
  PV.ow 5 4467 [] 0 x0
    none] [(4464, Ent.box false 26 (PV.ar 26 x1)), (4465, Ent.box false 51 (PV.ar 51 x2)), (4466, Ent.box false 53 (PV.ar 53 x3)), (4467, Ent.vec false 5 false x4)])) f v0 v1 v2 v3 v4 v5 v6
  | _, _, _ => none
theorem it17_1 (f : Nat) : items c17_1 x17_1 = [] := by kernel_rfl
theorem i17_1 (f : Nat) : (Item.l c17_1 nm17_1 N17 (r17_1 f)).Ok tau Try.prog 0 := loop_item tabOk F17_ok mixed (x := x17_1) (nm2 := nx17_1) (anOk_items _ _ (by rw [it17_1 f]; intro q hq; cases hq)) fun vs hp k res hr => by
  unfold r17_1 at hr
  split at hr
  · exact ⟨f, 0, (lpE17_1 f _ f _ _ _ _ _ _ _ ).trans hr⟩
  · cases hr
def lpS17_3 (f : Nat) (rc : Nat → Int → Int → List
  PV → List
  PV → List
  PV → List
  PV → List
  PV → Option Res) (k0 : Nat → Int → List
  PV → List PV → List PV → List PV → List PV → Option Res) (v0 : Nat) (v1 : Int) (v2 : Int) (v3 : List PV) (v4 : List PV) (v5 : List PV) (v6 : List PV) (v7 : List PV) : Option Res :=
  bif decide (v2 < 16) then
    bif decide (0 ≤ IntKind.i64.wrap (v1 + IntKind.i64.wrap (4 * v2))) && decide (IntKind.i64.wrap (v1 + IntKind.i64.wrap (4 * v2)) < zi v0) && true then
      bif PV.isInt IntKind.u8 (getP (v6.getD (0 + (IntKind.i64.wrap (v1 + IntKind.i64.wrap (4 * v2))).toNat) PV.top) []) && true then
        bif decide (0 ≤ IntKind.i64.wrap (IntKind.i64.wrap (v1 + IntKind.i64.wrap (4 * v2)) + 1)) && decide (IntKind.i64.wrap (IntKind.i64.wrap (v1 + IntKind.i64.wrap (4 * v2)) + 1) < zi v0) &&
          true then
          bif PV.isInt IntKind.u8 (getP (v6.getD (0 + (IntKind.i64.wrap (IntKind.i64.wrap (v1 + IntKind.i64.wrap (4 * v2)) + 1)).toNat) PV.top) []) && true then
            bif decide (0 ≤ IntKind.i64.wrap (IntKind.i64.wrap (v1 + IntKind.i64.wrap (4 * v2)) + 2)) && decide (IntKind.i64.wrap (IntKind.i64.wrap (v1 + IntKind.i64.wrap (4 * v2)) + 2) < zi v0) &&
              true then
              bif PV.isInt IntKind.u8 (getP (v6.getD (0 + (IntKind.i64.wrap (IntKind.i64.wrap (v1 + IntKind.i64.wrap (4 * v2)) + 2)).toNat) PV.top) []) && true then
                bif decide (0 ≤ IntKind.i64.wrap (IntKind.i64.wrap (v1 + IntKind.i64.wrap (4 * v2)) + 3)) &&
                    decide (IntKind.i64.wrap (IntKind.i64.wrap (v1 + IntKind.i64.wrap (4 * v2)) + 3) < zi v0) &&
                  true then
                  bif PV.isInt IntKind.u8 (getP (v6.getD (0 + (IntKind.i64.wrap (IntKind.i64.wrap (v1 + IntKind.i64.wrap (4 * v2)) + 3)).toNat) PV.top) []) && true then
                    bif decide (0 ≤ v2) && decide (v2 < zi 64) && true then
                      rc v0 v1 (IntKind.i64.wrap
                        (v2 +
                          1)) v3 v4 v5 v6 (v7.set v2.toNat
                        (PV.sc
                          (Value.int IntKind.u32
                            (bitI BinOp.or IntKind.u32
                              (bitI BinOp.or IntKind.u32
                                (bitI BinOp.or IntKind.u32 (shlI IntKind.u32 (IntKind.u32.wrap (getP (v6.getD (0 + (IntKind.i64.wrap (v1 + IntKind.i64.wrap (4 * v2))).toNat) PV.top) []).int) 24)
                                  (shlI IntKind.u32 (IntKind.u32.wrap (getP (v6.getD (0 + (IntKind.i64.wrap (IntKind.i64.wrap (v1 + IntKind.i64.wrap (4 * v2)) + 1)).toNat) PV.top) []).int) 16))
                                (shlI IntKind.u32 (IntKind.u32.wrap (getP (v6.getD (0 + (IntKind.i64.wrap (IntKind.i64.wrap (v1 + IntKind.i64.wrap (4 * v2)) + 2)).toNat) PV.top) []).int) 8))
                              (IntKind.u32.wrap (getP (v6.getD (0 + (IntKind.i64.wrap (IntKind.i64.wrap (v1 + IntKind.i64.wrap (4 * v2)) + 3)).toNat) PV.top) []).int)))))
                    else none
                  else none
                else none
              else none
            else none
          else none
        else none
      else none
    else none
  else k0 v0 v1 v3 v4 v5 v6 v7
def lp17_3 (f : Nat) (k0 : Nat → Int → List PV → List PV → List PV → List PV → List PV → Option Res) : Nat → Nat → Int → Int → List PV → List PV → List PV → List PV → List PV → Option Res
  | 0, _, _, _, _, _, _, _, _ => none
  | n + 1, v0, v1, v2, v3, v4, v5, v6, v7 => lpS17_3 f (lp17_3 f k0 n) k0 v0 v1 v2 v3 v4 v5 v6 v7
theorem lpR17_3 (f : Nat) (k : Kont) (n : Nat) (v0 : Nat) (v1 : Int) (v2 : Int) (v3 : List
  PV) (v4 : List
  PV) (v5 : List
  PV) (v6 : List
  PV) (v7 : List
  PV) : evLoop tau 0 nm17_3 (fun s k => ev tau F17 0 0 c17_3 (x17_3 ) s k) (n + 1) (fillS nm17_3 N17 [PV.ptr 4464 [], PV.ptr 4465 [], PV.ptr 4466 [], PV.ow 5 4467 [] 0 v0 none, PV.ptr 4468 [],
  PV.sc (Value.int IntKind.i64 v1),
  PV.sc
    (Value.int IntKind.i64
      v2)] [(4464, Ent.box false 26 (PV.ar 26 v3)), (4465, Ent.box false 51 (PV.ar 51 v4)), (4466, Ent.box false 53 (PV.ar 53 v5)), (4467, Ent.vec false 5 false v6),
  (4468,
    Ent.box false 51
      (PV.ar 51
        v7))]) (kNorm tau 0 nx17_3 k) = lpS17_3 f (fun v0 v1 v2 v3 v4 v5 v6 v7 => evLoop tau 0 nm17_3 (fun s k => ev tau F17 0 0 c17_3 (x17_3 ) s k) n (fillS nm17_3 N17 [PV.ptr 4464 [],
  PV.ptr 4465 [], PV.ptr 4466 [], PV.ow 5 4467 [] 0 v0 none, PV.ptr 4468 [], PV.sc (Value.int IntKind.i64 v1),
  PV.sc
    (Value.int IntKind.i64
      v2)] [(4464, Ent.box false 26 (PV.ar 26 v3)), (4465, Ent.box false 51 (PV.ar 51 v4)), (4466, Ent.box false 53 (PV.ar 53 v5)), (4467, Ent.vec false 5 false v6),
  (4468,
    Ent.box false 51
      (PV.ar 51
        v7))]) (kNorm tau 0 nx17_3 k)) (fun x0 x1 x2 x3 x4 x5 x6 => k (Ex.exit
  6) (fillS nx17_3 N17 [PV.ptr 4464 [], PV.ptr 4465 [], PV.ptr 4466 [], PV.ow 5 4467 [] 0 x0 none, PV.ptr 4468 [],
  PV.sc
    (Value.int IntKind.i64
      x1)] [(4464, Ent.box false 26 (PV.ar 26 x2)), (4465, Ent.box false 51 (PV.ar 51 x3)), (4466, Ent.box false 53 (PV.ar 53 x4)), (4467, Ent.vec false 5 false x5),
  (4468, Ent.box false 51 (PV.ar 51 x6))])) v0 v1 v2 v3 v4 v5 v6 v7 := by kernel_rfl
theorem lpE17_3 (f : Nat) (k : Kont) : ∀ (n : Nat) (v0 : Nat) (v1 : Int) (v2 : Int) (v3 : List
  PV) (v4 : List
  PV) (v5 : List
  PV) (v6 : List
  PV) (v7 : List
  PV), evLoop tau 0 nm17_3 (fun s k => ev tau F17 0 0 c17_3 (x17_3 ) s k) n (fillS nm17_3 N17 [PV.ptr 4464 [], PV.ptr 4465 [], PV.ptr 4466 [], PV.ow 5 4467 [] 0 v0 none, PV.ptr 4468 [],
  PV.sc (Value.int IntKind.i64 v1),
  PV.sc
    (Value.int IntKind.i64
      v2)] [(4464, Ent.box false 26 (PV.ar 26 v3)), (4465, Ent.box false 51 (PV.ar 51 v4)), (4466, Ent.box false 53 (PV.ar 53 v5)), (4467, Ent.vec false 5 false v6),
  (4468,
    Ent.box false 51
      (PV.ar 51
        v7))]) (kNorm tau 0 nx17_3 k) = lp17_3 f (fun x0 x1 x2 x3 x4 x5 x6 => k (Ex.exit
  6) (fillS nx17_3 N17 [PV.ptr 4464 [], PV.ptr 4465 [], PV.ptr 4466 [], PV.ow 5 4467 [] 0 x0 none, PV.ptr 4468 [],
  PV.sc
    (Value.int IntKind.i64
      x1)] [(4464, Ent.box false 26 (PV.ar 26 x2)), (4465, Ent.box false 51 (PV.ar 51 x3)), (4466, Ent.box false 53 (PV.ar 53 x4)), (4467, Ent.vec false 5 false x5),
  (4468, Ent.box false 51 (PV.ar 51 x6))])) n v0 v1 v2 v3 v4 v5 v6 v7
  | 0, _, _, _, _, _, _, _, _ => rfl
  | n + 1, v0, v1, v2, v3, v4, v5, v6, v7 => (lpR17_3 f k n v0 v1 v2 v3 v4 v5 v6 v7).trans (congrArg (fun r => lpS17_3 f r (fun x0 x1 x2 x3 x4 x5 x6 => k (Ex.exit
  6) (fillS nx17_3 N17 [PV.ptr 4464 [], PV.ptr 4465 [], PV.ptr 4466 [], PV.ow 5 4467 [] 0 x0 none, PV.ptr 4468 [],
  PV.sc
    (Value.int IntKind.i64
      x1)] [(4464, Ent.box false 26 (PV.ar 26 x2)), (4465, Ent.box false 51 (PV.ar 51 x3)), (4466, Ent.box false 53 (PV.ar 53 x4)), (4467, Ent.vec false 5 false x5),
  (4468, Ent.box false 51 (PV.ar 51 x6))])) v0 v1 v2 v3 v4 v5 v6 v7) (by funext v0 v1 v2 v3 v4 v5 v6 v7; exact lpE17_3 f k n v0 v1 v2 v3 v4 v5 v6 v7))
def r17_3 (f : Nat) : List PV → List (Nat × Ent) → Kont → Option Res
  | [PV.ptr 4464 [], PV.ptr 4465 [], PV.ptr 4466 [], PV.ow 5 4467 [] 0 v0 none, PV.ptr 4468 [], PV.sc (Value.int IntKind.i64 v1),
  PV.sc
    (Value.int IntKind.i64
      v2)], [(4464, Ent.box false 26 (PV.ar 26 v3)), (4465, Ent.box false 51 (PV.ar 51 v4)), (4466, Ent.box false 53 (PV.ar 53 v5)), (4467, Ent.vec false 5 false v6),
  (4468,
    Ent.box false 51
      (PV.ar 51
        v7))], k => lp17_3 f (fun x0 x1 x2 x3 x4 x5 x6 => k (Ex.exit
  6) (fillS nx17_3 N17 [PV.ptr 4464 [], PV.ptr 4465 [], PV.ptr 4466 [], PV.ow 5 4467 [] 0 x0 none, PV.ptr 4468 [],
  PV.sc
    (Value.int IntKind.i64
      x1)] [(4464, Ent.box false 26 (PV.ar 26 x2)), (4465, Ent.box false 51 (PV.ar 51 x3)), (4466, Ent.box false 53 (PV.ar 53 x4)), (4467, Ent.vec false 5 false x5),
  (4468, Ent.box false 51 (PV.ar 51 x6))])) f v0 v1 v2 v3 v4 v5 v6 v7
  | _, _, _ => none
theorem it17_3 (f : Nat) : items c17_3 x17_3 = [] := by kernel_rfl
theorem i17_3 (f : Nat) : (Item.l c17_3 nm17_3 N17 (r17_3 f)).Ok tau Try.prog 0 := loop_item tabOk F17_ok mixed (x := x17_3) (nm2 := nx17_3) (anOk_items _ _ (by rw [it17_3 f]; intro q hq; cases hq)) fun vs hp k res hr => by
  unfold r17_3 at hr
  split at hr
  · exact ⟨f, 0, (lpE17_3 f _ f _ _ _ _ _ _ _ _ ).trans hr⟩
  · cases hr
def lpS17_4 (f : Nat) (rc : Nat → Int → Int → List
  PV → List
  PV → List
  PV → List
  PV → List
  PV → Option Res) (k0 : Nat → Int → List
  PV → List PV → List PV → List PV → List PV → Option Res) (v0 : Nat) (v1 : Int) (v2 : Int) (v3 : List PV) (v4 : List PV) (v5 : List PV) (v6 : List PV) (v7 : List PV) : Option Res :=
  bif decide (v2 < 64) then
    bif decide (0 ≤ IntKind.i64.wrap (v2 - 15)) && decide (IntKind.i64.wrap (v2 - 15) < zi 64) && true then
      bif PV.isInt IntKind.u32 (getP (PV.ar 51 v7) [(IntKind.i64.wrap (v2 - 15)).toNat]) && true then
        bif decide (0 ≤ IntKind.i64.wrap (v2 - 2)) && decide (IntKind.i64.wrap (v2 - 2) < zi 64) && true then
          bif PV.isInt IntKind.u32 (getP (PV.ar 51 v7) [(IntKind.i64.wrap (v2 - 2)).toNat]) && true then
            bif decide (0 ≤ IntKind.i64.wrap (v2 - 7)) && decide (IntKind.i64.wrap (v2 - 7) < zi 64) && true then
              bif PV.isInt IntKind.u32 (getP (PV.ar 51 v7) [(IntKind.i64.wrap (v2 - 7)).toNat]) && true then
                bif decide (0 ≤ IntKind.i64.wrap (v2 - 16)) && decide (IntKind.i64.wrap (v2 - 16) < zi 64) && true then
                  bif PV.isInt IntKind.u32 (getP (PV.ar 51 v7) [(IntKind.i64.wrap (v2 - 16)).toNat]) && true then
                    bif decide (0 ≤ v2) && decide (v2 < zi 64) && true then
                      rc v0 v1 (IntKind.i64.wrap
                        (v2 +
                          1)) v3 v4 v5 v6 (v7.set v2.toNat
                        (PV.sc
                          (Value.int IntKind.u32
                            (IntKind.u32.wrap
                              (IntKind.u32.wrap
                                  (IntKind.u32.wrap
                                      (bitI BinOp.xor IntKind.u32
                                          (bitI BinOp.xor IntKind.u32 (rr (getP (PV.ar 51 v7) [(IntKind.i64.wrap (v2 - 2)).toNat]).int 17)
                                            (rr (getP (PV.ar 51 v7) [(IntKind.i64.wrap (v2 - 2)).toNat]).int 19))
                                          (shrI IntKind.u32 (getP (PV.ar 51 v7) [(IntKind.i64.wrap (v2 - 2)).toNat]).int 10) +
                                        (getP (PV.ar 51 v7) [(IntKind.i64.wrap (v2 - 7)).toNat]).int) +
                                    bitI BinOp.xor IntKind.u32
                                      (bitI BinOp.xor IntKind.u32 (rr (getP (PV.ar 51 v7) [(IntKind.i64.wrap (v2 - 15)).toNat]).int 7)
                                        (rr (getP (PV.ar 51 v7) [(IntKind.i64.wrap (v2 - 15)).toNat]).int 18))
                                      (shrI IntKind.u32 (getP (PV.ar 51 v7) [(IntKind.i64.wrap (v2 - 15)).toNat]).int 3)) +
                                (getP (PV.ar 51 v7) [(IntKind.i64.wrap (v2 - 16)).toNat]).int)))))
                    else none
                  else none
                else none
              else none
            else none
          else none
        else none
      else none
    else none
  else k0 v0 v1 v3 v4 v5 v6 v7
def lp17_4 (f : Nat) (k0 : Nat → Int → List PV → List PV → List PV → List PV → List PV → Option Res) : Nat → Nat → Int → Int → List PV → List PV → List PV → List PV → List PV → Option Res
  | 0, _, _, _, _, _, _, _, _ => none
  | n + 1, v0, v1, v2, v3, v4, v5, v6, v7 => lpS17_4 f (lp17_4 f k0 n) k0 v0 v1 v2 v3 v4 v5 v6 v7
theorem lpR17_4 (f : Nat) (k : Kont) (n : Nat) (v0 : Nat) (v1 : Int) (v2 : Int) (v3 : List
  PV) (v4 : List
  PV) (v5 : List
  PV) (v6 : List
  PV) (v7 : List
  PV) : evLoop tau 0 nm17_4 (fun s k => ev tau F17 0 0 c17_4 (x17_4 ) s k) (n + 1) (fillS nm17_4 N17 [PV.ptr 4464 [], PV.ptr 4465 [], PV.ptr 4466 [], PV.ow 5 4467 [] 0 v0 none, PV.ptr 4468 [],
  PV.sc (Value.int IntKind.i64 v1),
  PV.sc
    (Value.int IntKind.i64
      v2)] [(4464, Ent.box false 26 (PV.ar 26 v3)), (4465, Ent.box false 51 (PV.ar 51 v4)), (4466, Ent.box false 53 (PV.ar 53 v5)), (4467, Ent.vec false 5 false v6),
  (4468,
    Ent.box false 51
      (PV.ar 51
        v7))]) (kNorm tau 0 nx17_4 k) = lpS17_4 f (fun v0 v1 v2 v3 v4 v5 v6 v7 => evLoop tau 0 nm17_4 (fun s k => ev tau F17 0 0 c17_4 (x17_4 ) s k) n (fillS nm17_4 N17 [PV.ptr 4464 [],
  PV.ptr 4465 [], PV.ptr 4466 [], PV.ow 5 4467 [] 0 v0 none, PV.ptr 4468 [], PV.sc (Value.int IntKind.i64 v1),
  PV.sc
    (Value.int IntKind.i64
      v2)] [(4464, Ent.box false 26 (PV.ar 26 v3)), (4465, Ent.box false 51 (PV.ar 51 v4)), (4466, Ent.box false 53 (PV.ar 53 v5)), (4467, Ent.vec false 5 false v6),
  (4468,
    Ent.box false 51
      (PV.ar 51
        v7))]) (kNorm tau 0 nx17_4 k)) (fun x0 x1 x2 x3 x4 x5 x6 => k (Ex.exit
  8) (fillS nx17_4 N17 [PV.ptr 4464 [], PV.ptr 4465 [], PV.ptr 4466 [], PV.ow 5 4467 [] 0 x0 none, PV.ptr 4468 [],
  PV.sc
    (Value.int IntKind.i64
      x1)] [(4464, Ent.box false 26 (PV.ar 26 x2)), (4465, Ent.box false 51 (PV.ar 51 x3)), (4466, Ent.box false 53 (PV.ar 53 x4)), (4467, Ent.vec false 5 false x5),
  (4468, Ent.box false 51 (PV.ar 51 x6))])) v0 v1 v2 v3 v4 v5 v6 v7 := by kernel_rfl
theorem lpE17_4 (f : Nat) (k : Kont) : ∀ (n : Nat) (v0 : Nat) (v1 : Int) (v2 : Int) (v3 : List
  PV) (v4 : List
  PV) (v5 : List
  PV) (v6 : List
  PV) (v7 : List
  PV), evLoop tau 0 nm17_4 (fun s k => ev tau F17 0 0 c17_4 (x17_4 ) s k) n (fillS nm17_4 N17 [PV.ptr 4464 [], PV.ptr 4465 [], PV.ptr 4466 [], PV.ow 5 4467 [] 0 v0 none, PV.ptr 4468 [],
  PV.sc (Value.int IntKind.i64 v1),
  PV.sc
    (Value.int IntKind.i64
      v2)] [(4464, Ent.box false 26 (PV.ar 26 v3)), (4465, Ent.box false 51 (PV.ar 51 v4)), (4466, Ent.box false 53 (PV.ar 53 v5)), (4467, Ent.vec false 5 false v6),
  (4468,
    Ent.box false 51
      (PV.ar 51
        v7))]) (kNorm tau 0 nx17_4 k) = lp17_4 f (fun x0 x1 x2 x3 x4 x5 x6 => k (Ex.exit
  8) (fillS nx17_4 N17 [PV.ptr 4464 [], PV.ptr 4465 [], PV.ptr 4466 [], PV.ow 5 4467 [] 0 x0 none, PV.ptr 4468 [],
  PV.sc
    (Value.int IntKind.i64
      x1)] [(4464, Ent.box false 26 (PV.ar 26 x2)), (4465, Ent.box false 51 (PV.ar 51 x3)), (4466, Ent.box false 53 (PV.ar 53 x4)), (4467, Ent.vec false 5 false x5),
  (4468, Ent.box false 51 (PV.ar 51 x6))])) n v0 v1 v2 v3 v4 v5 v6 v7
  | 0, _, _, _, _, _, _, _, _ => rfl
  | n + 1, v0, v1, v2, v3, v4, v5, v6, v7 => (lpR17_4 f k n v0 v1 v2 v3 v4 v5 v6 v7).trans (congrArg (fun r => lpS17_4 f r (fun x0 x1 x2 x3 x4 x5 x6 => k (Ex.exit
  8) (fillS nx17_4 N17 [PV.ptr 4464 [], PV.ptr 4465 [], PV.ptr 4466 [], PV.ow 5 4467 [] 0 x0 none, PV.ptr 4468 [],
  PV.sc
    (Value.int IntKind.i64
      x1)] [(4464, Ent.box false 26 (PV.ar 26 x2)), (4465, Ent.box false 51 (PV.ar 51 x3)), (4466, Ent.box false 53 (PV.ar 53 x4)), (4467, Ent.vec false 5 false x5),
  (4468, Ent.box false 51 (PV.ar 51 x6))])) v0 v1 v2 v3 v4 v5 v6 v7) (by funext v0 v1 v2 v3 v4 v5 v6 v7; exact lpE17_4 f k n v0 v1 v2 v3 v4 v5 v6 v7))
def r17_4 (f : Nat) : List PV → List (Nat × Ent) → Kont → Option Res
  | [PV.ptr 4464 [], PV.ptr 4465 [], PV.ptr 4466 [], PV.ow 5 4467 [] 0 v0 none, PV.ptr 4468 [], PV.sc (Value.int IntKind.i64 v1),
  PV.sc
    (Value.int IntKind.i64
      v2)], [(4464, Ent.box false 26 (PV.ar 26 v3)), (4465, Ent.box false 51 (PV.ar 51 v4)), (4466, Ent.box false 53 (PV.ar 53 v5)), (4467, Ent.vec false 5 false v6),
  (4468,
    Ent.box false 51
      (PV.ar 51
        v7))], k => lp17_4 f (fun x0 x1 x2 x3 x4 x5 x6 => k (Ex.exit
  8) (fillS nx17_4 N17 [PV.ptr 4464 [], PV.ptr 4465 [], PV.ptr 4466 [], PV.ow 5 4467 [] 0 x0 none, PV.ptr 4468 [],
  PV.sc
    (Value.int IntKind.i64
      x1)] [(4464, Ent.box false 26 (PV.ar 26 x2)), (4465, Ent.box false 51 (PV.ar 51 x3)), (4466, Ent.box false 53 (PV.ar 53 x4)), (4467, Ent.vec false 5 false x5),
  (4468, Ent.box false 51 (PV.ar 51 x6))])) f v0 v1 v2 v3 v4 v5 v6 v7
  | _, _, _ => none
theorem it17_4 (f : Nat) : items c17_4 x17_4 = [] := by kernel_rfl
theorem i17_4 (f : Nat) : (Item.l c17_4 nm17_4 N17 (r17_4 f)).Ok tau Try.prog 0 := loop_item tabOk F17_ok mixed (x := x17_4) (nm2 := nx17_4) (anOk_items _ _ (by rw [it17_4 f]; intro q hq; cases hq)) fun vs hp k res hr => by
  unfold r17_4 at hr
  split at hr
  · exact ⟨f, 0, (lpE17_4 f _ f _ _ _ _ _ _ _ _ ).trans hr⟩
  · cases hr
def lpS17_5 (f : Nat) (rc : Nat → Int → Int → List
  PV → List
  PV → List
  PV → List
  PV → List
  PV → List
  PV → Option Res) (k0 : Nat → Int → List
  PV → List
  PV → List PV → List PV → List PV → List PV → Option Res) (v0 : Nat) (v1 : Int) (v2 : Int) (v3 : List PV) (v4 : List PV) (v5 : List PV) (v6 : List PV) (v7 : List PV) (v8 : List PV) : Option Res :=
  bif decide (v2 < 64) then
    bif PV.isInt IntKind.u32 (getP (PV.ar 53 v8) [4]) && true then
      bif PV.isInt IntKind.u32 (getP (PV.ar 53 v8) [7]) && true then
        bif PV.isInt IntKind.u32 (getP (PV.ar 53 v8) [5]) && true then
          bif PV.isInt IntKind.u32 (getP (PV.ar 53 v8) [6]) && true then
            bif decide (0 ≤ v2) && decide (v2 < zi 64) && true then
              bif PV.isInt IntKind.u32 (getP (PV.ar 51 v4) [v2.toNat]) && true then
                bif decide (0 ≤ v2) && decide (v2 < zi 64) && true then
                  bif PV.isInt IntKind.u32 (getP (PV.ar 51 v7) [v2.toNat]) && true then
                    bif PV.isInt IntKind.u32 (getP (PV.ar 53 v8) [0]) && true then
                      bif PV.isInt IntKind.u32 (getP (PV.ar 53 v8) [0]) && true then
                        bif PV.isInt IntKind.u32 (getP (PV.ar 53 v8) [0]) && true then
                          bif PV.isInt IntKind.u32 (getP (PV.ar 53 v8) [0]) && true then
                            bif PV.isInt IntKind.u32 (getP (PV.ar 53 v8) [1]) && true then
                              bif PV.isInt IntKind.u32 (getP (PV.ar 53 v8) [0]) && true then
                                bif PV.isInt IntKind.u32 (getP (PV.ar 53 v8) [2]) && true then
                                  bif PV.isInt IntKind.u32 (getP (PV.ar 53 v8) [1]) && true then
                                    bif PV.isInt IntKind.u32 (getP (PV.ar 53 v8) [2]) && true then
                                      bif PV.isInt IntKind.u32 (getP (PV.ar 53 v8) [0]) && true then
                                        bif PV.isInt IntKind.u32 (getP (PV.ar 53 v8) [1]) && true then
                                          bif PV.isInt IntKind.u32 (getP (PV.ar 53 v8) [2]) && true then
                                            bif PV.isInt IntKind.u32 (getP (PV.ar 53 v8) [3]) && true then
                                              bif PV.isInt IntKind.u32 (getP (PV.ar 53 v8) [4]) && true then
                                                bif PV.isInt IntKind.u32 (getP (PV.ar 53 v8) [5]) && true then
                                                  bif PV.isInt IntKind.u32 (getP (PV.ar 53 v8) [6]) && true then
                                                    rc v0 v1 (IntKind.i64.wrap
                                                      (v2 +
                                                        1)) v3 v4 v5 v6 v7 ([PV.sc
                                                        (Value.int IntKind.u32
                                                          (IntKind.u32.wrap
                                                            (IntKind.u32.wrap
                                                                (IntKind.u32.wrap
                                                                    (IntKind.u32.wrap
                                                                        (IntKind.u32.wrap
                                                                            ((getP (PV.ar 53 v8) [7]).int +
                                                                              bitI BinOp.xor IntKind.u32
                                                                                (bitI BinOp.xor IntKind.u32 (rr (getP (PV.ar 53 v8) [4]).int 6) (rr (getP (PV.ar 53 v8) [4]).int 11))
                                                                                (rr (getP (PV.ar 53 v8) [4]).int 25)) +
                                                                          bitI BinOp.xor IntKind.u32 (bitI BinOp.and IntKind.u32 (getP (PV.ar 53 v8) [4]).int (getP (PV.ar 53 v8) [5]).int)
                                                                            (bitI BinOp.and IntKind.u32
                                                                              (bitI BinOp.xor IntKind.u32 (Int.ofNat (2 ^ IntKind.u32.bits - Nat.succ 0)) (getP (PV.ar 53 v8) [4]).int)
                                                                              (getP (PV.ar 53 v8) [6]).int)) +
                                                                      (getP (PV.ar 51 v4) [v2.toNat]).int) +
                                                                  (getP (PV.ar 51 v7) [v2.toNat]).int) +
                                                              IntKind.u32.wrap
                                                                (bitI BinOp.xor IntKind.u32 (bitI BinOp.xor IntKind.u32 (rr (getP (PV.ar 53 v8) [0]).int 2) (rr (getP (PV.ar 53 v8) [0]).int 13))
                                                                    (rr (getP (PV.ar 53 v8) [0]).int 22) +
                                                                  bitI BinOp.xor IntKind.u32
                                                                    (bitI BinOp.xor IntKind.u32 (bitI BinOp.and IntKind.u32 (getP (PV.ar 53 v8) [0]).int (getP (PV.ar 53 v8) [1]).int)
                                                                      (bitI BinOp.and IntKind.u32 (getP (PV.ar 53 v8) [0]).int (getP (PV.ar 53 v8) [2]).int))
                                                                    (bitI BinOp.and IntKind.u32 (getP (PV.ar 53 v8) [1]).int (getP (PV.ar 53 v8) [2]).int))))),
                                                      PV.sc (Value.int IntKind.u32 (getP (PV.ar 53 v8) [0]).int), PV.sc (Value.int IntKind.u32 (getP (PV.ar 53 v8) [1]).int),
                                                      PV.sc (Value.int IntKind.u32 (getP (PV.ar 53 v8) [2]).int),
                                                      PV.sc
                                                        (Value.int IntKind.u32
                                                          (IntKind.u32.wrap
                                                            ((getP (PV.ar 53 v8) [3]).int +
                                                              IntKind.u32.wrap
                                                                (IntKind.u32.wrap
                                                                    (IntKind.u32.wrap
                                                                        (IntKind.u32.wrap
                                                                            ((getP (PV.ar 53 v8) [7]).int +
                                                                              bitI BinOp.xor IntKind.u32
                                                                                (bitI BinOp.xor IntKind.u32 (rr (getP (PV.ar 53 v8) [4]).int 6) (rr (getP (PV.ar 53 v8) [4]).int 11))
                                                                                (rr (getP (PV.ar 53 v8) [4]).int 25)) +
                                                                          bitI BinOp.xor IntKind.u32 (bitI BinOp.and IntKind.u32 (getP (PV.ar 53 v8) [4]).int (getP (PV.ar 53 v8) [5]).int)
                                                                            (bitI BinOp.and IntKind.u32
                                                                              (bitI BinOp.xor IntKind.u32 (Int.ofNat (2 ^ IntKind.u32.bits - Nat.succ 0)) (getP (PV.ar 53 v8) [4]).int)
                                                                              (getP (PV.ar 53 v8) [6]).int)) +
                                                                      (getP (PV.ar 51 v4) [v2.toNat]).int) +
                                                                  (getP (PV.ar 51 v7) [v2.toNat]).int)))),
                                                      PV.sc (Value.int IntKind.u32 (getP (PV.ar 53 v8) [4]).int), PV.sc (Value.int IntKind.u32 (getP (PV.ar 53 v8) [5]).int),
                                                      PV.sc (Value.int IntKind.u32 (getP (PV.ar 53 v8) [6]).int)])
                                                  else none
                                                else none
                                              else none
                                            else none
                                          else none
                                        else none
                                      else none
                                    else none
                                  else none
                                else none
                              else none
                            else none
                          else none
                        else none
                      else none
                    else none
                  else none
                else none
              else none
            else none
          else none
        else none
      else none
    else none
  else k0 v0 v1 v3 v4 v5 v6 v7 v8
def lp17_5 (f : Nat) (k0 : Nat → Int → List
  PV → List PV → List PV → List PV → List PV → List PV → Option Res) : Nat → Nat → Int → Int → List PV → List PV → List PV → List PV → List PV → List PV → Option Res
  | 0, _, _, _, _, _, _, _, _, _ => none
  | n + 1, v0, v1, v2, v3, v4, v5, v6, v7, v8 => lpS17_5 f (lp17_5 f k0 n) k0 v0 v1 v2 v3 v4 v5 v6 v7 v8
theorem lpR17_5 (f : Nat) (k : Kont) (n : Nat) (v0 : Nat) (v1 : Int) (v2 : Int) (v3 : List
  PV) (v4 : List
  PV) (v5 : List
  PV) (v6 : List
  PV) (v7 : List
  PV) (v8 : List
  PV) : evLoop tau 0 nm17_5 (fun s k => ev tau F17 0 0 c17_5 (x17_5 ) s k) (n + 1) (fillS nm17_5 N17 [PV.ptr 4464 [], PV.ptr 4465 [], PV.ptr 4466 [], PV.ow 5 4467 [] 0 v0 none, PV.ptr 4468 [],
  PV.sc (Value.int IntKind.i64 v1), PV.ptr 4469 [],
  PV.sc
    (Value.int IntKind.i64
      v2)] [(4464, Ent.box false 26 (PV.ar 26 v3)), (4465, Ent.box false 51 (PV.ar 51 v4)), (4466, Ent.box false 53 (PV.ar 53 v5)), (4467, Ent.vec false 5 false v6),
  (4468, Ent.box false 51 (PV.ar 51 v7)),
  (4469,
    Ent.box false 53
      (PV.ar 53
        v8))]) (kNorm tau 0 nx17_5 k) = lpS17_5 f (fun v0 v1 v2 v3 v4 v5 v6 v7 v8 => evLoop tau 0 nm17_5 (fun s k => ev tau F17 0 0 c17_5 (x17_5 ) s k) n (fillS nm17_5 N17 [PV.ptr 4464 [],
  PV.ptr 4465 [], PV.ptr 4466 [], PV.ow 5 4467 [] 0 v0 none, PV.ptr 4468 [], PV.sc (Value.int IntKind.i64 v1), PV.ptr 4469 [],
  PV.sc
    (Value.int IntKind.i64
      v2)] [(4464, Ent.box false 26 (PV.ar 26 v3)), (4465, Ent.box false 51 (PV.ar 51 v4)), (4466, Ent.box false 53 (PV.ar 53 v5)), (4467, Ent.vec false 5 false v6),
  (4468, Ent.box false 51 (PV.ar 51 v7)),
  (4469,
    Ent.box false 53
      (PV.ar 53
        v8))]) (kNorm tau 0 nx17_5 k)) (fun x0 x1 x2 x3 x4 x5 x6 x7 => k (Ex.exit
  10) (fillS nx17_5 N17 [PV.ptr 4464 [], PV.ptr 4465 [], PV.ptr 4466 [], PV.ow 5 4467 [] 0 x0 none, PV.ptr 4468 [], PV.sc (Value.int IntKind.i64 x1),
  PV.ptr 4469
    []] [(4464, Ent.box false 26 (PV.ar 26 x2)), (4465, Ent.box false 51 (PV.ar 51 x3)), (4466, Ent.box false 53 (PV.ar 53 x4)), (4467, Ent.vec false 5 false x5),
  (4468, Ent.box false 51 (PV.ar 51 x6)), (4469, Ent.box false 53 (PV.ar 53 x7))])) v0 v1 v2 v3 v4 v5 v6 v7 v8 := by kernel_rfl
theorem lpE17_5 (f : Nat) (k : Kont) : ∀ (n : Nat) (v0 : Nat) (v1 : Int) (v2 : Int) (v3 : List
  PV) (v4 : List
  PV) (v5 : List
  PV) (v6 : List
  PV) (v7 : List
  PV) (v8 : List
  PV), evLoop tau 0 nm17_5 (fun s k => ev tau F17 0 0 c17_5 (x17_5 ) s k) n (fillS nm17_5 N17 [PV.ptr 4464 [], PV.ptr 4465 [], PV.ptr 4466 [], PV.ow 5 4467 [] 0 v0 none, PV.ptr 4468 [],
  PV.sc (Value.int IntKind.i64 v1), PV.ptr 4469 [],
  PV.sc
    (Value.int IntKind.i64
      v2)] [(4464, Ent.box false 26 (PV.ar 26 v3)), (4465, Ent.box false 51 (PV.ar 51 v4)), (4466, Ent.box false 53 (PV.ar 53 v5)), (4467, Ent.vec false 5 false v6),
  (4468, Ent.box false 51 (PV.ar 51 v7)),
  (4469,
    Ent.box false 53
      (PV.ar 53
        v8))]) (kNorm tau 0 nx17_5 k) = lp17_5 f (fun x0 x1 x2 x3 x4 x5 x6 x7 => k (Ex.exit
  10) (fillS nx17_5 N17 [PV.ptr 4464 [], PV.ptr 4465 [], PV.ptr 4466 [], PV.ow 5 4467 [] 0 x0 none, PV.ptr 4468 [], PV.sc (Value.int IntKind.i64 x1),
  PV.ptr 4469
    []] [(4464, Ent.box false 26 (PV.ar 26 x2)), (4465, Ent.box false 51 (PV.ar 51 x3)), (4466, Ent.box false 53 (PV.ar 53 x4)), (4467, Ent.vec false 5 false x5),
  (4468, Ent.box false 51 (PV.ar 51 x6)), (4469, Ent.box false 53 (PV.ar 53 x7))])) n v0 v1 v2 v3 v4 v5 v6 v7 v8
  | 0, _, _, _, _, _, _, _, _, _ => rfl
  | n + 1, v0, v1, v2, v3, v4, v5, v6, v7, v8 => (lpR17_5 f k n v0 v1 v2 v3 v4 v5 v6 v7 v8).trans (congrArg (fun r => lpS17_5 f r (fun x0 x1 x2 x3 x4 x5 x6 x7 => k (Ex.exit
  10) (fillS nx17_5 N17 [PV.ptr 4464 [], PV.ptr 4465 [], PV.ptr 4466 [], PV.ow 5 4467 [] 0 x0 none, PV.ptr 4468 [], PV.sc (Value.int IntKind.i64 x1),
  PV.ptr 4469
    []] [(4464, Ent.box false 26 (PV.ar 26 x2)), (4465, Ent.box false 51 (PV.ar 51 x3)), (4466, Ent.box false 53 (PV.ar 53 x4)), (4467, Ent.vec false 5 false x5),
  (4468, Ent.box false 51 (PV.ar 51 x6)), (4469, Ent.box false 53 (PV.ar 53 x7))])) v0 v1 v2 v3 v4 v5 v6 v7 v8) (by funext v0 v1 v2 v3 v4 v5 v6 v7 v8; exact lpE17_5 f k n v0 v1 v2 v3 v4 v5 v6 v7 v8))
def r17_5 (f : Nat) : List PV → List (Nat × Ent) → Kont → Option Res
  | [PV.ptr 4464 [], PV.ptr 4465 [], PV.ptr 4466 [], PV.ow 5 4467 [] 0 v0 none, PV.ptr 4468 [], PV.sc (Value.int IntKind.i64 v1), PV.ptr 4469 [],
  PV.sc
    (Value.int IntKind.i64
      v2)], [(4464, Ent.box false 26 (PV.ar 26 v3)), (4465, Ent.box false 51 (PV.ar 51 v4)), (4466, Ent.box false 53 (PV.ar 53 v5)), (4467, Ent.vec false 5 false v6),
  (4468, Ent.box false 51 (PV.ar 51 v7)),
  (4469,
    Ent.box false 53
      (PV.ar 53
        v8))], k => lp17_5 f (fun x0 x1 x2 x3 x4 x5 x6 x7 => k (Ex.exit
  10) (fillS nx17_5 N17 [PV.ptr 4464 [], PV.ptr 4465 [], PV.ptr 4466 [], PV.ow 5 4467 [] 0 x0 none, PV.ptr 4468 [], PV.sc (Value.int IntKind.i64 x1),
  PV.ptr 4469
    []] [(4464, Ent.box false 26 (PV.ar 26 x2)), (4465, Ent.box false 51 (PV.ar 51 x3)), (4466, Ent.box false 53 (PV.ar 53 x4)), (4467, Ent.vec false 5 false x5),
  (4468, Ent.box false 51 (PV.ar 51 x6)), (4469, Ent.box false 53 (PV.ar 53 x7))])) f v0 v1 v2 v3 v4 v5 v6 v7 v8
  | _, _, _ => none
theorem it17_5 (f : Nat) : items c17_5 x17_5 = [] := by kernel_rfl
theorem i17_5 (f : Nat) : (Item.l c17_5 nm17_5 N17 (r17_5 f)).Ok tau Try.prog 0 := loop_item tabOk F17_ok mixed (x := x17_5) (nm2 := nx17_5) (anOk_items _ _ (by rw [it17_5 f]; intro q hq; cases hq)) fun vs hp k res hr => by
  unfold r17_5 at hr
  split at hr
  · exact ⟨f, 0, (lpE17_5 f _ f _ _ _ _ _ _ _ _ _ ).trans hr⟩
  · cases hr
def lpS17_6 (f : Nat) (rc : Nat → Int → Int → List
  PV → List
  PV → List
  PV → List
  PV → List
  PV → List
  PV → Option Res) (k0 : Nat → Int → List
  PV → List PV → List PV → List PV → List PV → Option Res) (v0 : Nat) (v1 : Int) (v2 : Int) (v3 : List PV) (v4 : List PV) (v5 : List PV) (v6 : List PV) (v7 : List PV) (v8 : List PV) : Option Res :=
  bif decide (v2 < 8) then
    bif decide (0 ≤ v2) && decide (v2 < zi 8) && true then
      bif PV.isInt IntKind.u32 (getP (PV.ar 53 v5) [v2.toNat]) && true then
        bif decide (0 ≤ v2) && decide (v2 < zi 8) && true then
          bif PV.isInt IntKind.u32 (getP (PV.ar 53 v8) [v2.toNat]) && true then
            bif decide (0 ≤ v2) && decide (v2 < zi 8) && true then
              rc v0 v1 (IntKind.i64.wrap
                (v2 + 1)) v3 v4 (v5.set v2.toNat (PV.sc (Value.int IntKind.u32 (IntKind.u32.wrap ((getP (PV.ar 53 v5) [v2.toNat]).int + (getP (PV.ar 53 v8) [v2.toNat]).int))))) v6 v7 v8
            else none
          else none
        else none
      else none
    else none
  else k0 v0 v1 v3 v4 v5 v6 v7
def lp17_6 (f : Nat) (k0 : Nat → Int → List PV → List PV → List PV → List PV → List PV → Option Res) : Nat → Nat → Int → Int → List PV → List PV → List PV → List PV → List PV → List PV → Option Res
  | 0, _, _, _, _, _, _, _, _, _ => none
  | n + 1, v0, v1, v2, v3, v4, v5, v6, v7, v8 => lpS17_6 f (lp17_6 f k0 n) k0 v0 v1 v2 v3 v4 v5 v6 v7 v8
theorem lpR17_6 (f : Nat) (k : Kont) (n : Nat) (v0 : Nat) (v1 : Int) (v2 : Int) (v3 : List
  PV) (v4 : List
  PV) (v5 : List
  PV) (v6 : List
  PV) (v7 : List
  PV) (v8 : List
  PV) : evLoop tau 0 nm17_6 (fun s k => ev tau F17 0 0 c17_6 (x17_6 ) s k) (n + 1) (fillS nm17_6 N17 [PV.ptr 4464 [], PV.ptr 4465 [], PV.ptr 4466 [], PV.ow 5 4467 [] 0 v0 none, PV.ptr 4468 [],
  PV.sc (Value.int IntKind.i64 v1), PV.ptr 4469 [],
  PV.sc
    (Value.int IntKind.i64
      v2)] [(4464, Ent.box false 26 (PV.ar 26 v3)), (4465, Ent.box false 51 (PV.ar 51 v4)), (4466, Ent.box false 53 (PV.ar 53 v5)), (4467, Ent.vec false 5 false v6),
  (4468, Ent.box false 51 (PV.ar 51 v7)),
  (4469,
    Ent.box false 53
      (PV.ar 53
        v8))]) (kNorm tau 0 nx17_6 k) = lpS17_6 f (fun v0 v1 v2 v3 v4 v5 v6 v7 v8 => evLoop tau 0 nm17_6 (fun s k => ev tau F17 0 0 c17_6 (x17_6 ) s k) n (fillS nm17_6 N17 [PV.ptr 4464 [],
  PV.ptr 4465 [], PV.ptr 4466 [], PV.ow 5 4467 [] 0 v0 none, PV.ptr 4468 [], PV.sc (Value.int IntKind.i64 v1), PV.ptr 4469 [],
  PV.sc
    (Value.int IntKind.i64
      v2)] [(4464, Ent.box false 26 (PV.ar 26 v3)), (4465, Ent.box false 51 (PV.ar 51 v4)), (4466, Ent.box false 53 (PV.ar 53 v5)), (4467, Ent.vec false 5 false v6),
  (4468, Ent.box false 51 (PV.ar 51 v7)),
  (4469,
    Ent.box false 53
      (PV.ar 53
        v8))]) (kNorm tau 0 nx17_6 k)) (fun x0 x1 x2 x3 x4 x5 x6 => k (Ex.exit
  12) (fillS nx17_6 N17 [PV.ptr 4464 [], PV.ptr 4465 [], PV.ptr 4466 [], PV.ow 5 4467 [] 0 x0 none, PV.ptr 4468 [],
  PV.sc
    (Value.int IntKind.i64
      x1)] [(4464, Ent.box false 26 (PV.ar 26 x2)), (4465, Ent.box false 51 (PV.ar 51 x3)), (4466, Ent.box false 53 (PV.ar 53 x4)), (4467, Ent.vec false 5 false x5),
  (4468, Ent.box false 51 (PV.ar 51 x6))])) v0 v1 v2 v3 v4 v5 v6 v7 v8 := by kernel_rfl
theorem lpE17_6 (f : Nat) (k : Kont) : ∀ (n : Nat) (v0 : Nat) (v1 : Int) (v2 : Int) (v3 : List
  PV) (v4 : List
  PV) (v5 : List
  PV) (v6 : List
  PV) (v7 : List
  PV) (v8 : List
  PV), evLoop tau 0 nm17_6 (fun s k => ev tau F17 0 0 c17_6 (x17_6 ) s k) n (fillS nm17_6 N17 [PV.ptr 4464 [], PV.ptr 4465 [], PV.ptr 4466 [], PV.ow 5 4467 [] 0 v0 none, PV.ptr 4468 [],
  PV.sc (Value.int IntKind.i64 v1), PV.ptr 4469 [],
  PV.sc
    (Value.int IntKind.i64
      v2)] [(4464, Ent.box false 26 (PV.ar 26 v3)), (4465, Ent.box false 51 (PV.ar 51 v4)), (4466, Ent.box false 53 (PV.ar 53 v5)), (4467, Ent.vec false 5 false v6),
  (4468, Ent.box false 51 (PV.ar 51 v7)),
  (4469,
    Ent.box false 53
      (PV.ar 53
        v8))]) (kNorm tau 0 nx17_6 k) = lp17_6 f (fun x0 x1 x2 x3 x4 x5 x6 => k (Ex.exit
  12) (fillS nx17_6 N17 [PV.ptr 4464 [], PV.ptr 4465 [], PV.ptr 4466 [], PV.ow 5 4467 [] 0 x0 none, PV.ptr 4468 [],
  PV.sc
    (Value.int IntKind.i64
      x1)] [(4464, Ent.box false 26 (PV.ar 26 x2)), (4465, Ent.box false 51 (PV.ar 51 x3)), (4466, Ent.box false 53 (PV.ar 53 x4)), (4467, Ent.vec false 5 false x5),
  (4468, Ent.box false 51 (PV.ar 51 x6))])) n v0 v1 v2 v3 v4 v5 v6 v7 v8
  | 0, _, _, _, _, _, _, _, _, _ => rfl
  | n + 1, v0, v1, v2, v3, v4, v5, v6, v7, v8 => (lpR17_6 f k n v0 v1 v2 v3 v4 v5 v6 v7 v8).trans (congrArg (fun r => lpS17_6 f r (fun x0 x1 x2 x3 x4 x5 x6 => k (Ex.exit
  12) (fillS nx17_6 N17 [PV.ptr 4464 [], PV.ptr 4465 [], PV.ptr 4466 [], PV.ow 5 4467 [] 0 x0 none, PV.ptr 4468 [],
  PV.sc
    (Value.int IntKind.i64
      x1)] [(4464, Ent.box false 26 (PV.ar 26 x2)), (4465, Ent.box false 51 (PV.ar 51 x3)), (4466, Ent.box false 53 (PV.ar 53 x4)), (4467, Ent.vec false 5 false x5),
  (4468, Ent.box false 51 (PV.ar 51 x6))])) v0 v1 v2 v3 v4 v5 v6 v7 v8) (by funext v0 v1 v2 v3 v4 v5 v6 v7 v8; exact lpE17_6 f k n v0 v1 v2 v3 v4 v5 v6 v7 v8))
def r17_6 (f : Nat) : List PV → List (Nat × Ent) → Kont → Option Res
  | [PV.ptr 4464 [], PV.ptr 4465 [], PV.ptr 4466 [], PV.ow 5 4467 [] 0 v0 none, PV.ptr 4468 [], PV.sc (Value.int IntKind.i64 v1), PV.ptr 4469 [],
  PV.sc
    (Value.int IntKind.i64
      v2)], [(4464, Ent.box false 26 (PV.ar 26 v3)), (4465, Ent.box false 51 (PV.ar 51 v4)), (4466, Ent.box false 53 (PV.ar 53 v5)), (4467, Ent.vec false 5 false v6),
  (4468, Ent.box false 51 (PV.ar 51 v7)),
  (4469,
    Ent.box false 53
      (PV.ar 53
        v8))], k => lp17_6 f (fun x0 x1 x2 x3 x4 x5 x6 => k (Ex.exit
  12) (fillS nx17_6 N17 [PV.ptr 4464 [], PV.ptr 4465 [], PV.ptr 4466 [], PV.ow 5 4467 [] 0 x0 none, PV.ptr 4468 [],
  PV.sc
    (Value.int IntKind.i64
      x1)] [(4464, Ent.box false 26 (PV.ar 26 x2)), (4465, Ent.box false 51 (PV.ar 51 x3)), (4466, Ent.box false 53 (PV.ar 53 x4)), (4467, Ent.vec false 5 false x5),
  (4468, Ent.box false 51 (PV.ar 51 x6))])) f v0 v1 v2 v3 v4 v5 v6 v7 v8
  | _, _, _ => none
theorem it17_6 (f : Nat) : items c17_6 x17_6 = [] := by kernel_rfl
theorem i17_6 (f : Nat) : (Item.l c17_6 nm17_6 N17 (r17_6 f)).Ok tau Try.prog 0 := loop_item tabOk F17_ok mixed (x := x17_6) (nm2 := nx17_6) (anOk_items _ _ (by rw [it17_6 f]; intro q hq; cases hq)) fun vs hp k res hr => by
  unfold r17_6 at hr
  split at hr
  · exact ⟨f, 0, (lpE17_6 f _ f _ _ _ _ _ _ _ _ _ ).trans hr⟩
  · cases hr
def lpS17_2 (f : Nat) (rc : Nat → Int → List
  PV → List
  PV → List PV → List PV → List PV → Option Res) (k0 : List PV → List PV → Option Res) (v0 : Nat) (v1 : Int) (v2 : List PV) (v3 : List PV) (v4 : List PV) (v5 : List PV) (v6 : List PV) : Option Res :=
  bif decide (v1 < zi v0) then
    lp17_3 f (fun x0_2 x1_2 x2_2 x3_2 x4_2 x5_2 x6_2 =>
      lp17_4 f (fun x0_3 x1_3 x2_3 x3_3 x4_3 x5_3 x6_3 =>
        lp17_5 f (fun x0_4 x1_4 x2_4 x3_4 x4_4 x5_4 x6_4 x7_4 =>
          lp17_6 f (fun x0_5 x1_5 x2_5 x3_5 x4_5 x5_5 x6_5 =>
            rc x0_5 (IntKind.i64.wrap
              (x1_5 +
                64)) x2_5 x3_5 x4_5 x5_5 x6_5) f x0_4 x1_4 (0) x2_4 x3_4 x4_4 x5_4 x6_4 x7_4) f x0_3 x1_3 (0) x2_3 x3_3 x4_3 x5_3 x6_3 x4_3) f x0_2 x1_2 (16) x2_2 x3_2 x4_2 x5_2 x6_2) f v0 v1 (0) v2 v3 v4 v5 v6
  else k0 v2 v4
def lp17_2 (f : Nat) (k0 : List PV → List PV → Option Res) : Nat → Nat → Int → List PV → List PV → List PV → List PV → List PV → Option Res
  | 0, _, _, _, _, _, _, _ => none
  | n + 1, v0, v1, v2, v3, v4, v5, v6 => lpS17_2 f (lp17_2 f k0 n) k0 v0 v1 v2 v3 v4 v5 v6
theorem lpR17_2 (f : Nat) (k : Kont) (n : Nat) (v0 : Nat) (v1 : Int) (v2 : List
  PV) (v3 : List
  PV) (v4 : List
  PV) (v5 : List
  PV) (v6 : List
  PV) : evLoop tau 0 nm17_2 (fun s k => ev tau F17 0 0 c17_2 (x17_2 (r17_3 f) (r17_4 f) (r17_5 f) (r17_6 f)) s k) (n + 1) (fillS nm17_2 N17 [PV.ptr 4464 [], PV.ptr 4465 [], PV.ptr 4466 [], PV.ow 5 4467 [] 0 v0 none, PV.ptr 4468 [],
  PV.sc
    (Value.int IntKind.i64
      v1)] [(4464, Ent.box false 26 (PV.ar 26 v2)), (4465, Ent.box false 51 (PV.ar 51 v3)), (4466, Ent.box false 53 (PV.ar 53 v4)), (4467, Ent.vec false 5 false v5),
  (4468,
    Ent.box false 51
      (PV.ar 51
        v6))]) (kNorm tau 0 nx17_2 k) = lpS17_2 f (fun v0 v1 v2 v3 v4 v5 v6 => evLoop tau 0 nm17_2 (fun s k => ev tau F17 0 0 c17_2 (x17_2 (r17_3 f) (r17_4 f) (r17_5 f) (r17_6 f)) s k) n (fillS nm17_2 N17 [PV.ptr 4464 [],
  PV.ptr 4465 [], PV.ptr 4466 [], PV.ow 5 4467 [] 0 v0 none, PV.ptr 4468 [],
  PV.sc
    (Value.int IntKind.i64
      v1)] [(4464, Ent.box false 26 (PV.ar 26 v2)), (4465, Ent.box false 51 (PV.ar 51 v3)), (4466, Ent.box false 53 (PV.ar 53 v4)), (4467, Ent.vec false 5 false v5),
  (4468,
    Ent.box false 51
      (PV.ar 51
        v6))]) (kNorm tau 0 nx17_2 k)) (fun x0 x1 => k (Ex.exit
  4) (fillS nx17_2 N17 [PV.ptr 4464 [], PV.ptr 4465 []] [(4464, Ent.box false 26 (PV.ar 26 x0)), (4465, Ent.box false 53 (PV.ar 53 x1))])) v0 v1 v2 v3 v4 v5 v6 := by kernel_rfl
theorem lpE17_2 (f : Nat) (k : Kont) : ∀ (n : Nat) (v0 : Nat) (v1 : Int) (v2 : List
  PV) (v3 : List
  PV) (v4 : List
  PV) (v5 : List
  PV) (v6 : List
  PV), evLoop tau 0 nm17_2 (fun s k => ev tau F17 0 0 c17_2 (x17_2 (r17_3 f) (r17_4 f) (r17_5 f) (r17_6 f)) s k) n (fillS nm17_2 N17 [PV.ptr 4464 [], PV.ptr 4465 [], PV.ptr 4466 [], PV.ow 5 4467 [] 0 v0 none, PV.ptr 4468 [],
  PV.sc
    (Value.int IntKind.i64
      v1)] [(4464, Ent.box false 26 (PV.ar 26 v2)), (4465, Ent.box false 51 (PV.ar 51 v3)), (4466, Ent.box false 53 (PV.ar 53 v4)), (4467, Ent.vec false 5 false v5),
  (4468,
    Ent.box false 51
      (PV.ar 51
        v6))]) (kNorm tau 0 nx17_2 k) = lp17_2 f (fun x0 x1 => k (Ex.exit
  4) (fillS nx17_2 N17 [PV.ptr 4464 [], PV.ptr 4465 []] [(4464, Ent.box false 26 (PV.ar 26 x0)), (4465, Ent.box false 53 (PV.ar 53 x1))])) n v0 v1 v2 v3 v4 v5 v6
  | 0, _, _, _, _, _, _, _ => rfl
  | n + 1, v0, v1, v2, v3, v4, v5, v6 => (lpR17_2 f k n v0 v1 v2 v3 v4 v5 v6).trans (congrArg (fun r => lpS17_2 f r (fun x0 x1 => k (Ex.exit
  4) (fillS nx17_2 N17 [PV.ptr 4464 [],
  PV.ptr 4465 []] [(4464, Ent.box false 26 (PV.ar 26 x0)), (4465, Ent.box false 53 (PV.ar 53 x1))])) v0 v1 v2 v3 v4 v5 v6) (by funext v0 v1 v2 v3 v4 v5 v6; exact lpE17_2 f k n v0 v1 v2 v3 v4 v5 v6))
def r17_2 (f : Nat) : List PV → List (Nat × Ent) → Kont → Option Res
  | [PV.ptr 4464 [], PV.ptr 4465 [], PV.ptr 4466 [], PV.ow 5 4467 [] 0 v0 none, PV.ptr 4468 [],
  PV.sc
    (Value.int IntKind.i64
      v1)], [(4464, Ent.box false 26 (PV.ar 26 v2)), (4465, Ent.box false 51 (PV.ar 51 v3)), (4466, Ent.box false 53 (PV.ar 53 v4)), (4467, Ent.vec false 5 false v5),
  (4468,
    Ent.box false 51
      (PV.ar 51
        v6))], k => lp17_2 f (fun x0 x1 => k (Ex.exit
  4) (fillS nx17_2 N17 [PV.ptr 4464 [], PV.ptr 4465 []] [(4464, Ent.box false 26 (PV.ar 26 x0)), (4465, Ent.box false 53 (PV.ar 53 x1))])) f v0 v1 v2 v3 v4 v5 v6
  | _, _, _ => none
theorem it17_2 (f : Nat) : items c17_2 (x17_2 (r17_3 f) (r17_4 f) (r17_5 f) (r17_6 f)) = [.l c17_3 nm17_3 N17 (r17_3 f), .l c17_4 nm17_4 N17 (r17_4 f), .l c17_5 nm17_5 N17 (r17_5 f), .l c17_6 nm17_6 N17 (r17_6 f)] := by kernel_rfl
theorem i17_2 (f : Nat) : (Item.l c17_2 nm17_2 N17 (r17_2 f)).Ok tau Try.prog 0 := loop_item tabOk F17_ok mixed (x := (x17_2 (r17_3 f) (r17_4 f) (r17_5 f) (r17_6 f))) (nm2 := nx17_2) (anOk_items _ _ (by rw [it17_2 f]; simp only [List.forall_mem_cons, List.not_mem_nil, false_implies, implies_true, and_true]; exact ⟨i17_3 f, i17_4 f, i17_5 f, i17_6 f⟩)) fun vs hp k res hr => by
  unfold r17_2 at hr
  split at hr
  · exact ⟨f, 0, (lpE17_2 f _ f _ _ _ _ _ _ _ ).trans hr⟩
  · cases hr
def lpS17_7 (f : Nat) (rc : Int → List PV → List PV → List PV → Option Res) (k0 : List PV → List PV → Option Res) (v0 : Int) (v1 : List PV) (v2 : List PV) (v3 : List PV) : Option Res :=
  bif decide (v0 < 8) then
    bif decide (0 ≤ v0) && decide (v0 < zi 8) && true then
      bif PV.isInt IntKind.u32 (getP (PV.ar 53 v2) [v0.toNat]) && true then
        bif decide (0 ≤ v0) && decide (v0 < zi 8) && true then
          bif PV.isInt IntKind.u32 (getP (PV.ar 53 v2) [v0.toNat]) && true then
            bif decide (0 ≤ v0) && decide (v0 < zi 8) && true then
              bif PV.isInt IntKind.u32 (getP (PV.ar 53 v2) [v0.toNat]) && true then
                bif decide (0 ≤ v0) && decide (v0 < zi 8) && true then
                  bif PV.isInt IntKind.u32 (getP (PV.ar 53 v2) [v0.toNat]) && true then
                    bif decide (0 ≤ IntKind.i64.wrap (4 * v0)) && decide (IntKind.i64.wrap (4 * v0) < zi 32) && true then
                      bif decide (0 ≤ IntKind.i64.wrap (IntKind.i64.wrap (4 * v0) + 1)) && decide (IntKind.i64.wrap (IntKind.i64.wrap (4 * v0) + 1) < zi 32) && true then
                        bif decide (0 ≤ IntKind.i64.wrap (IntKind.i64.wrap (4 * v0) + 2)) && decide (IntKind.i64.wrap (IntKind.i64.wrap (4 * v0) + 2) < zi 32) && true then
                          bif decide (0 ≤ IntKind.i64.wrap (IntKind.i64.wrap (4 * v0) + 3)) && decide (IntKind.i64.wrap (IntKind.i64.wrap (4 * v0) + 3) < zi 32) && true then
                            rc (IntKind.i64.wrap
                              (v0 +
                                1)) v1 v2 ((((v3.set (IntKind.i64.wrap (4 * v0)).toNat (PV.sc (Value.int IntKind.u8 (IntKind.u8.wrap (shrI IntKind.u32 (getP (PV.ar 53 v2) [v0.toNat]).int 24))))).set
                                      (IntKind.i64.wrap (IntKind.i64.wrap (4 * v0) + 1)).toNat
                                      (PV.sc (Value.int IntKind.u8 (IntKind.u8.wrap (shrI IntKind.u32 (getP (PV.ar 53 v2) [v0.toNat]).int 16))))).set
                                  (IntKind.i64.wrap (IntKind.i64.wrap (4 * v0) + 2)).toNat
                                  (PV.sc (Value.int IntKind.u8 (IntKind.u8.wrap (shrI IntKind.u32 (getP (PV.ar 53 v2) [v0.toNat]).int 8))))).set
                              (IntKind.i64.wrap (IntKind.i64.wrap (4 * v0) + 3)).toNat (PV.sc (Value.int IntKind.u8 (IntKind.u8.wrap (getP (PV.ar 53 v2) [v0.toNat]).int))))
                          else none
                        else none
                      else none
                    else none
                  else none
                else none
              else none
            else none
          else none
        else none
      else none
    else none
  else k0 v1 v3
def lp17_7 (f : Nat) (k0 : List PV → List PV → Option Res) : Nat → Int → List PV → List PV → List PV → Option Res
  | 0, _, _, _, _ => none
  | n + 1, v0, v1, v2, v3 => lpS17_7 f (lp17_7 f k0 n) k0 v0 v1 v2 v3
theorem lpR17_7 (f : Nat) (k : Kont) (n : Nat) (v0 : Int) (v1 : List
  PV) (v2 : List
  PV) (v3 : List
  PV) : evLoop tau 0 nm17_7 (fun s k => ev tau F17 0 0 c17_7 (x17_7 ) s k) (n + 1) (fillS nm17_7 N17 [PV.ptr 4464 [], PV.ptr 4465 [], PV.ptr 4466 [],
  PV.sc
    (Value.int IntKind.i64
      v0)] [(4464, Ent.box false 26 (PV.ar 26 v1)), (4465, Ent.box false 53 (PV.ar 53 v2)),
  (4466,
    Ent.box false 26
      (PV.ar 26
        v3))]) (kNorm tau 0 nx17_7 k) = lpS17_7 f (fun v0 v1 v2 v3 => evLoop tau 0 nm17_7 (fun s k => ev tau F17 0 0 c17_7 (x17_7 ) s k) n (fillS nm17_7 N17 [PV.ptr 4464 [], PV.ptr 4465 [],
  PV.ptr 4466 [],
  PV.sc
    (Value.int IntKind.i64
      v0)] [(4464, Ent.box false 26 (PV.ar 26 v1)), (4465, Ent.box false 53 (PV.ar 53 v2)),
  (4466,
    Ent.box false 26
      (PV.ar 26
        v3))]) (kNorm tau 0 nx17_7 k)) (fun x0 x1 => k (Ex.exit
  14) (fillS nx17_7 N17 [PV.ptr 4464 [], PV.ptr 4465 []] [(4464, Ent.box false 26 (PV.ar 26 x0)), (4465, Ent.box false 26 (PV.ar 26 x1))])) v0 v1 v2 v3 := by kernel_rfl
theorem lpE17_7 (f : Nat) (k : Kont) : ∀ (n : Nat) (v0 : Int) (v1 : List
  PV) (v2 : List
  PV) (v3 : List
  PV), evLoop tau 0 nm17_7 (fun s k => ev tau F17 0 0 c17_7 (x17_7 ) s k) n (fillS nm17_7 N17 [PV.ptr 4464 [], PV.ptr 4465 [], PV.ptr 4466 [],
  PV.sc
    (Value.int IntKind.i64
      v0)] [(4464, Ent.box false 26 (PV.ar 26 v1)), (4465, Ent.box false 53 (PV.ar 53 v2)),
  (4466,
    Ent.box false 26
      (PV.ar 26
        v3))]) (kNorm tau 0 nx17_7 k) = lp17_7 f (fun x0 x1 => k (Ex.exit
  14) (fillS nx17_7 N17 [PV.ptr 4464 [], PV.ptr 4465 []] [(4464, Ent.box false 26 (PV.ar 26 x0)), (4465, Ent.box false 26 (PV.ar 26 x1))])) n v0 v1 v2 v3
  | 0, _, _, _, _ => rfl
  | n + 1, v0, v1, v2, v3 => (lpR17_7 f k n v0 v1 v2 v3).trans (congrArg (fun r => lpS17_7 f r (fun x0 x1 => k (Ex.exit
  14) (fillS nx17_7 N17 [PV.ptr 4464 [],
  PV.ptr 4465 []] [(4464, Ent.box false 26 (PV.ar 26 x0)), (4465, Ent.box false 26 (PV.ar 26 x1))])) v0 v1 v2 v3) (by funext v0 v1 v2 v3; exact lpE17_7 f k n v0 v1 v2 v3))
def r17_7 (f : Nat) : List PV → List (Nat × Ent) → Kont → Option Res
  | [PV.ptr 4464 [], PV.ptr 4465 [], PV.ptr 4466 [],
  PV.sc
    (Value.int IntKind.i64
      v0)], [(4464, Ent.box false 26 (PV.ar 26 v1)), (4465, Ent.box false 53 (PV.ar 53 v2)),
  (4466,
    Ent.box false 26
      (PV.ar 26
        v3))], k => lp17_7 f (fun x0 x1 => k (Ex.exit
  14) (fillS nx17_7 N17 [PV.ptr 4464 [], PV.ptr 4465 []] [(4464, Ent.box false 26 (PV.ar 26 x0)), (4465, Ent.box false 26 (PV.ar 26 x1))])) f v0 v1 v2 v3
  | _, _, _ => none
theorem it17_7 (f : Nat) : items c17_7 x17_7 = [] := by kernel_rfl
theorem i17_7 (f : Nat) : (Item.l c17_7 nm17_7 N17 (r17_7 f)).Ok tau Try.prog 0 := loop_item tabOk F17_ok mixed (x := x17_7) (nm2 := nx17_7) (anOk_items _ _ (by rw [it17_7 f]; intro q hq; cases hq)) fun vs hp k res hr => by
  unfold r17_7 at hr
  split at hr
  · exact ⟨f, 0, (lpE17_7 f _ f _ _ _ _ ).trans hr⟩
  · cases hr
def g17 (f : Nat) (nl : Bool) (fl : Bool) (b : List PV) (k : Res → Option Res) : Option Res :=
  bif roomy (0 + b.length) 1 && true then
    bif roomy (0 + b.length + 1) 1 && true then
      lp17_0 f (fun x0_0 x1_0 x2_0 x3_0 x4_0 x5_0 x6_0 x7_0 =>
        lp17_1 f (fun x0_1 x1_1 x2_1 x3_1 x4_1 =>
          lp17_2 f (fun x0_6 x1_6 =>
            lp17_7 f (fun x0_7 x1_7 =>
              k (Res.mk (PV.ar 26 x1_7) []
                [])) f (0) x0_6 x1_6 ([PV.sc (Value.int IntKind.u8 0), PV.sc (Value.int IntKind.u8 0), PV.sc (Value.int IntKind.u8 0), PV.sc (Value.int IntKind.u8 0), PV.sc (Value.int IntKind.u8 0),
              PV.sc (Value.int IntKind.u8 0), PV.sc (Value.int IntKind.u8 0), PV.sc (Value.int IntKind.u8 0), PV.sc (Value.int IntKind.u8 0), PV.sc (Value.int IntKind.u8 0),
              PV.sc (Value.int IntKind.u8 0), PV.sc (Value.int IntKind.u8 0), PV.sc (Value.int IntKind.u8 0), PV.sc (Value.int IntKind.u8 0), PV.sc (Value.int IntKind.u8 0),
              PV.sc (Value.int IntKind.u8 0), PV.sc (Value.int IntKind.u8 0), PV.sc (Value.int IntKind.u8 0), PV.sc (Value.int IntKind.u8 0), PV.sc (Value.int IntKind.u8 0),
              PV.sc (Value.int IntKind.u8 0), PV.sc (Value.int IntKind.u8 0), PV.sc (Value.int IntKind.u8 0), PV.sc (Value.int IntKind.u8 0), PV.sc (Value.int IntKind.u8 0),
              PV.sc (Value.int IntKind.u8 0), PV.sc (Value.int IntKind.u8 0), PV.sc (Value.int IntKind.u8 0), PV.sc (Value.int IntKind.u8 0), PV.sc (Value.int IntKind.u8 0),
              PV.sc (Value.int IntKind.u8 0),
              PV.sc
                (Value.int IntKind.u8
                  0)])) f x0_1 (0) x1_1 x2_1 x3_1 x4_1 ([PV.sc (Value.int IntKind.u32 0), PV.sc (Value.int IntKind.u32 0), PV.sc (Value.int IntKind.u32 0), PV.sc (Value.int IntKind.u32 0),
            PV.sc (Value.int IntKind.u32 0), PV.sc (Value.int IntKind.u32 0), PV.sc (Value.int IntKind.u32 0), PV.sc (Value.int IntKind.u32 0), PV.sc (Value.int IntKind.u32 0),
            PV.sc (Value.int IntKind.u32 0), PV.sc (Value.int IntKind.u32 0), PV.sc (Value.int IntKind.u32 0), PV.sc (Value.int IntKind.u32 0), PV.sc (Value.int IntKind.u32 0),
            PV.sc (Value.int IntKind.u32 0), PV.sc (Value.int IntKind.u32 0), PV.sc (Value.int IntKind.u32 0), PV.sc (Value.int IntKind.u32 0), PV.sc (Value.int IntKind.u32 0),
            PV.sc (Value.int IntKind.u32 0), PV.sc (Value.int IntKind.u32 0), PV.sc (Value.int IntKind.u32 0), PV.sc (Value.int IntKind.u32 0), PV.sc (Value.int IntKind.u32 0),
            PV.sc (Value.int IntKind.u32 0), PV.sc (Value.int IntKind.u32 0), PV.sc (Value.int IntKind.u32 0), PV.sc (Value.int IntKind.u32 0), PV.sc (Value.int IntKind.u32 0),
            PV.sc (Value.int IntKind.u32 0), PV.sc (Value.int IntKind.u32 0), PV.sc (Value.int IntKind.u32 0), PV.sc (Value.int IntKind.u32 0), PV.sc (Value.int IntKind.u32 0),
            PV.sc (Value.int IntKind.u32 0), PV.sc (Value.int IntKind.u32 0), PV.sc (Value.int IntKind.u32 0), PV.sc (Value.int IntKind.u32 0), PV.sc (Value.int IntKind.u32 0),
            PV.sc (Value.int IntKind.u32 0), PV.sc (Value.int IntKind.u32 0), PV.sc (Value.int IntKind.u32 0), PV.sc (Value.int IntKind.u32 0), PV.sc (Value.int IntKind.u32 0),
            PV.sc (Value.int IntKind.u32 0), PV.sc (Value.int IntKind.u32 0), PV.sc (Value.int IntKind.u32 0), PV.sc (Value.int IntKind.u32 0), PV.sc (Value.int IntKind.u32 0),
            PV.sc (Value.int IntKind.u32 0), PV.sc (Value.int IntKind.u32 0), PV.sc (Value.int IntKind.u32 0), PV.sc (Value.int IntKind.u32 0), PV.sc (Value.int IntKind.u32 0),
            PV.sc (Value.int IntKind.u32 0), PV.sc (Value.int IntKind.u32 0), PV.sc (Value.int IntKind.u32 0), PV.sc (Value.int IntKind.u32 0), PV.sc (Value.int IntKind.u32 0),
            PV.sc (Value.int IntKind.u32 0), PV.sc (Value.int IntKind.u32 0), PV.sc (Value.int IntKind.u32 0), PV.sc (Value.int IntKind.u32 0),
            PV.sc
              (Value.int IntKind.u32
                0)])) f x3_0 (IntKind.u64.wrap
          (IntKind.u64.wrap (zi x2_0.length) *
            8)) (7) x4_0 x5_0 x6_0 x7_0) f nl fl b (0 + b.length +
        1) ([PV.sc (Value.int IntKind.u8 0), PV.sc (Value.int IntKind.u8 0), PV.sc (Value.int IntKind.u8 0), PV.sc (Value.int IntKind.u8 0), PV.sc (Value.int IntKind.u8 0),
        PV.sc (Value.int IntKind.u8 0), PV.sc (Value.int IntKind.u8 0), PV.sc (Value.int IntKind.u8 0), PV.sc (Value.int IntKind.u8 0), PV.sc (Value.int IntKind.u8 0), PV.sc (Value.int IntKind.u8 0),
        PV.sc (Value.int IntKind.u8 0), PV.sc (Value.int IntKind.u8 0), PV.sc (Value.int IntKind.u8 0), PV.sc (Value.int IntKind.u8 0), PV.sc (Value.int IntKind.u8 0), PV.sc (Value.int IntKind.u8 0),
        PV.sc (Value.int IntKind.u8 0), PV.sc (Value.int IntKind.u8 0), PV.sc (Value.int IntKind.u8 0), PV.sc (Value.int IntKind.u8 0), PV.sc (Value.int IntKind.u8 0), PV.sc (Value.int IntKind.u8 0),
        PV.sc (Value.int IntKind.u8 0), PV.sc (Value.int IntKind.u8 0), PV.sc (Value.int IntKind.u8 0), PV.sc (Value.int IntKind.u8 0), PV.sc (Value.int IntKind.u8 0), PV.sc (Value.int IntKind.u8 0),
        PV.sc (Value.int IntKind.u8 0), PV.sc (Value.int IntKind.u8 0),
        PV.sc
          (Value.int IntKind.u8
            0)]) ([PV.sc (Value.int IntKind.u32 1116352408), PV.sc (Value.int IntKind.u32 1899447441), PV.sc (Value.int IntKind.u32 3049323471), PV.sc (Value.int IntKind.u32 3921009573),
        PV.sc (Value.int IntKind.u32 961987163), PV.sc (Value.int IntKind.u32 1508970993), PV.sc (Value.int IntKind.u32 2453635748), PV.sc (Value.int IntKind.u32 2870763221),
        PV.sc (Value.int IntKind.u32 3624381080), PV.sc (Value.int IntKind.u32 310598401), PV.sc (Value.int IntKind.u32 607225278), PV.sc (Value.int IntKind.u32 1426881987),
        PV.sc (Value.int IntKind.u32 1925078388), PV.sc (Value.int IntKind.u32 2162078206), PV.sc (Value.int IntKind.u32 2614888103), PV.sc (Value.int IntKind.u32 3248222580),
        PV.sc (Value.int IntKind.u32 3835390401), PV.sc (Value.int IntKind.u32 4022224774), PV.sc (Value.int IntKind.u32 264347078), PV.sc (Value.int IntKind.u32 604807628),
        PV.sc (Value.int IntKind.u32 770255983), PV.sc (Value.int IntKind.u32 1249150122), PV.sc (Value.int IntKind.u32 1555081692), PV.sc (Value.int IntKind.u32 1996064986),
        PV.sc (Value.int IntKind.u32 2554220882), PV.sc (Value.int IntKind.u32 2821834349), PV.sc (Value.int IntKind.u32 2952996808), PV.sc (Value.int IntKind.u32 3210313671),
        PV.sc (Value.int IntKind.u32 3336571891), PV.sc (Value.int IntKind.u32 3584528711), PV.sc (Value.int IntKind.u32 113926993), PV.sc (Value.int IntKind.u32 338241895),
        PV.sc (Value.int IntKind.u32 666307205), PV.sc (Value.int IntKind.u32 773529912), PV.sc (Value.int IntKind.u32 1294757372), PV.sc (Value.int IntKind.u32 1396182291),
        PV.sc (Value.int IntKind.u32 1695183700), PV.sc (Value.int IntKind.u32 1986661051), PV.sc (Value.int IntKind.u32 2177026350), PV.sc (Value.int IntKind.u32 2456956037),
        PV.sc (Value.int IntKind.u32 2730485921), PV.sc (Value.int IntKind.u32 2820302411), PV.sc (Value.int IntKind.u32 3259730800), PV.sc (Value.int IntKind.u32 3345764771),
        PV.sc (Value.int IntKind.u32 3516065817), PV.sc (Value.int IntKind.u32 3600352804), PV.sc (Value.int IntKind.u32 4094571909), PV.sc (Value.int IntKind.u32 275423344),
        PV.sc (Value.int IntKind.u32 430227734), PV.sc (Value.int IntKind.u32 506948616), PV.sc (Value.int IntKind.u32 659060556), PV.sc (Value.int IntKind.u32 883997877),
        PV.sc (Value.int IntKind.u32 958139571), PV.sc (Value.int IntKind.u32 1322822218), PV.sc (Value.int IntKind.u32 1537002063), PV.sc (Value.int IntKind.u32 1747873779),
        PV.sc (Value.int IntKind.u32 1955562222), PV.sc (Value.int IntKind.u32 2024104815), PV.sc (Value.int IntKind.u32 2227730452), PV.sc (Value.int IntKind.u32 2361852424),
        PV.sc (Value.int IntKind.u32 2428436474), PV.sc (Value.int IntKind.u32 2756734187), PV.sc (Value.int IntKind.u32 3204031479),
        PV.sc
          (Value.int IntKind.u32
            3329325298)]) ([PV.sc (Value.int IntKind.u32 1779033703), PV.sc (Value.int IntKind.u32 3144134277), PV.sc (Value.int IntKind.u32 1013904242), PV.sc (Value.int IntKind.u32 2773480762),
        PV.sc (Value.int IntKind.u32 1359893119), PV.sc (Value.int IntKind.u32 2600822924), PV.sc (Value.int IntKind.u32 528734635),
        PV.sc (Value.int IntKind.u32 1541459225)]) (List.take (0 + b.length) ([] ++ b) ++ [PV.sc (Value.int IntKind.u8 128)])
    else none
  else none
theorem e17 (f : Nat) (nl : Bool) (fl : Bool) (b : List PV) (k : Res → Option Res) : evFn tau F17 Try.f17 (Try.f17.body.get!) (an17 (r17_0 f) (r17_1 f) (r17_2 f) (r17_7 f)) [] 0 [.ro 5 nl fl b] [] k = g17 f nl fl b k := by kernel_rfl
theorem it17 (f : Nat) : items (Try.f17.body.get!) (an17 (r17_0 f) (r17_1 f) (r17_2 f) (r17_7 f)) = [.l c17_0 nm17_0 N17 (r17_0 f), .l c17_1 nm17_1 N17 (r17_1 f), .l c17_2 nm17_2 N17 (r17_2 f), .l c17_7 nm17_7 N17 (r17_7 f)] := by kernel_rfl
theorem ia17 (f : Nat) : ∀ q ∈ items (Try.f17.body.get!) (an17 (r17_0 f) (r17_1 f) (r17_2 f) (r17_7 f)), q.Ok tau Try.prog 0 := by
  rw [it17 f]; simp only [List.forall_mem_cons, List.not_mem_nil, false_implies, implies_true, and_true]; exact ⟨i17_0 f, i17_1 f, i17_2 f, i17_7 f⟩
theorem fo17 : Try.prog.funcs[17]? = some Try.f17 := by kernel_rfl
theorem bo17 : Try.f17.body = some (Try.f17.body.get!) := by kernel_rfl
theorem en17 : Enters Try.prog 17 := enters_of fo17 (by kernel_rfl) bo17
end Go.Proofs.Ytodldmomneecpaa.Rx

-- FN ref2.Sum
/- The document's sum. Own work. -/
namespace Go.Proofs.Ytodldmomneecpaa.Rx
open Go
set_option linter.unusedVariables false
set_option maxRecDepth 100000
set_option maxHeartbeats 1000000
theorem getP_nil (v : PV) : getP v [] = v := rfl
theorem getD8' {R : List Int} (h : R.length = 8) (j : Nat) (hj : j < 8) : (pu .u32 R).getD j .top = .sc (.int .u32 (R.getD j 0)) := pu_get (by omega)
theorem m17_0 (f : Nat) (a b : Bool) (c x y w : List PV) (k0 : Bool → Bool → List PV → Nat → List PV → List PV → List PV → List PV → Option Res) : ∀ (d n : Nat) (L : List Int), zs L.length = d → d < n → L.length + d ≤ 140737488355200 →
    lp17_0 f k0 n a b c L.length x y w (pu .u8 L) = k0 a b c (L.length + d) x y w (pu .u8 (L ++ List.replicate d 0))
  | 0, n + 1, L, hd, hn, hL => by
      simp only [lp17_0, lpS17_0, tmod64]
      refine (bif_f (by simp [zs] at hd ⊢; omega)).trans ?_
      simp
  | d + 1, n + 1, L, hd, hn, hL => by
      have hlt : d + 1 < 64 := by rw [← hd]; unfold zs; omega
      have c3 : roomy (L.length + 1) 1 = true := by simp [roomy]; omega
      simp only [lp17_0, lpS17_0, tmod64, c3, Bool.and_true, cond_true, pu_take]
      refine (bif_t (by simp [zs] at hd ⊢; omega)).trans ?_
      rw [List.take_of_length_le (Nat.le_refl _)]
      have := m17_0 f a b c x y w k0 d n (L ++ [0]) (by simp [zs] at hd ⊢; omega) (by omega) (by simp; omega)
      simp only [List.length_append, List.length_cons, List.length_nil, Nat.zero_add, pu_append] at this
      refine this.trans ?_
      rw [show L.length + 1 + d = L.length + (d + 1) from by omega, List.replicate_succ]
      simp
def lenR (N : Int) (i : Nat) : Int := IntKind.u8.wrap (shrI .u64 N (56 - 8 * (i : Int)))
theorem m17_1 (f : Nat) (N : Int) (x y w : List PV) (k0 : Nat → List PV → List PV → List PV → List PV → Option Res) (L : List Int) (hL : L.length ≤ 140737488355300) : ∀ (d i n : Nat), i + d = 8 → d < n →
    lp17_1 f k0 n (L.length + i) N (7 - (i : Int)) x y w (pu .u8 (L ++ (List.range i).map (lenR N))) = k0 (L.length + 8) x y w (pu .u8 (L ++ (List.range 8).map (lenR N)))
  | 0, i, n + 1, h, hn => by
      obtain rfl : i = 8 := by omega
      simp only [lp17_1, lpS17_1]
      exact bif_f (by decide)
  | d + 1, i, n + 1, h, hn => by
      have h1 : IntKind.i64.wrap (7 - (i : Int) - 1) = 7 - ((i + 1 : Nat) : Int) := by rw [wrap_i64 (by omega) (by omega)]; omega
      have h8 : IntKind.u64.wrap (7 - (i : Int)) = 7 - (i : Int) := by rw [wrap_u64_eq]; omega
      have h9 : IntKind.u64.wrap (8 * (7 - (i : Int))) = 56 - 8 * (i : Int) := by rw [wrap_u64_eq]; omega
      have c1 : decide (7 - (i : Int) ≥ 0) = true := by simp; omega
      have c2 : decide (0 ≤ 56 - 8 * (i : Int)) = true := by simp; omega
      have c3 : roomy (L.length + i + 1) 1 = true := by simp [roomy]; omega
      have hlen : (L ++ (List.range i).map (lenR N)).length = L.length + i := by simp
      simp only [lp17_1, lpS17_1, h1, h8, h9, c1, c2, c3, Bool.and_true, cond_true, pu_take]
      rw [List.take_of_length_le (by omega)]
      have := m17_1 f N x y w k0 L hL d (i + 1) n (by omega) (by omega)
      rw [List.range_succ, List.map_append, ← List.append_assoc, pu_append] at this
      exact this
theorem blk_get (P : List Int) (q j : Nat) (hj : j < 64) : ((P.drop (64 * q)).take 64).getD j 0 = P.getD (64 * q + j) 0 := by
  simp [List.getD_eq_getElem?_getD, hj, List.getElem?_drop]
theorem m17_3 (P : List Int) (q : Nat) (hq : 64 * q + 64 ≤ P.length) (hP : P.length ≤ 140737488356000) (T : List Int) (hT : T.length = 64) (f : Nat) (x y w : List PV) (k0 : Nat → Int → List PV → List PV → List PV → List PV → List PV → Option Res) : ∀ (d i n : Nat), i + d = 16 → d < n →
    lp17_3 f k0 n P.length ((64 * q : Nat) : Int) (i : Int) x y w (pu .u8 P) (pu .u32 (fillM (word ((P.drop (64 * q)).take 64)) T i)) = k0 P.length ((64 * q : Nat) : Int) x y w (pu .u8 P) (pu .u32 (fillM (word ((P.drop (64 * q)).take 64)) T 16))
  | 0, i, n + 1, h, hn => by
      obtain rfl : i = 16 := by omega
      simp only [lp17_3, lpS17_3]
      exact bif_f (by decide)
  | d + 1, i, n + 1, h, hn => by
      have h4 : IntKind.i64.wrap (4 * (i : Int)) = ((4 * i : Nat) : Int) := by rw [wrap_i64 (by omega) (by omega)]; omega
      have h40 : IntKind.i64.wrap (((64 * q : Nat) : Int) + ((4 * i : Nat) : Int)) = ((64 * q + 4 * i : Nat) : Int) := by rw [wrap_i64 (by omega) (by omega)]; omega
      have h41 : IntKind.i64.wrap (((64 * q + 4 * i : Nat) : Int) + 1) = ((64 * q + (4 * i + 1) : Nat) : Int) := by rw [wrap_i64 (by omega) (by omega)]; omega
      have h42 : IntKind.i64.wrap (((64 * q + 4 * i : Nat) : Int) + 2) = ((64 * q + (4 * i + 2) : Nat) : Int) := by rw [wrap_i64 (by omega) (by omega)]; omega
      have h43 : IntKind.i64.wrap (((64 * q + 4 * i : Nat) : Int) + 3) = ((64 * q + (4 * i + 3) : Nat) : Int) := by rw [wrap_i64 (by omega) (by omega)]; omega
      have h5 : IntKind.i64.wrap ((i : Int) + 1) = ((i + 1 : Nat) : Int) := by rw [wrap_i64 (by omega) (by omega)]; omega
      simp only [lp17_3, lpS17_3, h4, h40, h41, h42, h43, h5, Int.toNat_natCast, Nat.zero_add, getP_nil, zi]
      rw [pu_isInt (by omega), pu_isInt (by omega), pu_isInt (by omega), pu_isInt (by omega), pu_int (by omega), pu_int (by omega), pu_int (by omega), pu_int (by omega), pu_set]
      refine (bif_t (by simp; omega)).trans ?_
      refine (bif_t (by simp only [Bool.and_true, Bool.and_eq_true, decide_eq_true_eq]; omega)).trans ?_
      refine (bif_t rfl).trans ?_
      refine (bif_t (by simp only [Bool.and_true, Bool.and_eq_true, decide_eq_true_eq]; omega)).trans ?_
      refine (bif_t rfl).trans ?_
      refine (bif_t (by simp only [Bool.and_true, Bool.and_eq_true, decide_eq_true_eq]; omega)).trans ?_
      refine (bif_t rfl).trans ?_
      refine (bif_t (by simp only [Bool.and_true, Bool.and_eq_true, decide_eq_true_eq]; omega)).trans ?_
      refine (bif_t rfl).trans ?_
      refine (bif_t (by simp only [Bool.and_true, Bool.and_eq_true, decide_eq_true_eq]; omega)).trans ?_
      have := m17_3 P q hq hP T hT f x y w k0 d (i + 1) n (by omega) (by omega)
      rw [← fillM_set _ T i (by omega), word, blk_get P q _ (by omega), blk_get P q _ (by omega), blk_get P q _ (by omega), blk_get P q _ (by omega)] at this
      exact this
def fillT (bs T : List Int) (i : Nat) : List Int := sched bs i ++ T.drop (16 + i)
theorem fillT_length (bs T : List Int) (hT : T.length = 64) (i : Nat) (h : i ≤ 48) : (fillT bs T i).length = 64 := by simp [fillT, sched_length, hT]; omega
theorem fillT_get (bs T : List Int) (i j : Nat) (h : j < 16 + i) : (fillT bs T i).getD j 0 = (sched bs i).getD j 0 := by
  simp only [fillT, List.getD_eq_getElem?_getD]
  rw [List.getElem?_append_left (by rw [sched_length]; exact h)]
theorem fillT_set (bs T : List Int) (hT : T.length = 64) (i : Nat) (h : i < 48) (x : Int) : (fillT bs T i).set (i + 16) x = (sched bs i ++ [x]) ++ T.drop (16 + (i + 1)) := by
  rw [fillT, List.set_append_right _ _ (by rw [sched_length]; omega), sched_length, List.drop_eq_getElem_cons (by omega), show i + 16 - (16 + i) = 0 from by omega, List.set_cons_zero]
  simp [Nat.add_assoc]
theorem nxtW_eq (w16 w15 w7 w2 : Int) : ww (ww (ww (sg1 w2 + w7) + sg0 w15) + w16) = nxtW w16 w15 w7 w2 := by
  simp only [nxtW, ww, wrap_u32_eq]; omega
theorem m17_4 (bs T : List Int) (hT : T.length = 64) (f : Nat) (l : Nat) (p : Int) (x y w e : List PV) (k0 : Nat → Int → List PV → List PV → List PV → List PV → List PV → Option Res) : ∀ (d i n : Nat), i + d = 48 → d < n →
    lp17_4 f k0 n l p ((i + 16 : Nat) : Int) x y w e (pu .u32 (fillT bs T i)) = k0 l p x y w e (pu .u32 (spreadP bs))
  | 0, i, n + 1, h, hn => by
      obtain rfl : i = 48 := by omega
      simp only [lp17_4, lpS17_4]
      refine (bif_f (by decide)).trans ?_
      rw [fillT, List.drop_of_length_le (by omega), List.append_nil]; rfl
  | d + 1, i, n + 1, h, hn => by
      have h15 : IntKind.i64.wrap (((i + 16 : Nat) : Int) - 15) = ((i + 1 : Nat) : Int) := by rw [wrap_i64 (by omega) (by omega)]; omega
      have h2 : IntKind.i64.wrap (((i + 16 : Nat) : Int) - 2) = ((i + 14 : Nat) : Int) := by rw [wrap_i64 (by omega) (by omega)]; omega
      have h16 : IntKind.i64.wrap (((i + 16 : Nat) : Int) - 16) = ((i : Nat) : Int) := by rw [wrap_i64 (by omega) (by omega)]; omega
      have h7 : IntKind.i64.wrap (((i + 16 : Nat) : Int) - 7) = ((i + 9 : Nat) : Int) := by rw [wrap_i64 (by omega) (by omega)]; omega
      have h1 : IntKind.i64.wrap (((i + 16 : Nat) : Int) + 1) = ((i + 1 + 16 : Nat) : Int) := by rw [wrap_i64 (by omega) (by omega)]; omega
      have hl := fillT_length bs T hT i (by omega)
      simp only [lp17_4, lpS17_4, h15, h2, h16, h7, h1, Int.toNat_natCast, zi, getP_ar]
      rw [pu_isInt (by omega), pu_isInt (by omega), pu_isInt (by omega), pu_isInt (by omega), pu_int (by omega), pu_int (by omega), pu_int (by omega), pu_int (by omega), pu_set]
      refine (bif_t (by simp; omega)).trans ?_
      refine (bif_t (by simp; omega)).trans ?_
      refine (bif_t rfl).trans ?_
      refine (bif_t (by simp; omega)).trans ?_
      refine (bif_t rfl).trans ?_
      refine (bif_t (by simp; omega)).trans ?_
      refine (bif_t rfl).trans ?_
      refine (bif_t (by simp; omega)).trans ?_
      refine (bif_t rfl).trans ?_
      refine (bif_t (by simp; omega)).trans ?_
      have := m17_4 bs T hT f l p x y w e k0 d (i + 1) n (by omega) (by omega)
      rw [fillT_get bs T i i (by omega), fillT_get bs T i (i + 1) (by omega), fillT_get bs T i (i + 9) (by omega), fillT_get bs T i (i + 14) (by omega), fillT_set bs T hT i (by omega)]
      have hn := nxtW_eq ((sched bs i).getD i 0) ((sched bs i).getD (i + 1) 0) ((sched bs i).getD (i + 9) 0) ((sched bs i).getD (i + 14) 0)
      rw [fillT, sched, ← hn] at this
      exact this
theorem m17_5 (W s : List Int) (hW : W.length = 64) (hs : s.length = 8) (f : Nat) (l : Nat) (p : Int) (x w e : List PV) (k0 : Nat → Int → List PV → List PV → List PV → List PV → List PV → List PV → Option Res) : ∀ (d i n : Nat), i + d = 64 → d < n →
    lp17_5 f k0 n l p (i : Int) x (pu .u32 kks) w e (pu .u32 W) (pu .u32 (rnds W s i)) = k0 l p x (pu .u32 kks) w e (pu .u32 W) (pu .u32 (rnds W s 64))
  | 0, i, n + 1, h, hn => by
      obtain rfl : i = 64 := by omega
      simp only [lp17_5, lpS17_5]
      exact bif_f (by decide)
  | d + 1, i, n + 1, h, hn => by
      have hl := rnds_length W s hs i
      have h1 : IntKind.i64.wrap ((i : Int) + 1) = ((i + 1 : Nat) : Int) := by rw [wrap_i64 (by omega) (by omega)]; omega
      have hk : (pu .u32 kks).getD i .top = .sc (.int .u32 (kks.getD i 0)) := pu_get (by show i < 64; omega)
      have hw : (pu .u32 W).getD i .top = .sc (.int .u32 (W.getD i 0)) := pu_get (by omega)
      have c1 : decide ((i : Int) < 64) = true := by simp; omega
      have c2 : decide (0 ≤ (i : Int)) = true := by simp
      have c3 : decide ((i : Int) < zi 64) = true := by simp; omega
      simp only [lp17_5, lpS17_5, getP_ar, Int.toNat_natCast, h1, hk, hw, c1, c2, c3, getD8' hl 0 (by omega), getD8' hl 1 (by omega), getD8' hl 2 (by omega), getD8' hl 3 (by omega), getD8' hl 4 (by omega), getD8' hl 5 (by omega), getD8' hl 6 (by omega), getD8' hl 7 (by omega), PV.isInt, PV.int, decide_true, Bool.and_true, cond_true]
      exact m17_5 W s hW hs f l p x w e k0 d (i + 1) n (by omega) (by omega)
theorem m17_6 (t s : List Int) (ht : t.length = 8) (hs : s.length = 8) (f : Nat) (l : Nat) (p : Int) (x y e u : List PV) (k0 : Nat → Int → List PV → List PV → List PV → List PV → List PV → Option Res) : ∀ (d i n : Nat), i + d = 8 → d < n →
    lp17_6 f k0 n l p (i : Int) x y (pu .u32 (fillM (fun j => ww (t.getD j 0 + s.getD j 0)) s i)) e u (pu .u32 t) = k0 l p x y (pu .u32 ((List.range 8).map fun j => ww (t.getD j 0 + s.getD j 0))) e u
  | 0, i, n + 1, h, hn => by
      obtain rfl : i = 8 := by omega
      simp only [lp17_6, lpS17_6]
      refine (bif_f (by decide)).trans ?_
      have := fillM_full (fun j => ww (t.getD j 0 + s.getD j 0)) s
      rw [hs] at this; rw [this]
  | d + 1, i, n + 1, h, hn => by
      have hl : (fillM (fun j => ww (t.getD j 0 + s.getD j 0)) s i).length = 8 := by rw [fillM_length _ _ _ (by omega), hs]
      have h1 : IntKind.i64.wrap ((i : Int) + 1) = ((i + 1 : Nat) : Int) := by rw [wrap_i64 (by omega) (by omega)]; omega
      have c1 : decide ((i : Int) < 8) = true := by simp; omega
      have c2 : decide (0 ≤ (i : Int)) = true := by simp
      have c3 : decide ((i : Int) < zi 8) = true := by simp; omega
      have g1 : ((i : Int)).toNat = i := by omega
      simp only [lp17_6, lpS17_6, getP_ar, g1, h1, c1, c2, c3, getD8' hl i (by omega), getD8' ht i (by omega), fillM_get _ s i (by omega), PV.isInt, PV.int, decide_true, Bool.and_true, cond_true, pu_set]
      have := m17_6 t s ht hs f l p x y e u k0 d (i + 1) n (by omega) (by omega)
      rw [← fillM_set _ s i (by omega), Int.add_comm (t.getD i 0)] at this
      exact this
theorem outB0 (s : List Int) (i : Nat) : outB s (4 * i) = IntKind.u8.wrap (shrI .u32 (s.getD i 0) 24) := by
  rw [outB, show 4 * i / 4 = i from by omega, show 4 * i % 4 = 0 from by omega]; rfl
theorem outB1 (s : List Int) (i : Nat) : outB s (4 * i + 1) = IntKind.u8.wrap (shrI .u32 (s.getD i 0) 16) := by
  rw [outB, show (4 * i + 1) / 4 = i from by omega, show (4 * i + 1) % 4 = 1 from by omega]; rfl
theorem outB2 (s : List Int) (i : Nat) : outB s (4 * i + 2) = IntKind.u8.wrap (shrI .u32 (s.getD i 0) 8) := by
  rw [outB, show (4 * i + 2) / 4 = i from by omega, show (4 * i + 2) % 4 = 2 from by omega]; rfl
theorem outB3 (s : List Int) (i : Nat) : outB s (4 * i + 3) = IntKind.u8.wrap (s.getD i 0) := by
  rw [outB, show (4 * i + 3) / 4 = i from by omega, show (4 * i + 3) % 4 = 3 from by omega]
  have : shrI .u32 (s.getD i 0) (24 - 8 * ((3 : Nat) : Int)) = s.getD i 0 := by
    have h0 : (24 - 8 * ((3 : Nat) : Int)) = 0 := by decide
    rw [h0]; simp [shrI]
  rw [this]
theorem m17_7 (s : List Int) (hs : s.length = 8) (f : Nat) (k0 : List PV → List PV → Option Res) (a : List PV) (t : List Int) (ht : t.length = 32) : ∀ (d i n : Nat), i + d = 8 → d < n →
    lp17_7 f k0 n (i : Int) a (pu .u32 s) (pu .u8 (fillM (outB s) t (4 * i))) = k0 a (pu .u8 (outP s))
  | 0, i, n + 1, h, hn => by
      obtain rfl : i = 8 := by omega
      simp only [lp17_7, lpS17_7]
      refine (bif_f (by decide)).trans ?_
      have := fillM_full (outB s) t
      rw [ht] at this; rw [show 4 * 8 = 32 from rfl, this]; rfl
  | d + 1, i, n + 1, h, hn => by
      have h1 : IntKind.i64.wrap ((i : Int) + 1) = ((i + 1 : Nat) : Int) := by rw [wrap_i64 (by omega) (by omega)]; omega
      have h4 : IntKind.i64.wrap (4 * (i : Int)) = ((4 * i : Nat) : Int) := by rw [wrap_i64 (by omega) (by omega)]; omega
      have h41 : IntKind.i64.wrap (((4 * i : Nat) : Int) + 1) = ((4 * i + 1 : Nat) : Int) := by rw [wrap_i64 (by omega) (by omega)]; omega
      have h42 : IntKind.i64.wrap (((4 * i : Nat) : Int) + 2) = ((4 * i + 2 : Nat) : Int) := by rw [wrap_i64 (by omega) (by omega)]; omega
      have h43 : IntKind.i64.wrap (((4 * i : Nat) : Int) + 3) = ((4 * i + 3 : Nat) : Int) := by rw [wrap_i64 (by omega) (by omega)]; omega
      have c1 : decide ((i : Int) < 8) = true := by simp; omega
      have c2 : decide (0 ≤ (i : Int)) = true := by simp
      have c3 : decide ((i : Int) < zi 8) = true := by simp; omega
      have b0 : (decide (0 ≤ ((4 * i : Nat) : Int)) && decide (((4 * i : Nat) : Int) < zi 32) && true) = true := by simp; omega
      have b1 : (decide (0 ≤ ((4 * i + 1 : Nat) : Int)) && decide (((4 * i + 1 : Nat) : Int) < zi 32) && true) = true := by simp; omega
      have b2 : (decide (0 ≤ ((4 * i + 2 : Nat) : Int)) && decide (((4 * i + 2 : Nat) : Int) < zi 32) && true) = true := by simp; omega
      have b3 : (decide (0 ≤ ((4 * i + 3 : Nat) : Int)) && decide (((4 * i + 3 : Nat) : Int) < zi 32) && true) = true := by simp; omega
      have g1 : ((i : Int)).toNat = i := by omega
      have g2 : (((4 * i : Nat) : Int)).toNat = 4 * i := by omega
      have g3 : (((4 * i + 1 : Nat) : Int)).toNat = 4 * i + 1 := by omega
      have g4 : (((4 * i + 2 : Nat) : Int)).toNat = 4 * i + 2 := by omega
      have g5 : (((4 * i + 3 : Nat) : Int)).toNat = 4 * i + 3 := by omega
      simp only [lp17_7, lpS17_7, h1, h4, h41, h42, h43, b0, b1, b2, b3, g1, g2, g3, g4, g5, getP_ar, c1, c2, c3, getD8' hs i (by omega), PV.isInt, PV.int, decide_true, Bool.and_true, cond_true, pu_set]
      have := m17_7 s hs f k0 a t ht d (i + 1) n (by omega) (by omega)
      rw [show 4 * (i + 1) = 4 * i + 3 + 1 from by omega, ← fillM_set (outB s) t (4 * i + 3) (by omega), ← fillM_set (outB s) t (4 * i + 2) (by omega), ← fillM_set (outB s) t (4 * i + 1) (by omega), ← fillM_set (outB s) t (4 * i) (by omega), outB0, outB1, outB2, outB3] at this
      exact this
theorem m17_2 (P : List Int) (m : Nat) (hP : P.length = 64 * m) (hb : P.length ≤ 140737488356000) (f : Nat) (hf : 100 ≤ f) (x : List PV) (k0 : List PV → List PV → Option Res) : ∀ (d i n : Nat) (T : List Int), i + d = m → d < n → T.length = 64 →
    lp17_2 f k0 n P.length ((64 * i : Nat) : Int) x (pu .u32 kks) (pu .u32 (foldB iv P i)) (pu .u8 P) (pu .u32 T) = k0 x (pu .u32 (foldB iv P m))
  | 0, i, n + 1, T, h, hn, hT => by
      obtain rfl : i = m := by omega
      simp only [lp17_2, lpS17_2]
      exact bif_f (by simp [zi]; omega)
  | d + 1, i, n + 1, T, h, hn, hT => by
      have hfl := foldB_length iv P rfl i
      simp only [lp17_2, lpS17_2]
      refine (bif_t (by simp [zi]; omega)).trans ?_
      have e3 := fun kk => m17_3 P i (by omega) hb T hT f x (pu .u32 kks) (pu .u32 (foldB iv P i)) kk 16 0 f (by omega) (by omega)
      have e4 := fun kk => m17_4 ((P.drop (64 * i)).take 64) T hT f P.length ((64 * i : Nat) : Int) x (pu .u32 kks) (pu .u32 (foldB iv P i)) (pu .u8 P) kk 48 0 f (by omega) (by omega)
      have hW : (spreadP ((P.drop (64 * i)).take 64)).length = 64 := sched_length _ 48
      have e5 := fun kk => m17_5 (spreadP ((P.drop (64 * i)).take 64)) (foldB iv P i) hW hfl f P.length ((64 * i : Nat) : Int) x (pu .u32 (foldB iv P i)) (pu .u8 P) kk 64 0 f (by omega) (by omega)
      have e6 := fun kk => m17_6 (rnds (spreadP ((P.drop (64 * i)).take 64)) (foldB iv P i) 64) (foldB iv P i) (rnds_length _ _ hfl 64) hfl f P.length ((64 * i : Nat) : Int) x (pu .u32 kks) (pu .u8 P) (pu .u32 (spreadP ((P.drop (64 * i)).take 64))) kk 8 0 f (by omega) (by omega)
      have h0 : fillM (word ((P.drop (64 * i)).take 64)) T 16 = fillT ((P.drop (64 * i)).take 64) T 0 := rfl
      rw [fillM_zero] at e6
      simp only [fillM_zero] at e3
      refine (e3 _).trans ?_
      rw [h0]
      refine (e4 _).trans ?_
      refine (e5 _).trans ?_
      refine (e6 _).trans ?_
      have h1 : IntKind.i64.wrap (((64 * i : Nat) : Int) + 64) = ((64 * (i + 1) : Nat) : Int) := by rw [wrap_i64 (by omega) (by omega)]; omega
      rw [h1]
      exact m17_2 P m hP hb f hf x k0 d (i + 1) n (spreadP ((P.drop (64 * i)).take 64)) (by omega) (by omega) hW
theorem g17_eq (bs : List Int) (hb : bs.length ≤ 140737488355000) (nl fl : Bool) (k : Res → Option Res) : g17 ((padP bs).length / 64 + 100) nl fl (pu .u8 bs) k = k ⟨.ar 26 (pu .u8 (sumP bs)), [], []⟩ := by
  rw [sumP_eq]
  have hlen : (padP bs).length = bs.length + 1 + zs (bs.length + 1) + 8 := by simp [padP, lenB]; omega
  have hz : zs (bs.length + 1) < 64 := by unfold zs; omega
  have h64 : (padP bs).length = 64 * ((padP bs).length / 64) := padP_length bs
  generalize hf : (padP bs).length / 64 + 100 = f
  refine (bif_t (by simp [roomy]; omega)).trans ?_
  refine (bif_t (by simp [roomy]; omega)).trans ?_
  have hL : List.take (0 + (pu .u8 bs).length) ([] ++ pu .u8 bs) ++ [PV.sc (Value.int IntKind.u8 128)] = pu .u8 (bs ++ [128]) := by
    rw [List.take_of_length_le (by simp)]; simp
  rw [hL]
  have e0 := fun kk x y w => m17_0 f nl fl (pu .u8 bs) x y w kk (zs (bs.length + 1)) f (bs ++ [128]) (by simp) (by omega) (by simp; omega)
  simp only [List.length_append, List.length_cons, List.length_nil, Nat.zero_add] at e0
  have hl1 : 0 + (pu .u8 bs).length + 1 = bs.length + 1 := by simp
  rw [hl1]
  refine (e0 _ _ _ _).trans ?_
  have e1 := fun kk x y w => m17_1 f (IntKind.u64.wrap (IntKind.u64.wrap (zi (pu .u8 bs).length) * 8)) x y w kk (bs ++ [128] ++ List.replicate (zs (bs.length + 1)) 0) (by simp; omega) 8 0 f (by omega) (by omega)
  have hl2 : (bs ++ [128] ++ List.replicate (zs (bs.length + 1)) 0).length = bs.length + 1 + zs (bs.length + 1) := by simp; omega
  rw [hl2] at e1
  simp only [List.range_zero, List.map_nil, List.append_nil, Nat.add_zero] at e1
  refine (e1 _ _ _ _).trans ?_
  have hPd : bs ++ [128] ++ List.replicate (zs (bs.length + 1)) 0 ++ (List.range 8).map (lenR (IntKind.u64.wrap (IntKind.u64.wrap (zi (pu .u8 bs).length) * 8))) = padP bs := by
    rw [pu_length]; rfl
  rw [hPd, ← hlen]
  have e2 := fun kk x => m17_2 (padP bs) ((padP bs).length / 64) h64 (by omega) f (by omega) x kk ((padP bs).length / 64) 0 f (List.replicate 64 0) (by omega) (by omega) (by simp)
  refine (e2 _ _).trans ?_
  have hfl := foldB_length iv (padP bs) rfl ((padP bs).length / 64)
  have e7 := fun kk a => m17_7 (foldB iv (padP bs) ((padP bs).length / 64)) hfl f kk a (List.replicate 32 0) (by simp) 8 0 f (by omega) (by omega)
  simp only [Nat.mul_zero, fillM_zero] at e7
  exact e7 _ _
def run17' : List PV → List Ent → (Res → Option Res) → Option Res
  | [.ro 5 nl fl b], [], k => bif allInt .u8 b && decide (b.length ≤ 140737488355000) then k ⟨.ar 26 (pu .u8 (sumP (ints b))), [], []⟩ else none
  | _, _, _ => none
def s17' : Sig := { own := [], run := run17' }
theorem ok17' : CallOk tau Try.prog 17 s17' := fn_ok2 tabOk F17_ok mixed fo17 bo17 (fun n => an17 (r17_0 n) (r17_1 n) (r17_2 n) (r17_7 n)) [] 0 [] run17' (fun n => ia17 n) fun xs es k res hr => by
  unfold run17' at hr
  split at hr
  · rename_i nl fl l
    obtain ⟨hc, hr⟩ := of_bif hr
    simp only [Bool.and_eq_true, decide_eq_true_eq] at hc
    refine ⟨rfl, (padP (ints l)).length / 64 + 100, 0, (e17 _ _ _ _ _).trans ?_⟩
    have he := pu_ints hc.1
    have := g17_eq (ints l) (by simpa using hc.2) nl fl k
    rw [← he] at this
    rw [this]; exact hr
  · cases hr
end Go.Proofs.Ytodldmomneecpaa.Rx

/- What comitia/comitialaw3.HmacKeys computes. Own work, printed by a program of the worker's own. -/
namespace Go.Proofs.Ytodldmomneecpaa.Rx
open Go
set_option linter.unusedVariables false
set_option maxRecDepth 100000
set_option maxHeartbeats 0
def N4 : Nat := 52
noncomputable def F4 : Fns := addF 17 s17' (addF 14 s14' (addF 13 s13 (F0)))
theorem F4_ok : FnsOk tau Try.prog F4 := (((F0_ok).add ok13 en13).add ok14' en14).add ok17' en17
def an4 : An := (.seq .leaf (.seq (.seq .leaf (.cond (.seq .leaf .leaf) .leaf)) (.seq (.seq .leaf (.cond (.seq .leaf .leaf) .leaf)) (.seq .leaf (.seq (.seq .leaf (.cond (.seq .leaf (.seq .leaf .leaf)) .leaf)) (.seq .leaf (.seq .leaf .leaf)))))))
noncomputable def g4 (f : Nat) (key_z : Bool) (key_f : Bool) (key : List PV) (n : Int) (b_z : Bool) (b_f : Bool) (b : List PV) (k : Res → Option Res) : Option Res :=
  bif decide (zi key.length > 200) then
    k (Res.mk (PV.sc (Value.bool true)) [] [])
  else bif decide (zi b.length > 200) then
    k (Res.mk (PV.sc (Value.bool true)) [] [])
  else bif allInt IntKind.u8 key && decide (key.length ≤ 1000000000) && (allInt IntKind.u8 (flat [PV.ro 5 b_z b_f b]) && decide ((flat [PV.ro 5 b_z b_f b]).length ≤ 1000000000)) && true then
    bif decide (zi key.length > 64) then
      bif allInt IntKind.u8 key && decide (key.length ≤ 140737488355000) then
        bif allInt IntKind.u8 (List.take 32 (pu IntKind.u8 (sumP (ints key)))) && decide ((List.take 32 (pu IntKind.u8 (sumP (ints key)))).length ≤ 1000000000) &&
            (allInt IntKind.u8 (flat [PV.ro 5 b_z b_f b]) && decide ((flat [PV.ro 5 b_z b_f b]).length ≤ 1000000000)) &&
          true then
          bif decide ((pu IntKind.u8 (macP (ints key) (ints (flat [PV.ro 5 b_z b_f b])))).length = 32) &&
                  decide ((pu IntKind.u8 (macP (ints (List.take 32 (pu IntKind.u8 (sumP (ints key))))) (ints (flat [PV.ro 5 b_z b_f b])))).length = 32) &&
                allInt IntKind.u8 (pu IntKind.u8 (macP (ints key) (ints (flat [PV.ro 5 b_z b_f b])))) &&
              allInt IntKind.u8 (pu IntKind.u8 (macP (ints (List.take 32 (pu IntKind.u8 (sumP (ints key))))) (ints (flat [PV.ro 5 b_z b_f b])))) &&
            true then
            k (Res.mk
              (PV.sc
                (Value.bool
                  (eqInts (pu IntKind.u8 (macP (ints key) (ints (flat [PV.ro 5 b_z b_f b]))))
                    (pu IntKind.u8 (macP (ints (List.take 32 (pu IntKind.u8 (sumP (ints key))))) (ints (flat [PV.ro 5 b_z b_f b])))))))
              [] [])
          else none
        else none
      else none
    else bif roomy (0 + key.length) 1 && true then
      bif decide (0 ≤ minI (maxI (n.tmod 65) 0) (IntKind.i64.wrap (64 - zi key.length))) && roomy (0 + key.length + (minI (maxI (n.tmod 65) 0) (IntKind.i64.wrap (64 - zi key.length))).toNat) 1 &&
        true then
        bif allInt IntKind.u8
                (List.take (0 + key.length + (minI (maxI (n.tmod 65) 0) (IntKind.i64.wrap (64 - zi key.length))).toNat)
                  (List.take (0 + key.length) key ++ List.replicate (minI (maxI (n.tmod 65) 0) (IntKind.i64.wrap (64 - zi key.length))).toNat (PV.sc (Value.int IntKind.u8 0)))) &&
              decide
                ((List.take (0 + key.length + (minI (maxI (n.tmod 65) 0) (IntKind.i64.wrap (64 - zi key.length))).toNat)
                      (List.take (0 + key.length) key ++ List.replicate (minI (maxI (n.tmod 65) 0) (IntKind.i64.wrap (64 - zi key.length))).toNat (PV.sc (Value.int IntKind.u8 0)))).length ≤
                  1000000000) &&
            (allInt IntKind.u8 (flat [PV.ro 5 b_z b_f b]) && decide ((flat [PV.ro 5 b_z b_f b]).length ≤ 1000000000)) &&
          true then
          bif decide ((pu IntKind.u8 (macP (ints key) (ints (flat [PV.ro 5 b_z b_f b])))).length = 32) &&
                  decide
                    ((pu IntKind.u8
                          (macP
                            (ints
                              (List.take (0 + key.length + (minI (maxI (n.tmod 65) 0) (IntKind.i64.wrap (64 - zi key.length))).toNat)
                                (List.take (0 + key.length) key ++ List.replicate (minI (maxI (n.tmod 65) 0) (IntKind.i64.wrap (64 - zi key.length))).toNat (PV.sc (Value.int IntKind.u8 0)))))
                            (ints (flat [PV.ro 5 b_z b_f b])))).length =
                      32) &&
                allInt IntKind.u8 (pu IntKind.u8 (macP (ints key) (ints (flat [PV.ro 5 b_z b_f b])))) &&
              allInt IntKind.u8
                (pu IntKind.u8
                  (macP
                    (ints
                      (List.take (0 + key.length + (minI (maxI (n.tmod 65) 0) (IntKind.i64.wrap (64 - zi key.length))).toNat)
                        (List.take (0 + key.length) key ++ List.replicate (minI (maxI (n.tmod 65) 0) (IntKind.i64.wrap (64 - zi key.length))).toNat (PV.sc (Value.int IntKind.u8 0)))))
                    (ints (flat [PV.ro 5 b_z b_f b])))) &&
            true then
            k (Res.mk
              (PV.sc
                (Value.bool
                  (eqInts (pu IntKind.u8 (macP (ints key) (ints (flat [PV.ro 5 b_z b_f b]))))
                    (pu IntKind.u8
                      (macP
                        (ints
                          (List.take (0 + key.length + (minI (maxI (n.tmod 65) 0) (IntKind.i64.wrap (64 - zi key.length))).toNat)
                            (List.take (0 + key.length) key ++ List.replicate (minI (maxI (n.tmod 65) 0) (IntKind.i64.wrap (64 - zi key.length))).toNat (PV.sc (Value.int IntKind.u8 0)))))
                        (ints (flat [PV.ro 5 b_z b_f b])))))))
              [] [])
          else none
        else none
      else none
    else none
  else none
theorem e4 (f : Nat) (key_z : Bool) (key_f : Bool) (key : List PV) (n : Int) (b_z : Bool) (b_f : Bool) (b : List PV) (k : Res → Option Res) : evFn tau F4 Try.f4 (Try.f4.body.get!) an4 [.ro] 0 [.ro 5 key_z key_f key, .sc (.int .i64 n), .ro 5 b_z b_f b] [] k = g4 f key_z key_f key n b_z b_f b k := by kernel_rfl
theorem it4 (f : Nat) : items (Try.f4.body.get!) an4 = [] := by kernel_rfl
theorem ia4 (f : Nat) : ∀ q ∈ items (Try.f4.body.get!) an4, q.Ok tau Try.prog 0 := by
  rw [it4 f]; intro q hq; cases hq
theorem fo4 : Try.prog.funcs[4]? = some Try.f4 := by kernel_rfl
theorem bo4 : Try.f4.body = some (Try.f4.body.get!) := by kernel_rfl
theorem en4 : Enters Try.prog 4 := enters_of fo4 (by kernel_rfl) bo4
noncomputable def run4 : List PV → List Ent → (Res → Option Res) → Option Res
  | [.ro 5 key_z key_f key, .sc (.int .i64 n), .ro 5 b_z b_f b], [], k => g4 0 key_z key_f key n b_z b_f b k
  | _, _, _ => none
noncomputable def s4 : Sig := { own := [], run := run4 }
theorem ok4 : CallOk tau Try.prog 4 s4 := fn_ok tabOk F4_ok mixed fo4 bo4 an4 [.ro] 0 [] run4 (ia4 0) fun xs es k res hr => by
  unfold run4 at hr
  split at hr
  · exact ⟨rfl, 0, (e4 0 _ _ _ _ _ _ _  _).trans hr⟩
  · cases hr
end Go.Proofs.Ytodldmomneecpaa.Rx

/- What comitia/comitiaref3.Mac computes. Own work, printed by a program of the worker's own. -/
namespace Go.Proofs.Ytodldmomneecpaa.Rx
open Go
set_option linter.unusedVariables false
set_option maxRecDepth 100000
set_option maxHeartbeats 0
def N15 : Nat := 53
noncomputable def F15 : Fns := addF 17 s17' (F0)
theorem F15_ok : FnsOk tau Try.prog F15 := (F0_ok).add ok17' en17
noncomputable def c15_0 : Code := subC (Try.f15.body.get!) [1, 1, 1, 1, 0, 1, 0, 0]
def nm15_0 : Nm := [(1, .any), (4, .any), (5, .any), (7, .any), (8, .any), (9, .any)]
def nx15_0 : Nm := [(1, .any), (4, .any), (7, .any), (8, .any)]
def x15_0 : An := (.seq (.seq .leaf (.cond .leaf .leaf)) (.seq (.block none .leaf) .leaf))
def an15 (r0 : RunL) : An := (.seq .leaf (.seq .leaf (.seq (.seq .leaf (.cond (.seq .leaf .leaf) .leaf)) (.seq .leaf (.seq (.seq .leaf (.block none (.sum nm15_0 N15 r0))) (.seq .leaf (.seq .leaf .leaf)))))))
noncomputable def lpS15_0 (f : Nat) (rc : Bool → Bool → List
  PV → Int → List
  PV → List
  PV → List
  PV → List
  PV → Option Res) (k0 : Bool → Bool → List
  PV → List PV → List PV → List PV → Option Res) (v0 : Bool) (v1 : Bool) (v2 : List PV) (v3 : Int) (v4 : List PV) (v5 : List PV) (v6 : List PV) (v7 : List PV) : Option Res :=
  bif decide (v3 < 64) then
    bif decide (0 ≤ v3) && decide (v3 < zi 64) && true then
      bif PV.isInt IntKind.u8 (getP (v5.getD (0 + v3.toNat) PV.top) []) && true then
        bif decide (0 ≤ v3) && decide (v3 < zi 64) && true then
          bif PV.isInt IntKind.u8 (getP (v5.getD (0 + v3.toNat) PV.top) []) && true then
            bif decide (0 ≤ v3) && decide (v3 < zi 64) && true then
              bif decide (0 ≤ v3) && decide (v3 < zi 64) && true then
                rc v0 v1 v2 (IntKind.i64.wrap
                  (v3 +
                    1)) v4 v5 (v6.set (0 + v3.toNat)
                  (PV.sc
                    (Value.int IntKind.u8
                      (bitI BinOp.xor IntKind.u8 (getP (v5.getD (0 + v3.toNat) PV.top) []).int
                        54)))) (v7.set (0 + v3.toNat) (PV.sc (Value.int IntKind.u8 (bitI BinOp.xor IntKind.u8 (getP (v5.getD (0 + v3.toNat) PV.top) []).int 92))))
              else none
            else none
          else none
        else none
      else none
    else none
  else k0 v0 v1 v2 v4 v6 v7
noncomputable def lp15_0 (f : Nat) (k0 : Bool → Bool → List PV → List PV → List PV → List PV → Option Res) : Nat → Bool → Bool → List PV → Int → List PV → List PV → List PV → List PV → Option Res
  | 0, _, _, _, _, _, _, _, _ => none
  | n + 1, v0, v1, v2, v3, v4, v5, v6, v7 => lpS15_0 f (lp15_0 f k0 n) k0 v0 v1 v2 v3 v4 v5 v6 v7
theorem lpR15_0 (f : Nat) (k : Kont) (n : Nat) (v0 : Bool) (v1 : Bool) (v2 : List
  PV) (v3 : Int) (v4 : List
  PV) (v5 : List
  PV) (v6 : List
  PV) (v7 : List
  PV) : evLoop tau 0 nm15_0 (fun s k => ev tau F15 0 0 c15_0 (x15_0 ) s k) (n + 1) (fillS nm15_0 N15 [PV.ro 5 v0 v1 v2, PV.ptr 864 [], PV.ow 5 865 [] 0 64 (some 64),
  PV.ow 5 866 [] 0 64 (some 64), PV.ow 5 867 [] 0 64 (some 64),
  PV.sc
    (Value.int IntKind.i64
      v3)] [(864, Ent.box false 26 (PV.ar 26 v4)), (865, Ent.vec false 5 false v5), (866, Ent.vec false 5 false v6),
  (867,
    Ent.vec false 5 false
      v7)]) (kNorm tau 0 nx15_0 k) = lpS15_0 f (fun v0 v1 v2 v3 v4 v5 v6 v7 => evLoop tau 0 nm15_0 (fun s k => ev tau F15 0 0 c15_0 (x15_0 ) s k) n (fillS nm15_0 N15 [PV.ro 5 v0 v1 v2,
  PV.ptr 864 [], PV.ow 5 865 [] 0 64 (some 64), PV.ow 5 866 [] 0 64 (some 64), PV.ow 5 867 [] 0 64 (some 64),
  PV.sc
    (Value.int IntKind.i64
      v3)] [(864, Ent.box false 26 (PV.ar 26 v4)), (865, Ent.vec false 5 false v5), (866, Ent.vec false 5 false v6),
  (867,
    Ent.vec false 5 false
      v7)]) (kNorm tau 0 nx15_0 k)) (fun x0 x1 x2 x3 x4 x5 => k (Ex.exit
  0) (fillS nx15_0 N15 [PV.ro 5 x0 x1 x2, PV.ptr 864 [], PV.ow 5 865 [] 0 64 (some 64),
  PV.ow 5 866 [] 0 64 (some 64)] [(864, Ent.box false 26 (PV.ar 26 x3)), (865, Ent.vec false 5 false x4), (866, Ent.vec false 5 false x5)])) v0 v1 v2 v3 v4 v5 v6 v7 := by kernel_rfl
theorem lpE15_0 (f : Nat) (k : Kont) : ∀ (n : Nat) (v0 : Bool) (v1 : Bool) (v2 : List
  PV) (v3 : Int) (v4 : List
  PV) (v5 : List
  PV) (v6 : List
  PV) (v7 : List
  PV), evLoop tau 0 nm15_0 (fun s k => ev tau F15 0 0 c15_0 (x15_0 ) s k) n (fillS nm15_0 N15 [PV.ro 5 v0 v1 v2, PV.ptr 864 [], PV.ow 5 865 [] 0 64 (some 64), PV.ow 5 866 [] 0 64 (some 64),
  PV.ow 5 867 [] 0 64 (some 64),
  PV.sc
    (Value.int IntKind.i64
      v3)] [(864, Ent.box false 26 (PV.ar 26 v4)), (865, Ent.vec false 5 false v5), (866, Ent.vec false 5 false v6),
  (867,
    Ent.vec false 5 false
      v7)]) (kNorm tau 0 nx15_0 k) = lp15_0 f (fun x0 x1 x2 x3 x4 x5 => k (Ex.exit
  0) (fillS nx15_0 N15 [PV.ro 5 x0 x1 x2, PV.ptr 864 [], PV.ow 5 865 [] 0 64 (some 64),
  PV.ow 5 866 [] 0 64 (some 64)] [(864, Ent.box false 26 (PV.ar 26 x3)), (865, Ent.vec false 5 false x4), (866, Ent.vec false 5 false x5)])) n v0 v1 v2 v3 v4 v5 v6 v7
  | 0, _, _, _, _, _, _, _, _ => rfl
  | n + 1, v0, v1, v2, v3, v4, v5, v6, v7 => (lpR15_0 f k n v0 v1 v2 v3 v4 v5 v6 v7).trans (congrArg (fun r => lpS15_0 f r (fun x0 x1 x2 x3 x4 x5 => k (Ex.exit
  0) (fillS nx15_0 N15 [PV.ro 5 x0 x1 x2, PV.ptr 864 [], PV.ow 5 865 [] 0 64 (some 64),
  PV.ow 5 866 [] 0 64
    (some
      64)] [(864, Ent.box false 26 (PV.ar 26 x3)), (865, Ent.vec false 5 false x4),
  (866, Ent.vec false 5 false x5)])) v0 v1 v2 v3 v4 v5 v6 v7) (by funext v0 v1 v2 v3 v4 v5 v6 v7; exact lpE15_0 f k n v0 v1 v2 v3 v4 v5 v6 v7))
noncomputable def r15_0 (f : Nat) : List PV → List (Nat × Ent) → Kont → Option Res
  | [PV.ro 5 v0 v1 v2, PV.ptr 864 [], PV.ow 5 865 [] 0 64 (some 64), PV.ow 5 866 [] 0 64 (some 64), PV.ow 5 867 [] 0 64 (some 64),
  PV.sc
    (Value.int IntKind.i64
      v3)], [(864, Ent.box false 26 (PV.ar 26 v4)), (865, Ent.vec false 5 false v5), (866, Ent.vec false 5 false v6),
  (867,
    Ent.vec false 5 false
      v7)], k => lp15_0 f (fun x0 x1 x2 x3 x4 x5 => k (Ex.exit
  0) (fillS nx15_0 N15 [PV.ro 5 x0 x1 x2, PV.ptr 864 [], PV.ow 5 865 [] 0 64 (some 64),
  PV.ow 5 866 [] 0 64 (some 64)] [(864, Ent.box false 26 (PV.ar 26 x3)), (865, Ent.vec false 5 false x4), (866, Ent.vec false 5 false x5)])) f v0 v1 v2 v3 v4 v5 v6 v7
  | _, _, _ => none
theorem it15_0 (f : Nat) : items c15_0 x15_0 = [] := by kernel_rfl
theorem i15_0 (f : Nat) : (Item.l c15_0 nm15_0 N15 (r15_0 f)).Ok tau Try.prog 0 := loop_item tabOk F15_ok mixed (x := x15_0) (nm2 := nx15_0) (anOk_items _ _ (by rw [it15_0 f]; intro q hq; cases hq)) fun vs hp k res hr => by
  unfold r15_0 at hr
  split at hr
  · exact ⟨f, 0, (lpE15_0 f _ f _ _ _ _ _ _ _ _ ).trans hr⟩
  · cases hr
noncomputable def g15 (f : Nat) (key_z : Bool) (key_f : Bool) (key : List PV) (text_z : Bool) (text_f : Bool) (text : List PV) (k : Res → Option Res) : Option Res :=
  bif decide (zi key.length > 64) then
    bif allInt IntKind.u8 key && decide (key.length ≤ 140737488355000) then
      lp15_0 f (fun x0_0 x1_0 x2_0 x3_0 x4_0 x5_0 =>
        bif roomy (64 + x2_0.length) 1 && true then
          bif allInt IntKind.u8 (List.take (64 + x2_0.length) (List.take 64 x4_0 ++ x2_0)) && decide ((List.take (64 + x2_0.length) (List.take 64 x4_0 ++ x2_0)).length ≤ 140737488355000) then
            bif roomy (64 + (List.take 32 (pu IntKind.u8 (sumP (ints (List.take (64 + x2_0.length) (List.take 64 x4_0 ++ x2_0)))))).length) 1 && true then
              bif allInt IntKind.u8
                  (List.take (64 + (List.take 32 (pu IntKind.u8 (sumP (ints (List.take (64 + x2_0.length) (List.take 64 x4_0 ++ x2_0)))))).length)
                    (List.take 64 x5_0 ++ List.take 32 (pu IntKind.u8 (sumP (ints (List.take (64 + x2_0.length) (List.take 64 x4_0 ++ x2_0))))))) &&
                decide
                  ((List.take (64 + (List.take 32 (pu IntKind.u8 (sumP (ints (List.take (64 + x2_0.length) (List.take 64 x4_0 ++ x2_0)))))).length)
                        (List.take 64 x5_0 ++ List.take 32 (pu IntKind.u8 (sumP (ints (List.take (64 + x2_0.length) (List.take 64 x4_0 ++ x2_0))))))).length ≤
                    140737488355000) then
                k (Res.mk
                  (PV.ar 26
                    (pu IntKind.u8
                      (sumP
                        (ints
                          (List.take (64 + (List.take 32 (pu IntKind.u8 (sumP (ints (List.take (64 + x2_0.length) (List.take 64 x4_0 ++ x2_0)))))).length)
                            (List.take 64 x5_0 ++ List.take 32 (pu IntKind.u8 (sumP (ints (List.take (64 + x2_0.length) (List.take 64 x4_0 ++ x2_0)))))))))))
                  [] [])
              else none
            else none
          else none
        else none) f text_z text_f text (0) ([PV.sc (Value.int IntKind.u8 0), PV.sc (Value.int IntKind.u8 0), PV.sc (Value.int IntKind.u8 0), PV.sc (Value.int IntKind.u8 0),
        PV.sc (Value.int IntKind.u8 0), PV.sc (Value.int IntKind.u8 0), PV.sc (Value.int IntKind.u8 0), PV.sc (Value.int IntKind.u8 0), PV.sc (Value.int IntKind.u8 0), PV.sc (Value.int IntKind.u8 0),
        PV.sc (Value.int IntKind.u8 0), PV.sc (Value.int IntKind.u8 0), PV.sc (Value.int IntKind.u8 0), PV.sc (Value.int IntKind.u8 0), PV.sc (Value.int IntKind.u8 0), PV.sc (Value.int IntKind.u8 0),
        PV.sc (Value.int IntKind.u8 0), PV.sc (Value.int IntKind.u8 0), PV.sc (Value.int IntKind.u8 0), PV.sc (Value.int IntKind.u8 0), PV.sc (Value.int IntKind.u8 0), PV.sc (Value.int IntKind.u8 0),
        PV.sc (Value.int IntKind.u8 0), PV.sc (Value.int IntKind.u8 0), PV.sc (Value.int IntKind.u8 0), PV.sc (Value.int IntKind.u8 0), PV.sc (Value.int IntKind.u8 0), PV.sc (Value.int IntKind.u8 0),
        PV.sc (Value.int IntKind.u8 0), PV.sc (Value.int IntKind.u8 0), PV.sc (Value.int IntKind.u8 0),
        PV.sc
          (Value.int IntKind.u8
            0)]) (List.take 64 (List.take 32 (pu IntKind.u8 (sumP (ints key)))) ++
        List.drop (0 + min (List.take 32 (pu IntKind.u8 (sumP (ints key)))).length 64)
          [PV.sc (Value.int IntKind.u8 0), PV.sc (Value.int IntKind.u8 0), PV.sc (Value.int IntKind.u8 0), PV.sc (Value.int IntKind.u8 0), PV.sc (Value.int IntKind.u8 0),
            PV.sc (Value.int IntKind.u8 0), PV.sc (Value.int IntKind.u8 0), PV.sc (Value.int IntKind.u8 0), PV.sc (Value.int IntKind.u8 0), PV.sc (Value.int IntKind.u8 0),
            PV.sc (Value.int IntKind.u8 0), PV.sc (Value.int IntKind.u8 0), PV.sc (Value.int IntKind.u8 0), PV.sc (Value.int IntKind.u8 0), PV.sc (Value.int IntKind.u8 0),
            PV.sc (Value.int IntKind.u8 0), PV.sc (Value.int IntKind.u8 0), PV.sc (Value.int IntKind.u8 0), PV.sc (Value.int IntKind.u8 0), PV.sc (Value.int IntKind.u8 0),
            PV.sc (Value.int IntKind.u8 0), PV.sc (Value.int IntKind.u8 0), PV.sc (Value.int IntKind.u8 0), PV.sc (Value.int IntKind.u8 0), PV.sc (Value.int IntKind.u8 0),
            PV.sc (Value.int IntKind.u8 0), PV.sc (Value.int IntKind.u8 0), PV.sc (Value.int IntKind.u8 0), PV.sc (Value.int IntKind.u8 0), PV.sc (Value.int IntKind.u8 0),
            PV.sc (Value.int IntKind.u8 0), PV.sc (Value.int IntKind.u8 0), PV.sc (Value.int IntKind.u8 0), PV.sc (Value.int IntKind.u8 0), PV.sc (Value.int IntKind.u8 0),
            PV.sc (Value.int IntKind.u8 0), PV.sc (Value.int IntKind.u8 0), PV.sc (Value.int IntKind.u8 0), PV.sc (Value.int IntKind.u8 0), PV.sc (Value.int IntKind.u8 0),
            PV.sc (Value.int IntKind.u8 0), PV.sc (Value.int IntKind.u8 0), PV.sc (Value.int IntKind.u8 0), PV.sc (Value.int IntKind.u8 0), PV.sc (Value.int IntKind.u8 0),
            PV.sc (Value.int IntKind.u8 0), PV.sc (Value.int IntKind.u8 0), PV.sc (Value.int IntKind.u8 0), PV.sc (Value.int IntKind.u8 0), PV.sc (Value.int IntKind.u8 0),
            PV.sc (Value.int IntKind.u8 0), PV.sc (Value.int IntKind.u8 0), PV.sc (Value.int IntKind.u8 0), PV.sc (Value.int IntKind.u8 0), PV.sc (Value.int IntKind.u8 0),
            PV.sc (Value.int IntKind.u8 0), PV.sc (Value.int IntKind.u8 0), PV.sc (Value.int IntKind.u8 0), PV.sc (Value.int IntKind.u8 0), PV.sc (Value.int IntKind.u8 0),
            PV.sc (Value.int IntKind.u8 0), PV.sc (Value.int IntKind.u8 0), PV.sc (Value.int IntKind.u8 0),
            PV.sc
              (Value.int IntKind.u8
                0)]) ([PV.sc (Value.int IntKind.u8 0), PV.sc (Value.int IntKind.u8 0), PV.sc (Value.int IntKind.u8 0), PV.sc (Value.int IntKind.u8 0), PV.sc (Value.int IntKind.u8 0),
        PV.sc (Value.int IntKind.u8 0), PV.sc (Value.int IntKind.u8 0), PV.sc (Value.int IntKind.u8 0), PV.sc (Value.int IntKind.u8 0), PV.sc (Value.int IntKind.u8 0), PV.sc (Value.int IntKind.u8 0),
        PV.sc (Value.int IntKind.u8 0), PV.sc (Value.int IntKind.u8 0), PV.sc (Value.int IntKind.u8 0), PV.sc (Value.int IntKind.u8 0), PV.sc (Value.int IntKind.u8 0), PV.sc (Value.int IntKind.u8 0),
        PV.sc (Value.int IntKind.u8 0), PV.sc (Value.int IntKind.u8 0), PV.sc (Value.int IntKind.u8 0), PV.sc (Value.int IntKind.u8 0), PV.sc (Value.int IntKind.u8 0), PV.sc (Value.int IntKind.u8 0),
        PV.sc (Value.int IntKind.u8 0), PV.sc (Value.int IntKind.u8 0), PV.sc (Value.int IntKind.u8 0), PV.sc (Value.int IntKind.u8 0), PV.sc (Value.int IntKind.u8 0), PV.sc (Value.int IntKind.u8 0),
        PV.sc (Value.int IntKind.u8 0), PV.sc (Value.int IntKind.u8 0), PV.sc (Value.int IntKind.u8 0), PV.sc (Value.int IntKind.u8 0), PV.sc (Value.int IntKind.u8 0), PV.sc (Value.int IntKind.u8 0),
        PV.sc (Value.int IntKind.u8 0), PV.sc (Value.int IntKind.u8 0), PV.sc (Value.int IntKind.u8 0), PV.sc (Value.int IntKind.u8 0), PV.sc (Value.int IntKind.u8 0), PV.sc (Value.int IntKind.u8 0),
        PV.sc (Value.int IntKind.u8 0), PV.sc (Value.int IntKind.u8 0), PV.sc (Value.int IntKind.u8 0), PV.sc (Value.int IntKind.u8 0), PV.sc (Value.int IntKind.u8 0), PV.sc (Value.int IntKind.u8 0),
        PV.sc (Value.int IntKind.u8 0), PV.sc (Value.int IntKind.u8 0), PV.sc (Value.int IntKind.u8 0), PV.sc (Value.int IntKind.u8 0), PV.sc (Value.int IntKind.u8 0), PV.sc (Value.int IntKind.u8 0),
        PV.sc (Value.int IntKind.u8 0), PV.sc (Value.int IntKind.u8 0), PV.sc (Value.int IntKind.u8 0), PV.sc (Value.int IntKind.u8 0), PV.sc (Value.int IntKind.u8 0), PV.sc (Value.int IntKind.u8 0),
        PV.sc (Value.int IntKind.u8 0), PV.sc (Value.int IntKind.u8 0), PV.sc (Value.int IntKind.u8 0), PV.sc (Value.int IntKind.u8 0),
        PV.sc
          (Value.int IntKind.u8
            0)]) ([PV.sc (Value.int IntKind.u8 0), PV.sc (Value.int IntKind.u8 0), PV.sc (Value.int IntKind.u8 0), PV.sc (Value.int IntKind.u8 0), PV.sc (Value.int IntKind.u8 0),
        PV.sc (Value.int IntKind.u8 0), PV.sc (Value.int IntKind.u8 0), PV.sc (Value.int IntKind.u8 0), PV.sc (Value.int IntKind.u8 0), PV.sc (Value.int IntKind.u8 0), PV.sc (Value.int IntKind.u8 0),
        PV.sc (Value.int IntKind.u8 0), PV.sc (Value.int IntKind.u8 0), PV.sc (Value.int IntKind.u8 0), PV.sc (Value.int IntKind.u8 0), PV.sc (Value.int IntKind.u8 0), PV.sc (Value.int IntKind.u8 0),
        PV.sc (Value.int IntKind.u8 0), PV.sc (Value.int IntKind.u8 0), PV.sc (Value.int IntKind.u8 0), PV.sc (Value.int IntKind.u8 0), PV.sc (Value.int IntKind.u8 0), PV.sc (Value.int IntKind.u8 0),
        PV.sc (Value.int IntKind.u8 0), PV.sc (Value.int IntKind.u8 0), PV.sc (Value.int IntKind.u8 0), PV.sc (Value.int IntKind.u8 0), PV.sc (Value.int IntKind.u8 0), PV.sc (Value.int IntKind.u8 0),
        PV.sc (Value.int IntKind.u8 0), PV.sc (Value.int IntKind.u8 0), PV.sc (Value.int IntKind.u8 0), PV.sc (Value.int IntKind.u8 0), PV.sc (Value.int IntKind.u8 0), PV.sc (Value.int IntKind.u8 0),
        PV.sc (Value.int IntKind.u8 0), PV.sc (Value.int IntKind.u8 0), PV.sc (Value.int IntKind.u8 0), PV.sc (Value.int IntKind.u8 0), PV.sc (Value.int IntKind.u8 0), PV.sc (Value.int IntKind.u8 0),
        PV.sc (Value.int IntKind.u8 0), PV.sc (Value.int IntKind.u8 0), PV.sc (Value.int IntKind.u8 0), PV.sc (Value.int IntKind.u8 0), PV.sc (Value.int IntKind.u8 0), PV.sc (Value.int IntKind.u8 0),
        PV.sc (Value.int IntKind.u8 0), PV.sc (Value.int IntKind.u8 0), PV.sc (Value.int IntKind.u8 0), PV.sc (Value.int IntKind.u8 0), PV.sc (Value.int IntKind.u8 0), PV.sc (Value.int IntKind.u8 0),
        PV.sc (Value.int IntKind.u8 0), PV.sc (Value.int IntKind.u8 0), PV.sc (Value.int IntKind.u8 0), PV.sc (Value.int IntKind.u8 0), PV.sc (Value.int IntKind.u8 0), PV.sc (Value.int IntKind.u8 0),
        PV.sc (Value.int IntKind.u8 0), PV.sc (Value.int IntKind.u8 0), PV.sc (Value.int IntKind.u8 0), PV.sc (Value.int IntKind.u8 0), PV.sc (Value.int IntKind.u8 0)])
    else none
  else lp15_0 f (fun x0_1 x1_1 x2_1 x3_1 x4_1 x5_1 =>
    bif roomy (64 + x2_1.length) 1 && true then
      bif allInt IntKind.u8 (List.take (64 + x2_1.length) (List.take 64 x4_1 ++ x2_1)) && decide ((List.take (64 + x2_1.length) (List.take 64 x4_1 ++ x2_1)).length ≤ 140737488355000) then
        bif roomy (64 + (List.take 32 (pu IntKind.u8 (sumP (ints (List.take (64 + x2_1.length) (List.take 64 x4_1 ++ x2_1)))))).length) 1 && true then
          bif allInt IntKind.u8
              (List.take (64 + (List.take 32 (pu IntKind.u8 (sumP (ints (List.take (64 + x2_1.length) (List.take 64 x4_1 ++ x2_1)))))).length)
                (List.take 64 x5_1 ++ List.take 32 (pu IntKind.u8 (sumP (ints (List.take (64 + x2_1.length) (List.take 64 x4_1 ++ x2_1))))))) &&
            decide
              ((List.take (64 + (List.take 32 (pu IntKind.u8 (sumP (ints (List.take (64 + x2_1.length) (List.take 64 x4_1 ++ x2_1)))))).length)
                    (List.take 64 x5_1 ++ List.take 32 (pu IntKind.u8 (sumP (ints (List.take (64 + x2_1.length) (List.take 64 x4_1 ++ x2_1))))))).length ≤
                140737488355000) then
            k (Res.mk
              (PV.ar 26
                (pu IntKind.u8
                  (sumP
                    (ints
                      (List.take (64 + (List.take 32 (pu IntKind.u8 (sumP (ints (List.take (64 + x2_1.length) (List.take 64 x4_1 ++ x2_1)))))).length)
                        (List.take 64 x5_1 ++ List.take 32 (pu IntKind.u8 (sumP (ints (List.take (64 + x2_1.length) (List.take 64 x4_1 ++ x2_1)))))))))))
              [] [])
          else none
        else none
      else none
    else none) f text_z text_f text (0) ([PV.sc (Value.int IntKind.u8 0), PV.sc (Value.int IntKind.u8 0), PV.sc (Value.int IntKind.u8 0), PV.sc (Value.int IntKind.u8 0),
    PV.sc (Value.int IntKind.u8 0), PV.sc (Value.int IntKind.u8 0), PV.sc (Value.int IntKind.u8 0), PV.sc (Value.int IntKind.u8 0), PV.sc (Value.int IntKind.u8 0), PV.sc (Value.int IntKind.u8 0),
    PV.sc (Value.int IntKind.u8 0), PV.sc (Value.int IntKind.u8 0), PV.sc (Value.int IntKind.u8 0), PV.sc (Value.int IntKind.u8 0), PV.sc (Value.int IntKind.u8 0), PV.sc (Value.int IntKind.u8 0),
    PV.sc (Value.int IntKind.u8 0), PV.sc (Value.int IntKind.u8 0), PV.sc (Value.int IntKind.u8 0), PV.sc (Value.int IntKind.u8 0), PV.sc (Value.int IntKind.u8 0), PV.sc (Value.int IntKind.u8 0),
    PV.sc (Value.int IntKind.u8 0), PV.sc (Value.int IntKind.u8 0), PV.sc (Value.int IntKind.u8 0), PV.sc (Value.int IntKind.u8 0), PV.sc (Value.int IntKind.u8 0), PV.sc (Value.int IntKind.u8 0),
    PV.sc (Value.int IntKind.u8 0), PV.sc (Value.int IntKind.u8 0), PV.sc (Value.int IntKind.u8 0),
    PV.sc
      (Value.int IntKind.u8
        0)]) (List.take 64 key ++
    List.drop (0 + min key.length 64)
      [PV.sc (Value.int IntKind.u8 0), PV.sc (Value.int IntKind.u8 0), PV.sc (Value.int IntKind.u8 0), PV.sc (Value.int IntKind.u8 0), PV.sc (Value.int IntKind.u8 0), PV.sc (Value.int IntKind.u8 0),
        PV.sc (Value.int IntKind.u8 0), PV.sc (Value.int IntKind.u8 0), PV.sc (Value.int IntKind.u8 0), PV.sc (Value.int IntKind.u8 0), PV.sc (Value.int IntKind.u8 0), PV.sc (Value.int IntKind.u8 0),
        PV.sc (Value.int IntKind.u8 0), PV.sc (Value.int IntKind.u8 0), PV.sc (Value.int IntKind.u8 0), PV.sc (Value.int IntKind.u8 0), PV.sc (Value.int IntKind.u8 0), PV.sc (Value.int IntKind.u8 0),
        PV.sc (Value.int IntKind.u8 0), PV.sc (Value.int IntKind.u8 0), PV.sc (Value.int IntKind.u8 0), PV.sc (Value.int IntKind.u8 0), PV.sc (Value.int IntKind.u8 0), PV.sc (Value.int IntKind.u8 0),
        PV.sc (Value.int IntKind.u8 0), PV.sc (Value.int IntKind.u8 0), PV.sc (Value.int IntKind.u8 0), PV.sc (Value.int IntKind.u8 0), PV.sc (Value.int IntKind.u8 0), PV.sc (Value.int IntKind.u8 0),
        PV.sc (Value.int IntKind.u8 0), PV.sc (Value.int IntKind.u8 0), PV.sc (Value.int IntKind.u8 0), PV.sc (Value.int IntKind.u8 0), PV.sc (Value.int IntKind.u8 0), PV.sc (Value.int IntKind.u8 0),
        PV.sc (Value.int IntKind.u8 0), PV.sc (Value.int IntKind.u8 0), PV.sc (Value.int IntKind.u8 0), PV.sc (Value.int IntKind.u8 0), PV.sc (Value.int IntKind.u8 0), PV.sc (Value.int IntKind.u8 0),
        PV.sc (Value.int IntKind.u8 0), PV.sc (Value.int IntKind.u8 0), PV.sc (Value.int IntKind.u8 0), PV.sc (Value.int IntKind.u8 0), PV.sc (Value.int IntKind.u8 0), PV.sc (Value.int IntKind.u8 0),
        PV.sc (Value.int IntKind.u8 0), PV.sc (Value.int IntKind.u8 0), PV.sc (Value.int IntKind.u8 0), PV.sc (Value.int IntKind.u8 0), PV.sc (Value.int IntKind.u8 0), PV.sc (Value.int IntKind.u8 0),
        PV.sc (Value.int IntKind.u8 0), PV.sc (Value.int IntKind.u8 0), PV.sc (Value.int IntKind.u8 0), PV.sc (Value.int IntKind.u8 0), PV.sc (Value.int IntKind.u8 0), PV.sc (Value.int IntKind.u8 0),
        PV.sc (Value.int IntKind.u8 0), PV.sc (Value.int IntKind.u8 0), PV.sc (Value.int IntKind.u8 0),
        PV.sc
          (Value.int IntKind.u8
            0)]) ([PV.sc (Value.int IntKind.u8 0), PV.sc (Value.int IntKind.u8 0), PV.sc (Value.int IntKind.u8 0), PV.sc (Value.int IntKind.u8 0), PV.sc (Value.int IntKind.u8 0),
    PV.sc (Value.int IntKind.u8 0), PV.sc (Value.int IntKind.u8 0), PV.sc (Value.int IntKind.u8 0), PV.sc (Value.int IntKind.u8 0), PV.sc (Value.int IntKind.u8 0), PV.sc (Value.int IntKind.u8 0),
    PV.sc (Value.int IntKind.u8 0), PV.sc (Value.int IntKind.u8 0), PV.sc (Value.int IntKind.u8 0), PV.sc (Value.int IntKind.u8 0), PV.sc (Value.int IntKind.u8 0), PV.sc (Value.int IntKind.u8 0),
    PV.sc (Value.int IntKind.u8 0), PV.sc (Value.int IntKind.u8 0), PV.sc (Value.int IntKind.u8 0), PV.sc (Value.int IntKind.u8 0), PV.sc (Value.int IntKind.u8 0), PV.sc (Value.int IntKind.u8 0),
    PV.sc (Value.int IntKind.u8 0), PV.sc (Value.int IntKind.u8 0), PV.sc (Value.int IntKind.u8 0), PV.sc (Value.int IntKind.u8 0), PV.sc (Value.int IntKind.u8 0), PV.sc (Value.int IntKind.u8 0),
    PV.sc (Value.int IntKind.u8 0), PV.sc (Value.int IntKind.u8 0), PV.sc (Value.int IntKind.u8 0), PV.sc (Value.int IntKind.u8 0), PV.sc (Value.int IntKind.u8 0), PV.sc (Value.int IntKind.u8 0),
    PV.sc (Value.int IntKind.u8 0), PV.sc (Value.int IntKind.u8 0), PV.sc (Value.int IntKind.u8 0), PV.sc (Value.int IntKind.u8 0), PV.sc (Value.int IntKind.u8 0), PV.sc (Value.int IntKind.u8 0),
    PV.sc (Value.int IntKind.u8 0), PV.sc (Value.int IntKind.u8 0), PV.sc (Value.int IntKind.u8 0), PV.sc (Value.int IntKind.u8 0), PV.sc (Value.int IntKind.u8 0), PV.sc (Value.int IntKind.u8 0),
    PV.sc (Value.int IntKind.u8 0), PV.sc (Value.int IntKind.u8 0), PV.sc (Value.int IntKind.u8 0), PV.sc (Value.int IntKind.u8 0), PV.sc (Value.int IntKind.u8 0), PV.sc (Value.int IntKind.u8 0),
    PV.sc (Value.int IntKind.u8 0), PV.sc (Value.int IntKind.u8 0), PV.sc (Value.int IntKind.u8 0), PV.sc (Value.int IntKind.u8 0), PV.sc (Value.int IntKind.u8 0), PV.sc (Value.int IntKind.u8 0),
    PV.sc (Value.int IntKind.u8 0), PV.sc (Value.int IntKind.u8 0), PV.sc (Value.int IntKind.u8 0), PV.sc (Value.int IntKind.u8 0),
    PV.sc
      (Value.int IntKind.u8
        0)]) ([PV.sc (Value.int IntKind.u8 0), PV.sc (Value.int IntKind.u8 0), PV.sc (Value.int IntKind.u8 0), PV.sc (Value.int IntKind.u8 0), PV.sc (Value.int IntKind.u8 0),
    PV.sc (Value.int IntKind.u8 0), PV.sc (Value.int IntKind.u8 0), PV.sc (Value.int IntKind.u8 0), PV.sc (Value.int IntKind.u8 0), PV.sc (Value.int IntKind.u8 0), PV.sc (Value.int IntKind.u8 0),
    PV.sc (Value.int IntKind.u8 0), PV.sc (Value.int IntKind.u8 0), PV.sc (Value.int IntKind.u8 0), PV.sc (Value.int IntKind.u8 0), PV.sc (Value.int IntKind.u8 0), PV.sc (Value.int IntKind.u8 0),
    PV.sc (Value.int IntKind.u8 0), PV.sc (Value.int IntKind.u8 0), PV.sc (Value.int IntKind.u8 0), PV.sc (Value.int IntKind.u8 0), PV.sc (Value.int IntKind.u8 0), PV.sc (Value.int IntKind.u8 0),
    PV.sc (Value.int IntKind.u8 0), PV.sc (Value.int IntKind.u8 0), PV.sc (Value.int IntKind.u8 0), PV.sc (Value.int IntKind.u8 0), PV.sc (Value.int IntKind.u8 0), PV.sc (Value.int IntKind.u8 0),
    PV.sc (Value.int IntKind.u8 0), PV.sc (Value.int IntKind.u8 0), PV.sc (Value.int IntKind.u8 0), PV.sc (Value.int IntKind.u8 0), PV.sc (Value.int IntKind.u8 0), PV.sc (Value.int IntKind.u8 0),
    PV.sc (Value.int IntKind.u8 0), PV.sc (Value.int IntKind.u8 0), PV.sc (Value.int IntKind.u8 0), PV.sc (Value.int IntKind.u8 0), PV.sc (Value.int IntKind.u8 0), PV.sc (Value.int IntKind.u8 0),
    PV.sc (Value.int IntKind.u8 0), PV.sc (Value.int IntKind.u8 0), PV.sc (Value.int IntKind.u8 0), PV.sc (Value.int IntKind.u8 0), PV.sc (Value.int IntKind.u8 0), PV.sc (Value.int IntKind.u8 0),
    PV.sc (Value.int IntKind.u8 0), PV.sc (Value.int IntKind.u8 0), PV.sc (Value.int IntKind.u8 0), PV.sc (Value.int IntKind.u8 0), PV.sc (Value.int IntKind.u8 0), PV.sc (Value.int IntKind.u8 0),
    PV.sc (Value.int IntKind.u8 0), PV.sc (Value.int IntKind.u8 0), PV.sc (Value.int IntKind.u8 0), PV.sc (Value.int IntKind.u8 0), PV.sc (Value.int IntKind.u8 0), PV.sc (Value.int IntKind.u8 0),
    PV.sc (Value.int IntKind.u8 0), PV.sc (Value.int IntKind.u8 0), PV.sc (Value.int IntKind.u8 0), PV.sc (Value.int IntKind.u8 0), PV.sc (Value.int IntKind.u8 0)])
theorem e15 (f : Nat) (key_z : Bool) (key_f : Bool) (key : List PV) (text_z : Bool) (text_f : Bool) (text : List PV) (k : Res → Option Res) : evFn tau F15 Try.f15 (Try.f15.body.get!) (an15 (r15_0 f)) [.ro] 0 [.ro 5 key_z key_f key, .ro 5 text_z text_f text] [] k = g15 f key_z key_f key text_z text_f text k := by kernel_rfl
theorem it15 (f : Nat) : items (Try.f15.body.get!) (an15 (r15_0 f)) = [.l c15_0 nm15_0 N15 (r15_0 f)] := by kernel_rfl
theorem ia15 (f : Nat) : ∀ q ∈ items (Try.f15.body.get!) (an15 (r15_0 f)), q.Ok tau Try.prog 0 := by
  rw [it15 f]; simp only [List.forall_mem_cons, List.not_mem_nil, false_implies, implies_true, and_true]; exact i15_0 f
theorem fo15 : Try.prog.funcs[15]? = some Try.f15 := by kernel_rfl
theorem bo15 : Try.f15.body = some (Try.f15.body.get!) := by kernel_rfl
theorem en15 : Enters Try.prog 15 := enters_of fo15 (by kernel_rfl) bo15
end Go.Proofs.Ytodldmomneecpaa.Rx

-- FN ref3.Mac
/- The document's sign of a text. Own work. -/
namespace Go.Proofs.Ytodldmomneecpaa.Rx
open Go
set_option linter.unusedVariables false
set_option linter.unusedSimpArgs false
set_option maxRecDepth 100000
set_option maxHeartbeats 1000000
theorem fill_xor' (K : List Int) (hK : K.length = 64) (x : Int) : (List.range 64).map (fun j => bitI .xor .u8 (K.getD j 0) x) = xorB K x := by
  rw [← fill_xor K hK x]
  apply List.map_congr_left
  intro j _
  exact bitI_xor_comm _ _ _
theorem l15_0 (K : List Int) (hK : K.length = 64) (f : Nat) (k0 : Bool → Bool → List PV → List PV → List PV → List PV → Option Res) (tz tf : Bool) (text h : List PV) : ∀ (d i n : Nat), i + d = 64 → d < n →
    lp15_0 f k0 n tz tf text (i : Int) h (pu .u8 K) (pu .u8 (fillM (fun j => bitI .xor .u8 (K.getD j 0) 54) (List.replicate 64 0) i)) (pu .u8 (fillM (fun j => bitI .xor .u8 (K.getD j 0) 92) (List.replicate 64 0) i)) = k0 tz tf text h (pu .u8 (xorB K 54)) (pu .u8 (xorB K 92))
  | 0, i, n + 1, hh, hn => by
      obtain rfl : i = 64 := by omega
      simp only [lp15_0, lpS15_0]
      refine (bif_f (by decide)).trans ?_
      have h1 := fillM_full (fun j => bitI .xor .u8 (K.getD j 0) 54) (List.replicate 64 0)
      have h2 := fillM_full (fun j => bitI .xor .u8 (K.getD j 0) 92) (List.replicate 64 0)
      rw [List.length_replicate] at h1 h2
      rw [h1, h2, fill_xor' K hK, fill_xor' K hK]
  | d + 1, i, n + 1, hh, hn => by
      have g1 : ((i : Int)).toNat = i := by omega
      have h1 : IntKind.i64.wrap ((i : Int) + 1) = ((i + 1 : Nat) : Int) := by rw [wrap_i64 (by omega) (by omega)]; omega
      have c0 : (decide (0 ≤ (i : Int)) && decide ((i : Int) < zi 64) && true) = true := by simp; omega
      simp only [lp15_0, lpS15_0, g1, h1, Nat.zero_add, getP]
      rw [pu_isInt (by omega), pu_int (by omega), pu_set, pu_set]
      refine (bif_t (by simp; omega)).trans ((bif_t c0).trans ((bif_t rfl).trans ((bif_t c0).trans ((bif_t rfl).trans ((bif_t c0).trans ((bif_t c0).trans ?_))))))
      have := l15_0 K hK f k0 tz tf text h d (i + 1) n (by omega) (by omega)
      rw [← fillM_set _ _ i (by simp; omega), ← fillM_set _ _ i (by simp; omega)] at this
      exact this
def macTail (a b text : List PV) (k : Res → Option Res) : Option Res :=
  bif roomy (64 + text.length) 1 && true then
    bif allInt .u8 (List.take (64 + text.length) (List.take 64 a ++ text)) && decide ((List.take (64 + text.length) (List.take 64 a ++ text)).length ≤ 140737488355000) then
      bif roomy (64 + (List.take 32 (pu .u8 (sumP (ints (List.take (64 + text.length) (List.take 64 a ++ text)))))).length) 1 && true then
        bif allInt .u8 (List.take (64 + (List.take 32 (pu .u8 (sumP (ints (List.take (64 + text.length) (List.take 64 a ++ text)))))).length) (List.take 64 b ++ List.take 32 (pu .u8 (sumP (ints (List.take (64 + text.length) (List.take 64 a ++ text)))))))
            && decide ((List.take (64 + (List.take 32 (pu .u8 (sumP (ints (List.take (64 + text.length) (List.take 64 a ++ text)))))).length) (List.take 64 b ++ List.take 32 (pu .u8 (sumP (ints (List.take (64 + text.length) (List.take 64 a ++ text))))))).length ≤ 140737488355000) then
          k ⟨.ar 26 (pu .u8 (sumP (ints (List.take (64 + (List.take 32 (pu .u8 (sumP (ints (List.take (64 + text.length) (List.take 64 a ++ text)))))).length) (List.take 64 b ++ List.take 32 (pu .u8 (sumP (ints (List.take (64 + text.length) (List.take 64 a ++ text)))))))))), [], []⟩
        else none
      else none
    else none
  else none
theorem g15_form (f : Nat) (kz kf : Bool) (key : List PV) (tz tf : Bool) (text : List PV) (k : Res → Option Res) : g15 f kz kf key tz tf text k =
    (bif decide (zi key.length > 64) then
      bif allInt .u8 key && decide (key.length ≤ 140737488355000) then
        lp15_0 f (fun _ _ t _ a b => macTail a b t k) f tz tf text 0 (pu .u8 (List.replicate 32 0)) (kbG (List.take 32 (pu .u8 (sumP (ints key))))) (pu .u8 (List.replicate 64 0)) (pu .u8 (List.replicate 64 0))
      else none
    else lp15_0 f (fun _ _ t _ a b => macTail a b t k) f tz tf text 0 (pu .u8 (List.replicate 32 0)) (kbG key) (pu .u8 (List.replicate 64 0)) (pu .u8 (List.replicate 64 0))) := by kernel_rfl
theorem macTail_eq (K T : List Int) (hK : K.length = 64) (hT : T.length ≤ 1000000000) (k : Res → Option Res) :
    macTail (pu .u8 (xorB K 54)) (pu .u8 (xorB K 92)) (pu .u8 T) k = k ⟨.ar 26 (pu .u8 (sumP (xorB K 92 ++ sumP (xorB K 54 ++ T)))), [], []⟩ := by
  have e1 : List.take (64 + (pu .u8 T).length) (List.take 64 (pu .u8 (xorB K 54)) ++ pu .u8 T) = pu .u8 (xorB K 54 ++ T) := by
    rw [List.take_of_length_le (i := 64) (by simp [hK]), List.take_of_length_le (by simp [hK]), ← pu_append]
  have e2 : ∀ l : List Int, List.take 32 (pu .u8 (sumP l)) = pu .u8 (sumP l) := fun l => List.take_of_length_le (by simp [sumP_length])
  have e3 : ∀ l : List Int, List.take (64 + (pu .u8 (sumP l)).length) (List.take 64 (pu .u8 (xorB K 92)) ++ pu .u8 (sumP l)) = pu .u8 (xorB K 92 ++ sumP l) := fun l => by
    rw [List.take_of_length_le (i := 64) (by simp [hK]), List.take_of_length_le (by simp [hK]), ← pu_append]
  unfold macTail
  rw [e1, e2, e3, bif_t (by simp [roomy]; omega), bif_t (by rw [allInt_pu, pu_length]; simp [hK]; omega), bif_t (by simp [roomy, sumP_length]), bif_t (by rw [allInt_pu, pu_length]; simp [hK, sumP_length])]
  simp only [ints_pu]
noncomputable def run15' : List PV → List Ent → (Res → Option Res) → Option Res
  | [.ro 5 kz kf key, .ro 5 tz tf text], [], k =>
    bif (allInt .u8 key && decide (key.length ≤ 1000000000)) && (allInt .u8 text && decide (text.length ≤ 1000000000)) then
      k ⟨.ar 26 (pu .u8 (macP (ints key) (ints text))), [], []⟩ else none
  | _, _, _ => none
noncomputable def s15' : Sig := { own := [], run := run15' }
theorem g15_eq (kz kf : Bool) (key : List PV) (tz tf : Bool) (text : List PV) (k : Res → Option Res) (a1 : allInt .u8 key = true) (a2 : key.length ≤ 1000000000) (h3 : allInt .u8 text = true) (h4 : text.length ≤ 1000000000) :
    g15 70 kz kf key tz tf text k = k ⟨.ar 26 (pu .u8 (macP (ints key) (ints text))), [], []⟩ := by
  rw [g15_form, macP_eq, macP0]
  have hi := pu_ints a1
  have ht := pu_ints h3
  have hL : ∀ K : List Int, K.length = 64 → lp15_0 70 (fun _ _ t _ a b => macTail a b t k) 70 tz tf text 0 (pu .u8 (List.replicate 32 0)) (pu .u8 K) (pu .u8 (List.replicate 64 0)) (pu .u8 (List.replicate 64 0)) = k ⟨.ar 26 (pu .u8 (sumP (xorB K 92 ++ sumP (xorB K 54 ++ ints text)))), [], []⟩ := by
    intro K hK
    have := l15_0 K hK 70 (fun _ _ t _ a b => macTail a b t k) tz tf text (pu .u8 (List.replicate 32 0)) 64 0 70 (by omega) (by omega)
    rw [fillM_zero, fillM_zero] at this
    refine this.trans ?_
    have hm := macTail_eq K (ints text) hK (by simpa using h4) k
    rw [← ht] at hm
    exact hm
  by_cases hc : key.length > 64
  · rw [bif_t (by simp [zi]; omega), bif_t (by simp [a1]; omega), List.take_of_length_le (by simp [sumP_length]), kbG_pu _ (by rw [sumP_length]; omega),
      hL _ (by rw [← keyB_length (ints key), keyB, if_pos (by simpa using hc)]), keyB, if_pos (by simpa using hc)]
  · have hl : (ints key).length ≤ 64 := by simp; omega
    rw [bif_f (by simp [zi]; omega), hi, kbG_pu _ hl, ints_pu, hL _ (by rw [← keyB_length (ints key), keyB, if_neg (by omega)]), keyB, if_neg (by omega)]
theorem ok15' : CallOk tau Try.prog 15 s15' := CallOk.mk' fun xs es k res hl hr => by
  change run15' xs es k = some res at hr
  unfold run15' at hr
  split at hr
  · rename_i kz kf key tz tf text
    obtain ⟨hc, hr⟩ := of_bif hr
    simp only [Bool.and_eq_true, decide_eq_true_eq] at hc
    obtain ⟨⟨a1, a2⟩, h3, h4⟩ := hc
    exact fn_at tabOk F15_ok mixed fo15 bo15 (an15 (r15_0 70)) [.ro] 0 0 (ia15 70) hl rfl ((e15 70 kz kf key tz tf text k).trans ((g15_eq kz kf key tz tf text k a1 a2 h3 h4).trans hr))
  · cases hr
end Go.Proofs.Ytodldmomneecpaa.Rx

/- What comitia/comitialaw3.all computes. Own work, printed by a program of the worker's own. -/
namespace Go.Proofs.Ytodldmomneecpaa.Rx
open Go
set_option linter.unusedVariables false
set_option maxRecDepth 100000
set_option maxHeartbeats 0
def N16 : Nat := 18
noncomputable def F16 : Fns := F0
theorem F16_ok : FnsOk tau Try.prog F16 := F0_ok
noncomputable def c16_0 : Code := subC (Try.f16.body.get!) [1, 1, 0, 1, 0, 0]
def nm16_0 : Nm := [(0, .any), (3, .own), (4, .any)]
def nx16_0 : Nm := [(3, .any)]
def x16_0 : An := (.seq (.seq .leaf (.cond .leaf .leaf)) (.seq (.block none .leaf) .leaf))
def an16 (r0 : RunL) : An := (.seq .leaf (.seq .leaf (.seq (.seq .leaf (.block none (.sum nm16_0 N16 r0))) (.seq .leaf .leaf))))
noncomputable def lpS16_0 (f : Nat) (rc : Bool → Bool → List
  PV → Nat → Int → Bool → List PV → Option Res) (k0 : Nat → Bool → List PV → Option Res) (v0 : Bool) (v1 : Bool) (v2 : List PV) (v3 : Nat) (v4 : Int) (v5 : Bool) (v6 : List PV) : Option Res :=
  bif decide (v4 < zi v2.length) then
    bif decide (0 ≤ v4) && decide (v4 < zi v2.length) && PV.isRo 5 (v2.getD v4.toNat PV.top) && true then
      bif roomy (v3 + (v2.getD v4.toNat PV.top).els.length) 1 && true then
        rc v0 v1 v2 (v3 + (v2.getD v4.toNat PV.top).els.length) (IntKind.i64.wrap (v4 + 1)) (v5 && (v2.getD v4.toNat PV.top).els.isEmpty) (List.take v3 v6 ++ (v2.getD v4.toNat PV.top).els)
      else none
    else none
  else k0 v3 v5 v6
noncomputable def lp16_0 (f : Nat) (k0 : Nat → Bool → List PV → Option Res) : Nat → Bool → Bool → List PV → Nat → Int → Bool → List PV → Option Res
  | 0, _, _, _, _, _, _, _ => none
  | n + 1, v0, v1, v2, v3, v4, v5, v6 => lpS16_0 f (lp16_0 f k0 n) k0 v0 v1 v2 v3 v4 v5 v6
theorem lpR16_0 (f : Nat) (k : Kont) (n : Nat) (v0 : Bool) (v1 : Bool) (v2 : List
  PV) (v3 : Nat) (v4 : Int) (v5 : Bool) (v6 : List
  PV) : evLoop tau 0 nm16_0 (fun s k => ev tau F16 0 0 c16_0 (x16_0 ) s k) (n + 1) (fillS nm16_0 N16 [PV.ro 22 v0 v1 v2, PV.ow 5 304 [] 0 v3 none,
  PV.sc
    (Value.int IntKind.i64
      v4)] [(304,
    Ent.vec false 5 v5
      v6)]) (kNorm tau 0 nx16_0 k) = lpS16_0 f (fun v0 v1 v2 v3 v4 v5 v6 => evLoop tau 0 nm16_0 (fun s k => ev tau F16 0 0 c16_0 (x16_0 ) s k) n (fillS nm16_0 N16 [PV.ro 22 v0 v1 v2,
  PV.ow 5 304 [] 0 v3 none,
  PV.sc
    (Value.int IntKind.i64
      v4)] [(304,
    Ent.vec false 5 v5 v6)]) (kNorm tau 0 nx16_0 k)) (fun x0 x1 x2 => k (Ex.exit 0) (fillS nx16_0 N16 [PV.ow 5 304 [] 0 x0 none] [(304, Ent.vec false 5 x1 x2)])) v0 v1 v2 v3 v4 v5 v6 := by kernel_rfl
theorem lpE16_0 (f : Nat) (k : Kont) : ∀ (n : Nat) (v0 : Bool) (v1 : Bool) (v2 : List
  PV) (v3 : Nat) (v4 : Int) (v5 : Bool) (v6 : List
  PV), evLoop tau 0 nm16_0 (fun s k => ev tau F16 0 0 c16_0 (x16_0 ) s k) n (fillS nm16_0 N16 [PV.ro 22 v0 v1 v2, PV.ow 5 304 [] 0 v3 none,
  PV.sc
    (Value.int IntKind.i64
      v4)] [(304,
    Ent.vec false 5 v5 v6)]) (kNorm tau 0 nx16_0 k) = lp16_0 f (fun x0 x1 x2 => k (Ex.exit 0) (fillS nx16_0 N16 [PV.ow 5 304 [] 0 x0 none] [(304, Ent.vec false 5 x1 x2)])) n v0 v1 v2 v3 v4 v5 v6
  | 0, _, _, _, _, _, _, _ => rfl
  | n + 1, v0, v1, v2, v3, v4, v5, v6 => (lpR16_0 f k n v0 v1 v2 v3 v4 v5 v6).trans (congrArg (fun r => lpS16_0 f r (fun x0 x1 x2 => k (Ex.exit
  0) (fillS nx16_0 N16 [PV.ow 5 304 [] 0 x0 none] [(304, Ent.vec false 5 x1 x2)])) v0 v1 v2 v3 v4 v5 v6) (by funext v0 v1 v2 v3 v4 v5 v6; exact lpE16_0 f k n v0 v1 v2 v3 v4 v5 v6))
noncomputable def r16_0 (f : Nat) : List PV → List (Nat × Ent) → Kont → Option Res
  | [PV.ro 22 v0 v1 v2, PV.ow 5 304 [] 0 v3 none,
  PV.sc
    (Value.int IntKind.i64
      v4)], [(304, Ent.vec false 5 v5 v6)], k => lp16_0 f (fun x0 x1 x2 => k (Ex.exit 0) (fillS nx16_0 N16 [PV.ow 5 304 [] 0 x0 none] [(304, Ent.vec false 5 x1 x2)])) f v0 v1 v2 v3 v4 v5 v6
  | _, _, _ => none
theorem it16_0 (f : Nat) : items c16_0 x16_0 = [] := by kernel_rfl
theorem i16_0 (f : Nat) : (Item.l c16_0 nm16_0 N16 (r16_0 f)).Ok tau Try.prog 0 := loop_item tabOk F16_ok mixed (x := x16_0) (nm2 := nx16_0) (anOk_items _ _ (by rw [it16_0 f]; intro q hq; cases hq)) fun vs hp k res hr => by
  unfold r16_0 at hr
  split at hr
  · exact ⟨f, 0, (lpE16_0 f _ f _ _ _ _ _ _ _ ).trans hr⟩
  · cases hr
noncomputable def g16 (f : Nat) (l_z : Bool) (l_f : Bool) (l : List PV) (k : Res → Option Res) : Option Res :=
  lp16_0 f (fun x0_0 x1_0 x2_0 =>
    k (Res.mk (PV.ro 5 (Ent.vec false 5 x1_0 x2_0).nil false (List.take x0_0 x2_0)) [] [])) f l_z l_f l (0) (0) true ([])
theorem e16 (f : Nat) (l_z : Bool) (l_f : Bool) (l : List PV) (k : Res → Option Res) : evFn tau F16 Try.f16 (Try.f16.body.get!) (an16 (r16_0 f)) [.ro] 0 [.ro 22 l_z l_f l] [] k = g16 f l_z l_f l k := by kernel_rfl
theorem it16 (f : Nat) : items (Try.f16.body.get!) (an16 (r16_0 f)) = [.l c16_0 nm16_0 N16 (r16_0 f)] := by kernel_rfl
theorem ia16 (f : Nat) : ∀ q ∈ items (Try.f16.body.get!) (an16 (r16_0 f)), q.Ok tau Try.prog 0 := by
  rw [it16 f]; simp only [List.forall_mem_cons, List.not_mem_nil, false_implies, implies_true, and_true]; exact i16_0 f
theorem fo16 : Try.prog.funcs[16]? = some Try.f16 := by kernel_rfl
theorem bo16 : Try.f16.body = some (Try.f16.body.get!) := by kernel_rfl
theorem en16 : Enters Try.prog 16 := enters_of fo16 (by kernel_rfl) bo16
end Go.Proofs.Ytodldmomneecpaa.Rx

-- FN law3.all
/- Parts, one behind the other. Own work. -/
namespace Go.Proofs.Ytodldmomneecpaa.Rx
open Go
set_option linter.unusedVariables false
set_option linter.unusedSimpArgs false
set_option maxRecDepth 100000
set_option maxHeartbeats 1000000
theorem isEmpty_append {α : Type} (a b : List α) : (a ++ b).isEmpty = (a.isEmpty && b.isEmpty) := by cases a <;> simp
theorem l16_0 (l : List PV) (h1 : l.all (PV.isRo 5) = true) (h2 : l.length ≤ 1000) (h3 : (flat l).length ≤ 1000000) (f : Nat) (k0 : Nat → Bool → List PV → Option Res) (z fl : Bool) : ∀ (d i n : Nat), i + d = l.length → d < n →
    lp16_0 f k0 n z fl l (flat (l.take i)).length (i : Int) (flat (l.take i)).isEmpty (flat (l.take i)) = k0 (flat l).length (flat l).isEmpty (flat l)
  | 0, i, n + 1, h, hn => by
      obtain rfl : i = l.length := by omega
      simp only [lp16_0, lpS16_0, List.take_length]
      exact bif_f (by simp [zi])
  | d + 1, i, n + 1, h, hn => by
      have g1 : ((i : Int)).toNat = i := by omega
      have w1 : IntKind.i64.wrap ((i : Int) + 1) = ((i + 1 : Nat) : Int) := by rw [wrap_i64 (by omega) (by omega)]; omega
      have ht := flat_take l i (by omega)
      have hle := flat_take_le l (i + 1)
      simp only [lp16_0, lpS16_0, g1, w1]
      have hlen : (flat (l.take i)).length + (l.getD i .top).els.length = (flat (l.take (i + 1))).length := by rw [ht, List.length_append]
      rw [hlen]
      refine (bif_t (by simp [zi]; omega)).trans ((bif_t (by rw [isRo_getD h1 (by omega)]; simp [zi]; omega)).trans ((bif_t (by simp [roomy]; omega)).trans ?_))
      rw [List.take_of_length_le (Nat.le_refl _), ← ht]
      have hz : ((flat (l.take i)).isEmpty && (l.getD i .top).els.isEmpty) = (flat (l.take (i + 1))).isEmpty := by rw [ht, isEmpty_append]
      rw [hz]
      exact l16_0 l h1 h2 h3 f k0 z fl d (i + 1) n (by omega) (by omega)
theorem g16_eq (l : List PV) (h1 : l.all (PV.isRo 5) = true) (h2 : l.length ≤ 1000) (h3 : (flat l).length ≤ 1000000) (z fl : Bool) (k : Res → Option Res) :
    g16 2000 z fl l k = k ⟨.ro 5 (flat l).isEmpty false (flat l), [], []⟩ := by
  have h := l16_0 l h1 h2 h3 2000 (fun x0_0 x1_0 x2_0 => k (Res.mk (.ro 5 (Ent.vec false 5 x1_0 x2_0).nil false (List.take x0_0 x2_0)) [] [])) z fl l.length 0 2000 (by omega) (by omega)
  simp only [List.take_zero, flat_nil, List.length_nil, List.isEmpty_nil] at h
  refine h.trans ?_
  rw [List.take_of_length_le (Nat.le_refl _)]
  rfl
def run16' : List PV → List Ent → (Res → Option Res) → Option Res
  | [.ro 22 z fl l], [], k => bif l.all (PV.isRo 5) && decide (l.length ≤ 1000) && decide ((flat l).length ≤ 1000000) then k ⟨.ro 5 (flat l).isEmpty false (flat l), [], []⟩ else none
  | _, _, _ => none
def s16' : Sig := { own := [], run := run16' }
theorem ok16' : CallOk tau Try.prog 16 s16' := CallOk.mk' fun xs es k res hl hr => by
  change run16' xs es k = some res at hr
  unfold run16' at hr
  split at hr
  · rename_i z fl l
    obtain ⟨hc, hr⟩ := of_bif hr
    simp only [Bool.and_eq_true, decide_eq_true_eq] at hc
    exact fn_at tabOk F16_ok mixed fo16 bo16 (an16 (r16_0 2000)) [.ro] 0 0 (ia16 2000) hl rfl ((e16 2000 z fl l k).trans ((g16_eq l hc.1.1 hc.1.2 hc.2 z fl k).trans hr))
  · cases hr
end Go.Proofs.Ytodldmomneecpaa.Rx

/- What comitia/comitialaw3.HmacSigns computes. Own work, printed by a program of the worker's own. -/
namespace Go.Proofs.Ytodldmomneecpaa.Rx
open Go
set_option linter.unusedVariables false
set_option maxRecDepth 100000
set_option maxHeartbeats 0
def N3 : Nat := 49
noncomputable def F3 : Fns := addF 16 s16' (addF 15 s15' (addF 14 s14' (addF 13 s13 (F0))))
theorem F3_ok : FnsOk tau Try.prog F3 := ((((F0_ok).add ok13 en13).add ok14' en14).add ok15' en15).add ok16' en16
noncomputable def c3_0 : Code := subC (Try.f3.body.get!) [1, 1, 1, 0, 1, 0, 0]
def nm3_0 : Nm := [(0, .any), (1, .any), (5, .any)]
def nx3_0 : Nm := [(0, .any), (1, .any), (4, .any)]
def x3_0 : An := (.seq (.seq .leaf (.cond .leaf .leaf)) (.seq (.block none (.seq .leaf (.cond (.seq .leaf .leaf) .leaf))) .leaf))
def an3 (r0 : RunL) : An := (.seq .leaf (.seq (.seq .leaf (.cond (.seq .leaf .leaf) .leaf)) (.seq (.seq .leaf (.cond (.seq .leaf .leaf) .leaf)) (.seq (.seq .leaf (.block none (.sum nm3_0 N3 r0))) (.seq .leaf (.seq .leaf .leaf))))))
noncomputable def lpS3_0 (f : Nat) (rc : Bool → Bool → List
  PV → Bool → Bool → List
  PV → Int → Option Res) (k0 : Bool → Bool → List
  PV → Bool → Bool → List
  PV → Bool → Option Res) (k1 : Bool → Bool → List PV → Bool → Bool → List PV → Option Res) (v0 : Bool) (v1 : Bool) (v2 : List PV) (v3 : Bool) (v4 : Bool) (v5 : List PV) (v6 : Int) : Option Res :=
  bif decide (v6 < zi v5.length) then
    bif decide (0 ≤ v6) && decide (v6 < zi v5.length) && PV.isRo 5 (v5.getD v6.toNat PV.top) && true then
      bif decide (zi (v5.getD v6.toNat PV.top).els.length > 200) then
        k0 v0 v1 v2 v3 v4 v5 true
      else rc v0 v1 v2 v3 v4 v5 (IntKind.i64.wrap (v6 + 1))
    else none
  else k1 v0 v1 v2 v3 v4 v5
noncomputable def lp3_0 (f : Nat) (k0 : Bool → Bool → List
  PV → Bool → Bool → List PV → Bool → Option Res) (k1 : Bool → Bool → List PV → Bool → Bool → List PV → Option Res) : Nat → Bool → Bool → List PV → Bool → Bool → List PV → Int → Option Res
  | 0, _, _, _, _, _, _, _ => none
  | n + 1, v0, v1, v2, v3, v4, v5, v6 => lpS3_0 f (lp3_0 f k0 k1 n) k0 k1 v0 v1 v2 v3 v4 v5 v6
theorem lpR3_0 (f : Nat) (k : Kont) (n : Nat) (v0 : Bool) (v1 : Bool) (v2 : List
  PV) (v3 : Bool) (v4 : Bool) (v5 : List
  PV) (v6 : Int) : evLoop tau 0 nm3_0 (fun s k => ev tau F3 0 0 c3_0 (x3_0 ) s k) (n + 1) (fillS nm3_0 N3 [PV.ro 5 v0 v1 v2, PV.ro 22 v3 v4 v5,
  PV.sc
    (Value.int IntKind.i64
      v6)] []) (kNorm tau 0 nx3_0 k) = lpS3_0 f (fun v0 v1 v2 v3 v4 v5 v6 => evLoop tau 0 nm3_0 (fun s k => ev tau F3 0 0 c3_0 (x3_0 ) s k) n (fillS nm3_0 N3 [PV.ro 5 v0 v1 v2, PV.ro 22 v3 v4 v5,
  PV.sc
    (Value.int IntKind.i64
      v6)] []) (kNorm tau 0 nx3_0 k)) (fun x0 x1 x2 x3 x4 x5 x6 => k Ex.ret (fillS nx3_0 N3 [PV.ro 5 x0 x1 x2, PV.ro 22 x3 x4 x5,
  PV.sc (Value.bool x6)] [])) (fun x0 x1 x2 x3 x4 x5 => k (Ex.exit 0) (fillS nx3_0 N3 [PV.ro 5 x0 x1 x2, PV.ro 22 x3 x4 x5, PV.top] [])) v0 v1 v2 v3 v4 v5 v6 := by kernel_rfl
theorem lpE3_0 (f : Nat) (k : Kont) : ∀ (n : Nat) (v0 : Bool) (v1 : Bool) (v2 : List
  PV) (v3 : Bool) (v4 : Bool) (v5 : List
  PV) (v6 : Int), evLoop tau 0 nm3_0 (fun s k => ev tau F3 0 0 c3_0 (x3_0 ) s k) n (fillS nm3_0 N3 [PV.ro 5 v0 v1 v2, PV.ro 22 v3 v4 v5,
  PV.sc
    (Value.int IntKind.i64
      v6)] []) (kNorm tau 0 nx3_0 k) = lp3_0 f (fun x0 x1 x2 x3 x4 x5 x6 => k Ex.ret (fillS nx3_0 N3 [PV.ro 5 x0 x1 x2, PV.ro 22 x3 x4 x5,
  PV.sc (Value.bool x6)] [])) (fun x0 x1 x2 x3 x4 x5 => k (Ex.exit 0) (fillS nx3_0 N3 [PV.ro 5 x0 x1 x2, PV.ro 22 x3 x4 x5, PV.top] [])) n v0 v1 v2 v3 v4 v5 v6
  | 0, _, _, _, _, _, _, _ => rfl
  | n + 1, v0, v1, v2, v3, v4, v5, v6 => (lpR3_0 f k n v0 v1 v2 v3 v4 v5 v6).trans (congrArg (fun r => lpS3_0 f r (fun x0 x1 x2 x3 x4 x5 x6 => k Ex.ret (fillS nx3_0 N3 [PV.ro 5 x0 x1 x2,
  PV.ro 22 x3 x4 x5,
  PV.sc
    (Value.bool
      x6)] [])) (fun x0 x1 x2 x3 x4 x5 => k (Ex.exit
  0) (fillS nx3_0 N3 [PV.ro 5 x0 x1 x2, PV.ro 22 x3 x4 x5, PV.top] [])) v0 v1 v2 v3 v4 v5 v6) (by funext v0 v1 v2 v3 v4 v5 v6; exact lpE3_0 f k n v0 v1 v2 v3 v4 v5 v6))
noncomputable def r3_0 (f : Nat) : List PV → List (Nat × Ent) → Kont → Option Res
  | [PV.ro 5 v0 v1 v2, PV.ro 22 v3 v4 v5,
  PV.sc
    (Value.int IntKind.i64
      v6)], [], k => lp3_0 f (fun x0 x1 x2 x3 x4 x5 x6 => k Ex.ret (fillS nx3_0 N3 [PV.ro 5 x0 x1 x2, PV.ro 22 x3 x4 x5,
  PV.sc (Value.bool x6)] [])) (fun x0 x1 x2 x3 x4 x5 => k (Ex.exit 0) (fillS nx3_0 N3 [PV.ro 5 x0 x1 x2, PV.ro 22 x3 x4 x5, PV.top] [])) f v0 v1 v2 v3 v4 v5 v6
  | _, _, _ => none
theorem it3_0 (f : Nat) : items c3_0 x3_0 = [] := by kernel_rfl
theorem i3_0 (f : Nat) : (Item.l c3_0 nm3_0 N3 (r3_0 f)).Ok tau Try.prog 0 := loop_item tabOk F3_ok mixed (x := x3_0) (nm2 := nx3_0) (anOk_items _ _ (by rw [it3_0 f]; intro q hq; cases hq)) fun vs hp k res hr => by
  unfold r3_0 at hr
  split at hr
  · exact ⟨f, 0, (lpE3_0 f _ f _ _ _ _ _ _ _ ).trans hr⟩
  · cases hr
noncomputable def g3 (f : Nat) (key_z : Bool) (key_f : Bool) (key : List PV) (l_z : Bool) (l_f : Bool) (l : List PV) (k : Res → Option Res) : Option Res :=
  bif decide (zi key.length > 200) then
    k (Res.mk (PV.sc (Value.bool true)) [] [])
  else bif decide (zi l.length > 6) then
    k (Res.mk (PV.sc (Value.bool true)) [] [])
  else lp3_0 f (fun x0_0 x1_0 x2_0 x3_0 x4_0 x5_0 x6_0 =>
    k (Res.mk (PV.sc (Value.bool x6_0)) [] [])) (fun x0_1 x1_1 x2_1 x3_1 x4_1 x5_1 =>
    bif roomy (0 + x2_1.length) 1 && true then
      bif allInt IntKind.u8 (List.take (0 + x2_1.length) x2_1) && decide ((List.take (0 + x2_1.length) x2_1).length ≤ 1000000000) &&
          (x5_1.all (PV.isRo 5) && decide (x5_1.length ≤ 1000000) && (allInt IntKind.u8 (flat x5_1) && decide ((flat x5_1).length ≤ 1000000000))) &&
        (!x3_1 || x5_1.isEmpty) then
        bif x5_1.all (PV.isRo 5) && decide (x5_1.length ≤ 1000) && decide ((flat x5_1).length ≤ 1000000) then
          bif allInt IntKind.u8 x2_1 && decide (x2_1.length ≤ 1000000000) && (allInt IntKind.u8 (flat x5_1) && decide ((flat x5_1).length ≤ 1000000000)) then
            bif decide ((pu IntKind.u8 (macP (ints (List.take (0 + x2_1.length) x2_1)) (ints (flat x5_1)))).length = 32) &&
                    decide ((pu IntKind.u8 (macP (ints x2_1) (ints (flat x5_1)))).length = 32) &&
                  allInt IntKind.u8 (pu IntKind.u8 (macP (ints (List.take (0 + x2_1.length) x2_1)) (ints (flat x5_1)))) &&
                allInt IntKind.u8 (pu IntKind.u8 (macP (ints x2_1) (ints (flat x5_1)))) &&
              true then
              bif eqInts (pu IntKind.u8 (macP (ints (List.take (0 + x2_1.length) x2_1)) (ints (flat x5_1)))) (pu IntKind.u8 (macP (ints x2_1) (ints (flat x5_1)))) then
                bif x5_1.all (PV.isRo 5) && decide (x5_1.length ≤ 1000) && decide ((flat x5_1).length ≤ 1000000) then
                  bif allInt IntKind.u8 x2_1 && decide (x2_1.length ≤ 1000000000) &&
                      (allInt IntKind.u8 (flat [PV.ro 5 (flat x5_1).isEmpty false (flat x5_1)]) && decide ((flat [PV.ro 5 (flat x5_1).isEmpty false (flat x5_1)]).length ≤ 1000000000)) &&
                    true then
                    bif decide ((pu IntKind.u8 (macP (ints (List.take (0 + x2_1.length) x2_1)) (ints (flat x5_1)))).length = 32) &&
                            decide ((pu IntKind.u8 (macP (ints x2_1) (ints (flat [PV.ro 5 (flat x5_1).isEmpty false (flat x5_1)])))).length = 32) &&
                          allInt IntKind.u8 (pu IntKind.u8 (macP (ints (List.take (0 + x2_1.length) x2_1)) (ints (flat x5_1)))) &&
                        allInt IntKind.u8 (pu IntKind.u8 (macP (ints x2_1) (ints (flat [PV.ro 5 (flat x5_1).isEmpty false (flat x5_1)])))) &&
                      true then
                      k (Res.mk
                        (PV.sc
                          (Value.bool
                            (eqInts (pu IntKind.u8 (macP (ints (List.take (0 + x2_1.length) x2_1)) (ints (flat x5_1))))
                              (pu IntKind.u8 (macP (ints x2_1) (ints (flat [PV.ro 5 (flat x5_1).isEmpty false (flat x5_1)])))))))
                        [] [])
                    else none
                  else none
                else none
              else k (Res.mk (PV.sc (Value.bool false)) [] [])
            else none
          else none
        else none
      else none
    else none) f key_z key_f key l_z l_f l (0)
theorem e3 (f : Nat) (key_z : Bool) (key_f : Bool) (key : List PV) (l_z : Bool) (l_f : Bool) (l : List PV) (k : Res → Option Res) : evFn tau F3 Try.f3 (Try.f3.body.get!) (an3 (r3_0 f)) [.ro] 0 [.ro 5 key_z key_f key, .ro 22 l_z l_f l] [] k = g3 f key_z key_f key l_z l_f l k := by kernel_rfl
theorem it3 (f : Nat) : items (Try.f3.body.get!) (an3 (r3_0 f)) = [.l c3_0 nm3_0 N3 (r3_0 f)] := by kernel_rfl
theorem ia3 (f : Nat) : ∀ q ∈ items (Try.f3.body.get!) (an3 (r3_0 f)), q.Ok tau Try.prog 0 := by
  rw [it3 f]; simp only [List.forall_mem_cons, List.not_mem_nil, false_implies, implies_true, and_true]; exact i3_0 f
theorem fo3 : Try.prog.funcs[3]? = some Try.f3 := by kernel_rfl
theorem bo3 : Try.f3.body = some (Try.f3.body.get!) := by kernel_rfl
theorem en3 : Enters Try.prog 3 := enters_of fo3 (by kernel_rfl) bo3
end Go.Proofs.Ytodldmomneecpaa.Rx

-- FN law3.HmacSigns
/- HmacSigns: any key, any parts, make the document's sign, however they are cut. Own work. -/
namespace Go.Proofs.Ytodldmomneecpaa.Rx
open Go
set_option linter.unusedVariables false
set_option linter.unusedSimpArgs false
set_option maxRecDepth 100000
set_option maxHeartbeats 1000000
theorem flat_len_le (m : Nat) : ∀ (l : List PV), (∀ p ∈ l, p.els.length ≤ m) → (flat l).length ≤ l.length * m
  | [], h => by simp
  | p :: ps, h => by
      rw [flat_cons, List.length_append, List.length_cons, Nat.add_mul]
      have h1 := h p List.mem_cons_self
      have h2 := flat_len_le m ps fun q hq => h q (List.mem_cons_of_mem _ hq)
      omega
theorem l3_0 (l : List PV) (h1 : l.all (PV.isRo 5) = true) (h2 : l.length ≤ 6) (f : Nat) (k0 : Bool → Bool → List PV → Bool → Bool → List PV → Bool → Option Res) (k1 : Bool → Bool → List PV → Bool → Bool → List PV → Option Res) (a b c d : Bool) (key : List PV) (R : Option Res)
    (hk0 : k0 a b key c d l true = R) (hk1 : (∀ p ∈ l, p.els.length ≤ 200) → k1 a b key c d l = R) : ∀ (dd i n : Nat), i + dd = l.length → dd < n → (∀ p ∈ l.take i, p.els.length ≤ 200) → lp3_0 f k0 k1 n a b key c d l (i : Int) = R
  | 0, i, n + 1, h, hn, hp => by
      obtain rfl : i = l.length := by omega
      rw [List.take_length] at hp
      simp only [lp3_0, lpS3_0]
      exact (bif_f (by simp [zi])).trans (hk1 hp)
  | dd + 1, i, n + 1, h, hn, hp => by
      have g1 : ((i : Int)).toNat = i := by omega
      have w1 : IntKind.i64.wrap ((i : Int) + 1) = ((i + 1 : Nat) : Int) := by rw [wrap_i64 (by omega) (by omega)]; omega
      simp only [lp3_0, lpS3_0, g1, w1]
      refine (bif_t (by simp [zi]; omega)).trans ((bif_t (by rw [isRo_getD h1 (by omega)]; simp [zi]; omega)).trans ?_)
      by_cases hc : (l.getD i .top).els.length > 200
      · exact (bif_t (by simp only [zi, decide_eq_true_eq]; omega)).trans hk0
      · refine (bif_f (by simp only [zi, decide_eq_false_iff_not]; omega)).trans ?_
        refine l3_0 l h1 h2 f k0 k1 a b c d key R hk0 hk1 dd (i + 1) n (by omega) (by omega) fun p hp2 => ?_
        rw [List.take_add_one] at hp2
        rcases List.mem_append.1 hp2 with hp2 | hp2
        · exact hp p hp2
        · rw [List.getElem?_eq_getElem (by omega)] at hp2
          simp only [Option.toList_some, List.mem_singleton] at hp2
          rw [hp2]
          rw [List.getD_eq_getElem?_getD, List.getElem?_eq_getElem (by omega)] at hc
          simpa using hc
theorem g3_eq (kz kf : Bool) (key : List PV) (lz lf : Bool) (l : List PV) (a1 : allInt .u8 key = true) (h1 : l.all (PV.isRo 5) = true) (h3 : allInt .u8 (flat l) = true) (hz : lz = true → l = []) (k : Res → Option Res) :
    g3 20 kz kf key lz lf l k = k ⟨.sc (.bool true), [], []⟩ := by
  unfold g3
  by_cases c1 : key.length > 200
  · exact bif_t (by simp [zi]; omega)
  refine (bif_f (by simp [zi]; omega)).trans ?_
  by_cases c2 : l.length > 6
  · exact bif_t (by simp [zi]; omega)
  refine (bif_f (by simp [zi]; omega)).trans ?_
  refine l3_0 l h1 (by omega) 20 _ _ kz kf lz lf key _ rfl (fun hp => ?_) l.length 0 20 (by omega) (by omega) (by simp)
  have hl := flat_len_le 200 l hp
  have hl2 : (flat l).length ≤ 1200 := by have := Nat.mul_le_mul_right 200 (show l.length ≤ 6 by omega); omega
  have hzb : (!lz || l.isEmpty) = true := by
    cases lz with
    | true => rw [hz rfl]; rfl
    | false => rfl
  have hf : ∀ b : Bool, flat [.ro 5 b false (flat l)] = flat l := fun b => by simp [PV.els]
  simp only [Nat.zero_add, List.nil_append, List.take_length, List.drop_zero, List.take_succ_cons, List.take_zero, hf, allInt_pu, eqInts_pu, macP_length, pu_length, a1, h1, h3, hzb, Bool.true_and, Bool.and_true, beq_self_eq_true, decide_true, cond_true]
  have d0 : roomy key.length 1 = true := by simp [roomy]; omega
  have d1 : decide (key.length ≤ 1000000000) = true := by simp; omega
  have d2 : decide (l.length ≤ 1000000) = true := by simp; omega
  have d3 : decide ((flat l).length ≤ 1000000000) = true := by simp; omega
  have d4 : decide (l.length ≤ 1000) = true := by simp; omega
  have d5 : decide ((flat l).length ≤ 1000000) = true := by simp; omega
  simp only [d0, d1, d2, d3, d4, d5, Bool.true_and, Bool.and_true, cond_true]
noncomputable def run3' : List PV → List Ent → (Res → Option Res) → Option Res
  | [.ro 5 kz kf key, .ro 22 lz lf l], [], k => bif allInt .u8 key && l.all (PV.isRo 5) && allInt .u8 (flat l) && (!lz || l.isEmpty) then k ⟨.sc (.bool true), [], []⟩ else none
  | _, _, _ => none
noncomputable def s3' : Sig := { own := [], run := run3' }
theorem ok3' : CallOk tau Try.prog 3 s3' := CallOk.mk' fun xs es k res hl hr => by
  change run3' xs es k = some res at hr
  unfold run3' at hr
  split at hr
  · rename_i kz kf key lz lf l
    obtain ⟨hc, hr⟩ := of_bif hr
    simp only [Bool.and_eq_true, Bool.or_eq_true, Bool.not_eq_true', List.isEmpty_iff] at hc
    exact fn_at tabOk F3_ok mixed fo3 bo3 (an3 (r3_0 20)) [.ro] 0 0 (ia3 20) hl rfl ((e3 20 kz kf key lz lf l k).trans ((g3_eq kz kf key lz lf l hc.1.1.1 hc.1.1.2 hc.1.2 (fun hp => hc.2.resolve_left (by rw [hp]; decide)) k).trans hr))
  · cases hr
/-- rows of bytes, by their type -/
theorem ty_rows {n : Nat} (l : List PV) (h : ∀ q ∈ l, Ty tau (n + 2) 22 q) : l.all (PV.isRo 5) = true ∧ allInt .u8 (flat l) = true := by
  have u1 : tau.und 22 = some (.slice 5) := by kernel_rfl
  have u2 : tau.und 5 = some (.int .u8) := by kernel_rfl
  induction l with
  | nil => exact ⟨rfl, rfl⟩
  | cons p ps ih =>
    obtain ⟨i1, i2⟩ := ih fun q hq => h q (List.mem_cons_of_mem _ hq)
    obtain ⟨nl, els, rfl, _, _, t⟩ := ty_slice u1 (h p List.mem_cons_self)
    refine ⟨by simp [PV.isRo, i1], ?_⟩
    rw [flat_cons, allInt_append, i2]
    simp only [PV.els, Bool.and_true]
    exact ty_ints u2 els t
theorem tyL2 {τ : Tab} {m : Nat} {a b : TypeId} {pvs : List PV} (h : TyL τ m [a, b] pvs) : ∃ p q, pvs = [p, q] ∧ Ty τ m a p ∧ Ty τ m b q := by
  match pvs, h with
  | [p, q], h => exact ⟨p, q, rfl, h.1, h.2.1⟩
theorem tyL3 {τ : Tab} {m : Nat} {a b c : TypeId} {pvs : List PV} (h : TyL τ m [a, b, c] pvs) : ∃ p q r, pvs = [p, q, r] ∧ Ty τ m a p ∧ Ty τ m b q ∧ Ty τ m c r := by
  match pvs, h with
  | [p, q, r], h => exact ⟨p, q, r, rfl, h.1, h.2.1, h.2.2.1⟩
theorem tyL4 {τ : Tab} {m : Nat} {a b c d : TypeId} {pvs : List PV} (h : TyL τ m [a, b, c, d] pvs) : ∃ p q r s, pvs = [p, q, r, s] ∧ Ty τ m a p ∧ Ty τ m b q ∧ Ty τ m c r ∧ Ty τ m d s := by
  match pvs, h with
  | [p, q, r, s], h => exact ⟨p, q, r, s, rfl, h.1, h.2.1, h.2.2.1, h.2.2.2.1⟩
theorem run3_true : ∀ pvs, TyL tau 4 [22, 23] pvs → s3'.run pvs [] some = some ⟨.sc (.bool true), [], []⟩ := by
  intro pvs h
  obtain ⟨p, q, rfl, h1, h2⟩ := tyL2 h
  have u1 : tau.und 22 = some (.slice 5) := by kernel_rfl
  have u3 : tau.und 23 = some (.slice 22) := by kernel_rfl
  have u2 : tau.und 5 = some (.int .u8) := by kernel_rfl
  obtain ⟨nl, els, rfl, _, _, t1⟩ := ty_slice u1 h1
  obtain ⟨nl2, els2, rfl, z2, _, t2⟩ := ty_slice u3 h2
  obtain ⟨r1, r2⟩ := ty_rows els2 t2
  refine bif_t ?_
  rw [ty_ints u2 els t1, r1, r2]
  cases nl2 with
  | true => rw [z2 rfl]; rfl
  | false => rfl
end Go.Proofs.Ytodldmomneecpaa.Rx

-- FN law3.HmacKeys
/- HmacKeys: a short key is as one with noughts behind it, a long one as its sum. Own work. -/
namespace Go.Proofs.Ytodldmomneecpaa.Rx
open Go
set_option linter.unusedVariables false
set_option linter.unusedSimpArgs false
set_option maxRecDepth 100000
set_option maxHeartbeats 1000000
theorem mac_long {K : List Int} (h : 64 < K.length) (B : List Int) : macP (sumP K) B = macP K B := by
  rw [macP_eq, macP_eq, macP0, macP0]
  have e : keyB (sumP K) = keyB K := by
    unfold keyB
    rw [if_neg (by rw [sumP_length]; omega), if_pos (by omega)]
  rw [e]
theorem mac_pad {K : List Int} {m : Nat} (h : K.length + m ≤ 64) (B : List Int) : macP (K ++ List.replicate m 0) B = macP K B := by
  rw [macP_eq, macP_eq, macP0, macP0]
  have e : keyB (K ++ List.replicate m 0) = keyB K := by
    unfold keyB
    rw [if_neg (by simp; omega), if_neg (by omega)]
    unfold padK
    rw [List.append_assoc, List.replicate_append_replicate]
    congr 2
    simp; omega
  rw [e]
theorem rep_pu (m : Nat) : List.replicate m (PV.sc (Value.int IntKind.u8 0)) = pu .u8 (List.replicate m 0) := by simp [pu]
theorem g4_eq (K B : List Int) (kz kf bz bf : Bool) (n : Int) (k : Res → Option Res) : g4 0 kz kf (pu .u8 K) n bz bf (pu .u8 B) k = k ⟨.sc (.bool true), [], []⟩ := by
  unfold g4
  by_cases c1 : K.length > 200
  · exact bif_t (by simp [zi]; omega)
  refine (bif_f (by simp [zi]; omega)).trans ?_
  by_cases c2 : B.length > 200
  · exact bif_t (by simp [zi]; omega)
  refine (bif_f (by simp [zi]; omega)).trans ?_
  have hf : ∀ (x z : Bool) (l : List PV), flat [.ro 5 x z l] = l := fun x z l => by simp [PV.els]
  have d1 : decide (K.length ≤ 1000000000) = true := by simp; omega
  have d2 : decide (B.length ≤ 1000000000) = true := by simp; omega
  simp only [hf, pu_length, allInt_pu, ints_pu, d1, d2, Bool.true_and, Bool.and_true, cond_true, macP_length, decide_true, eqInts_pu, Nat.zero_add]
  by_cases c3 : K.length > 64
  · refine (bif_t (by simp [zi]; omega)).trans ?_
    refine (bif_t (by simp; omega)).trans ?_
    have ht : List.take 32 (pu .u8 (sumP K)) = pu .u8 (sumP K) := List.take_of_length_le (by rw [pu_length, sumP_length]; exact Nat.le_refl _)
    simp only [ht, pu_length, sumP_length, allInt_pu, ints_pu, mac_long c3]
    simp
  · refine (bif_f (by simp [zi]; omega)).trans ?_
    have hw : IntKind.i64.wrap (64 - zi K.length) = 64 - (K.length : Int) := by simp only [zi]; rw [wrap_i64 (by omega) (by omega)]
    rw [hw]
    have hm : 0 ≤ minI (maxI (n.tmod 65) 0) (64 - (K.length : Int)) ∧ minI (maxI (n.tmod 65) 0) (64 - (K.length : Int)) ≤ 64 - (K.length : Int) := by
      unfold minI maxI
      split <;> split <;> omega
    generalize minI (maxI (n.tmod 65) 0) (64 - (K.length : Int)) = m at hm
    obtain ⟨m, rfl⟩ := Int.eq_ofNat_of_zero_le hm.1
    simp only [Int.toNat_natCast]
    have ht : List.take (K.length + m) (List.take K.length (pu .u8 K) ++ List.replicate m (PV.sc (Value.int IntKind.u8 0))) = pu .u8 (K ++ List.replicate m 0) := by
      rw [List.take_of_length_le (show (pu .u8 K).length ≤ K.length by simp), rep_pu, ← pu_append]
      exact List.take_of_length_le (by simp)
    refine (bif_t (by simp [roomy]; omega)).trans ((bif_t (by simp [roomy]; omega)).trans ?_)
    simp only [ht, pu_length, allInt_pu, ints_pu, mac_pad (show K.length + m ≤ 64 by omega)]
    refine (bif_t (by simp; omega)).trans ?_
    simp
noncomputable def run4' : List PV → List Ent → (Res → Option Res) → Option Res
  | [.ro 5 kz kf key, .sc (.int .i64 n), .ro 5 bz bf b], [], k => bif allInt .u8 key && allInt .u8 b then k ⟨.sc (.bool true), [], []⟩ else none
  | _, _, _ => none
noncomputable def s4' : Sig := { own := [], run := run4' }
theorem ok4' : CallOk tau Try.prog 4 s4' := ok4.of fun xs es k res hr => by
  change run4' xs es k = some res at hr
  unfold run4' at hr
  split at hr
  · rename_i kz kf key n bz bf b
    obtain ⟨hc, hr⟩ := of_bif hr
    simp only [Bool.and_eq_true] at hc
    show g4 0 kz kf key n bz bf b k = some res
    rw [pu_ints hc.1, pu_ints hc.2, g4_eq]; exact hr
  · cases hr
theorem run4_true : ∀ pvs, TyL tau 4 [22, 3, 22] pvs → s4'.run pvs [] some = some ⟨.sc (.bool true), [], []⟩ := by
  intro pvs h
  obtain ⟨p, q, r, rfl, h1, h2, h3⟩ := tyL3 h
  have u1 : tau.und 22 = some (.slice 5) := by kernel_rfl
  have u2 : tau.und 5 = some (.int .u8) := by kernel_rfl
  have u3 : tau.und 3 = some (.int .i64) := by kernel_rfl
  obtain ⟨nl, els, rfl, _, _, t1⟩ := ty_slice u1 h1
  obtain ⟨x, rfl, _⟩ := ty_int u3 h2
  obtain ⟨nl2, els2, rfl, _, _, t2⟩ := ty_slice u1 h3
  exact bif_t (by rw [ty_ints u2 els t1, ty_ints u2 els2 t2]; rfl)
end Go.Proofs.Ytodldmomneecpaa.Rx
