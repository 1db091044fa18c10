/- What the functions of this law compute, and their plain laws. Conditions: none. -/
import Derived.Test.YtodldmomneecpabWaveletNewP1
/- What comitia/comitiaref2.Sum computes. Own work, printed by a program of the worker's own. -/
namespace Go.Proofs.Ytodldmomneecpab.Rx
open Go
set_option linter.unusedVariables false
set_option maxRecDepth 100000
set_option maxHeartbeats 0
def N18 : Nat := 278
noncomputable def F18 : Fns := addF 43 s43 (addF 44 s44' F0)
theorem F18_ok : FnsOk tau Try.prog F18 := (F0_ok.add ok44' en44).add ok43 en43
noncomputable def c18_0 : Code := subC (Try.f18.body.get!) [1, 1, 1, 1, 1, 0, 0, 0]
def nm18_0 : Nm := [(0, .any), (2, .any), (3, .any), (4, .any), (5, .any)]
def nx18_0 : Nm := [(0, .any), (2, .any), (3, .any), (4, .any), (5, .any)]
def x18_0 : An := (.seq (.seq .leaf (.cond .leaf .leaf)) (.block none .leaf))
noncomputable def c18_1 : Code := subC (Try.f18.body.get!) [1, 1, 1, 1, 1, 1, 1, 0, 1, 0, 0]
def nm18_1 : Nm := [(2, .any), (3, .any), (4, .any), (5, .any), (6, .any), (7, .any)]
def nx18_1 : Nm := [(2, .any), (3, .any), (4, .any), (5, .any)]
def x18_1 : An := (.seq (.seq .leaf (.cond .leaf .leaf)) (.seq (.block none .leaf) .leaf))
noncomputable def c18_3 : Code := subC (Try.f18.body.get!) [1, 1, 1, 1, 1, 1, 1, 1, 1, 0, 1, 0, 0, 1, 0, 0, 0, 1, 0, 0]
def nm18_3 : Nm := [(2, .any), (3, .any), (4, .any), (5, .any), (8, .any), (9, .any), (10, .any)]
def nx18_3 : Nm := [(2, .any), (3, .any), (4, .any), (5, .any), (8, .any), (9, .any)]
def x18_3 : An := (.seq (.seq .leaf (.cond .leaf .leaf)) (.seq (.block none (.seq .leaf .leaf)) .leaf))
noncomputable def c18_4 : Code := subC (Try.f18.body.get!) [1, 1, 1, 1, 1, 1, 1, 1, 1, 0, 1, 0, 0, 1, 0, 0, 1, 0, 1, 0, 0]
def nm18_4 : Nm := [(2, .any), (3, .any), (4, .any), (5, .any), (8, .any), (9, .any), (12, .any)]
def nx18_4 : Nm := [(2, .any), (3, .any), (4, .any), (5, .any), (8, .any), (9, .any)]
def x18_4 : An := (.seq (.seq .leaf (.cond .leaf .leaf)) (.seq (.block none (.seq .leaf .leaf)) .leaf))
noncomputable def c18_5 : Code := subC (Try.f18.body.get!) [1, 1, 1, 1, 1, 1, 1, 1, 1, 0, 1, 0, 0, 1, 0, 0, 1, 1, 1, 0, 1, 0, 0]
def nm18_5 : Nm := [(2, .any), (3, .any), (4, .any), (5, .any), (8, .any), (9, .any), (15, .any), (16, .any)]
def nx18_5 : Nm := [(2, .any), (3, .any), (4, .any), (5, .any), (8, .any), (9, .any), (15, .any)]
def x18_5 : An := (.seq (.seq .leaf (.cond .leaf .leaf)) (.seq (.block none (.seq .leaf (.seq .leaf (.seq .leaf .leaf)))) .leaf))
noncomputable def c18_6 : Code := subC (Try.f18.body.get!) [1, 1, 1, 1, 1, 1, 1, 1, 1, 0, 1, 0, 0, 1, 0, 0, 1, 1, 1, 1, 1, 0, 0]
def nm18_6 : Nm := [(2, .any), (3, .any), (4, .any), (5, .any), (8, .any), (9, .any), (15, .any), (20, .any)]
def nx18_6 : Nm := [(2, .any), (3, .any), (4, .any), (5, .any), (8, .any), (9, .any)]
def x18_6 : An := (.seq (.seq .leaf (.cond .leaf .leaf)) (.seq (.block none .leaf) .leaf))
noncomputable def c18_2 : Code := subC (Try.f18.body.get!) [1, 1, 1, 1, 1, 1, 1, 1, 1, 0, 1, 0, 0]
def nm18_2 : Nm := [(2, .any), (3, .any), (4, .any), (5, .any), (8, .any), (9, .any)]
def nx18_2 : Nm := [(2, .any), (4, .any)]
def x18_2 (r3 : RunL) (r4 : RunL) (r5 : RunL) (r6 : RunL) : An := (.seq (.seq .leaf (.cond .leaf .leaf)) (.seq (.block none (.seq (.seq .leaf (.block none (.sum nm18_3 N18 r3))) (.seq (.seq .leaf (.block none (.sum nm18_4 N18 r4))) (.seq .leaf (.seq (.seq .leaf (.block none (.sum nm18_5 N18 r5))) (.seq .leaf (.block none (.sum nm18_6 N18 r6)))))))) .leaf))
noncomputable def c18_7 : Code := subC (Try.f18.body.get!) [1, 1, 1, 1, 1, 1, 1, 1, 1, 1, 1, 0, 1, 0, 0]
def nm18_7 : Nm := [(2, .any), (4, .any), (21, .any), (22, .any)]
def nx18_7 : Nm := [(2, .any), (21, .any)]
def x18_7 : An := (.seq (.seq .leaf (.cond .leaf .leaf)) (.seq (.block none .leaf) .leaf))
def an18 (r0 : RunL) (r1 : RunL) (r2 : RunL) (r7 : RunL) : An := (.seq .leaf (.seq .leaf (.seq .leaf (.seq .leaf (.seq .leaf (.seq (.block none (.sum nm18_0 N18 r0)) (.seq .leaf (.seq (.seq .leaf (.block none (.sum nm18_1 N18 r1))) (.seq .leaf (.seq (.seq .leaf (.block none (.sum nm18_2 N18 r2))) (.seq .leaf (.seq (.seq .leaf (.block none (.sum nm18_7 N18 r7))) (.seq .leaf .leaf)))))))))))))
def lpS18_0 (f : Nat) (rc : Bool → Bool → List
  PV → Nat → List
  PV → List
  PV → List
  PV → List
  PV → Option Res) (k0 : Bool → Bool → List
  PV → Nat → List PV → List PV → List PV → List PV → Option Res) (v0 : Bool) (v1 : Bool) (v2 : List PV) (v3 : Nat) (v4 : List PV) (v5 : List PV) (v6 : List PV) (v7 : List PV) : Option Res :=
  bif (zi v3).tmod 64 != 56 then
    bif roomy (v3 + 1) 1 && true then
      rc v0 v1 v2 (v3 + 1) v4 v5 v6 (List.take v3 v7 ++ [PV.sc (Value.int IntKind.u8 0)])
    else none
  else k0 v0 v1 v2 v3 v4 v5 v6 v7
def lp18_0 (f : Nat) (k0 : Bool → Bool → List PV → Nat → List PV → List PV → List PV → List PV → Option Res) : Nat → Bool → Bool → List PV → Nat → List PV → List PV → List PV → List PV → Option Res
  | 0, _, _, _, _, _, _, _, _ => none
  | n + 1, v0, v1, v2, v3, v4, v5, v6, v7 => lpS18_0 f (lp18_0 f k0 n) k0 v0 v1 v2 v3 v4 v5 v6 v7
theorem lpR18_0 (f : Nat) (k : Kont) (n : Nat) (v0 : Bool) (v1 : Bool) (v2 : List
  PV) (v3 : Nat) (v4 : List
  PV) (v5 : List
  PV) (v6 : List
  PV) (v7 : List
  PV) : evLoop tau 0 nm18_0 (fun s k => ev tau F18 0 0 c18_0 (x18_0 ) s k) (n + 1) (fillS nm18_0 N18 [PV.ro 5 v0 v1 v2, PV.ptr 4464 [], PV.ptr 4465 [], PV.ptr 4466 [],
  PV.ow 5 4467 [] 0 v3
    none] [(4464, Ent.box false 29 (PV.ar 29 v4)), (4465, Ent.box false 104 (PV.ar 104 v5)), (4466, Ent.box false 106 (PV.ar 106 v6)),
  (4467,
    Ent.vec false 5 false
      v7)]) (kNorm tau 0 nx18_0 k) = lpS18_0 f (fun v0 v1 v2 v3 v4 v5 v6 v7 => evLoop tau 0 nm18_0 (fun s k => ev tau F18 0 0 c18_0 (x18_0 ) s k) n (fillS nm18_0 N18 [PV.ro 5 v0 v1 v2,
  PV.ptr 4464 [], PV.ptr 4465 [], PV.ptr 4466 [],
  PV.ow 5 4467 [] 0 v3
    none] [(4464, Ent.box false 29 (PV.ar 29 v4)), (4465, Ent.box false 104 (PV.ar 104 v5)), (4466, Ent.box false 106 (PV.ar 106 v6)),
  (4467,
    Ent.vec false 5 false
      v7)]) (kNorm tau 0 nx18_0 k)) (fun x0 x1 x2 x3 x4 x5 x6 x7 => k (Ex.exit
  0) (fillS nx18_0 N18 [PV.ro 5 x0 x1 x2, PV.ptr 4464 [], PV.ptr 4465 [], PV.ptr 4466 [],
  PV.ow 5 4467 [] 0 x3
    none] [(4464, Ent.box false 29 (PV.ar 29 x4)), (4465, Ent.box false 104 (PV.ar 104 x5)), (4466, Ent.box false 106 (PV.ar 106 x6)),
  (4467, Ent.vec false 5 false x7)])) v0 v1 v2 v3 v4 v5 v6 v7 := by kernel_rfl
theorem lpE18_0 (f : Nat) (k : Kont) : ∀ (n : Nat) (v0 : Bool) (v1 : Bool) (v2 : List
  PV) (v3 : Nat) (v4 : List
  PV) (v5 : List
  PV) (v6 : List
  PV) (v7 : List
  PV), evLoop tau 0 nm18_0 (fun s k => ev tau F18 0 0 c18_0 (x18_0 ) s k) n (fillS nm18_0 N18 [PV.ro 5 v0 v1 v2, PV.ptr 4464 [], PV.ptr 4465 [], PV.ptr 4466 [],
  PV.ow 5 4467 [] 0 v3
    none] [(4464, Ent.box false 29 (PV.ar 29 v4)), (4465, Ent.box false 104 (PV.ar 104 v5)), (4466, Ent.box false 106 (PV.ar 106 v6)),
  (4467,
    Ent.vec false 5 false
      v7)]) (kNorm tau 0 nx18_0 k) = lp18_0 f (fun x0 x1 x2 x3 x4 x5 x6 x7 => k (Ex.exit
  0) (fillS nx18_0 N18 [PV.ro 5 x0 x1 x2, PV.ptr 4464 [], PV.ptr 4465 [], PV.ptr 4466 [],
  PV.ow 5 4467 [] 0 x3
    none] [(4464, Ent.box false 29 (PV.ar 29 x4)), (4465, Ent.box false 104 (PV.ar 104 x5)), (4466, Ent.box false 106 (PV.ar 106 x6)), (4467, Ent.vec false 5 false x7)])) n v0 v1 v2 v3 v4 v5 v6 v7
  | 0, _, _, _, _, _, _, _, _ => rfl
  | n + 1, v0, v1, v2, v3, v4, v5, v6, v7 => (lpR18_0 f k n v0 v1 v2 v3 v4 v5 v6 v7).trans (congrArg (fun r => lpS18_0 f r (fun x0 x1 x2 x3 x4 x5 x6 x7 => k (Ex.exit
  0) (fillS nx18_0 N18 [PV.ro 5 x0 x1 x2, PV.ptr 4464 [], PV.ptr 4465 [], PV.ptr 4466 [],
  PV.ow 5 4467 [] 0 x3
    none] [(4464, Ent.box false 29 (PV.ar 29 x4)), (4465, Ent.box false 104 (PV.ar 104 x5)), (4466, Ent.box false 106 (PV.ar 106 x6)),
  (4467, Ent.vec false 5 false x7)])) v0 v1 v2 v3 v4 v5 v6 v7) (by funext v0 v1 v2 v3 v4 v5 v6 v7; exact lpE18_0 f k n v0 v1 v2 v3 v4 v5 v6 v7))
def r18_0 (f : Nat) : List PV → List (Nat × Ent) → Kont → Option Res
  | [PV.ro 5 v0 v1 v2, PV.ptr 4464 [], PV.ptr 4465 [], PV.ptr 4466 [],
  PV.ow 5 4467 [] 0 v3
    none], [(4464, Ent.box false 29 (PV.ar 29 v4)), (4465, Ent.box false 104 (PV.ar 104 v5)), (4466, Ent.box false 106 (PV.ar 106 v6)),
  (4467,
    Ent.vec false 5 false
      v7)], k => lp18_0 f (fun x0 x1 x2 x3 x4 x5 x6 x7 => k (Ex.exit
  0) (fillS nx18_0 N18 [PV.ro 5 x0 x1 x2, PV.ptr 4464 [], PV.ptr 4465 [], PV.ptr 4466 [],
  PV.ow 5 4467 [] 0 x3
    none] [(4464, Ent.box false 29 (PV.ar 29 x4)), (4465, Ent.box false 104 (PV.ar 104 x5)), (4466, Ent.box false 106 (PV.ar 106 x6)), (4467, Ent.vec false 5 false x7)])) f v0 v1 v2 v3 v4 v5 v6 v7
  | _, _, _ => none
theorem it18_0 (f : Nat) : items c18_0 x18_0 = [] := by kernel_rfl
theorem i18_0 (f : Nat) : (Item.l c18_0 nm18_0 N18 (r18_0 f)).Ok tau Try.prog 0 := loop_item tabOk F18_ok mixed (x := x18_0) (nm2 := nx18_0) (anOk_items _ _ (by rw [it18_0 f]; intro q hq; cases hq)) fun vs hp k res hr => by
  unfold r18_0 at hr
  split at hr
  · exact ⟨f, 0, (lpE18_0 f _ f _ _ _ _ _ _ _ _ ).trans hr⟩
  · cases hr
def lpS18_1 (f : Nat) (rc : Nat → Int → Int → List
  PV → List
  PV → List
  PV → List
  PV → Option Res) (k0 : Nat → List PV → List PV → List PV → List PV → Option Res) (v0 : Nat) (v1 : Int) (v2 : Int) (v3 : List PV) (v4 : List PV) (v5 : List PV) (v6 : List PV) : Option Res :=
  bif decide (v2 ≥ 0) then
    bif decide (0 ≤ IntKind.u64.wrap (8 * IntKind.u64.wrap v2)) && true then
      bif roomy (v0 + 1) 1 && true then
        rc (v0 + 1) v1 (IntKind.i64.wrap (v2 - 1)) v3 v4 v5 (List.take v0 v6 ++ [PV.sc (Value.int IntKind.u8 (IntKind.u8.wrap (shrI IntKind.u64 v1 (IntKind.u64.wrap (8 * IntKind.u64.wrap v2)))))])
      else none
    else none
  else k0 v0 v3 v4 v5 v6
def lp18_1 (f : Nat) (k0 : Nat → List PV → List PV → List PV → List PV → Option Res) : Nat → Nat → Int → Int → List PV → List PV → List PV → List PV → Option Res
  | 0, _, _, _, _, _, _, _ => none
  | n + 1, v0, v1, v2, v3, v4, v5, v6 => lpS18_1 f (lp18_1 f k0 n) k0 v0 v1 v2 v3 v4 v5 v6
theorem lpR18_1 (f : Nat) (k : Kont) (n : Nat) (v0 : Nat) (v1 : Int) (v2 : Int) (v3 : List
  PV) (v4 : List
  PV) (v5 : List
  PV) (v6 : List
  PV) : evLoop tau 0 nm18_1 (fun s k => ev tau F18 0 0 c18_1 (x18_1 ) s k) (n + 1) (fillS nm18_1 N18 [PV.ptr 4464 [], PV.ptr 4465 [], PV.ptr 4466 [], PV.ow 5 4467 [] 0 v0 none,
  PV.sc (Value.int IntKind.u64 v1),
  PV.sc
    (Value.int IntKind.i64
      v2)] [(4464, Ent.box false 29 (PV.ar 29 v3)), (4465, Ent.box false 104 (PV.ar 104 v4)), (4466, Ent.box false 106 (PV.ar 106 v5)),
  (4467,
    Ent.vec false 5 false
      v6)]) (kNorm tau 0 nx18_1 k) = lpS18_1 f (fun v0 v1 v2 v3 v4 v5 v6 => evLoop tau 0 nm18_1 (fun s k => ev tau F18 0 0 c18_1 (x18_1 ) s k) n (fillS nm18_1 N18 [PV.ptr 4464 [], PV.ptr 4465 [],
  PV.ptr 4466 [], PV.ow 5 4467 [] 0 v0 none, PV.sc (Value.int IntKind.u64 v1),
  PV.sc
    (Value.int IntKind.i64
      v2)] [(4464, Ent.box false 29 (PV.ar 29 v3)), (4465, Ent.box false 104 (PV.ar 104 v4)), (4466, Ent.box false 106 (PV.ar 106 v5)),
  (4467,
    Ent.vec false 5 false
      v6)]) (kNorm tau 0 nx18_1 k)) (fun x0 x1 x2 x3 x4 => k (Ex.exit
  2) (fillS nx18_1 N18 [PV.ptr 4464 [], PV.ptr 4465 [], PV.ptr 4466 [],
  PV.ow 5 4467 [] 0 x0
    none] [(4464, Ent.box false 29 (PV.ar 29 x1)), (4465, Ent.box false 104 (PV.ar 104 x2)), (4466, Ent.box false 106 (PV.ar 106 x3)),
  (4467, Ent.vec false 5 false x4)])) v0 v1 v2 v3 v4 v5 v6 := by kernel_rfl
theorem lpE18_1 (f : Nat) (k : Kont) : ∀ (n : Nat) (v0 : Nat) (v1 : Int) (v2 : Int) (v3 : List
  PV) (v4 : List
  PV) (v5 : List
  PV) (v6 : List
  PV), evLoop tau 0 nm18_1 (fun s k => ev tau F18 0 0 c18_1 (x18_1 ) s k) n (fillS nm18_1 N18 [PV.ptr 4464 [], PV.ptr 4465 [], PV.ptr 4466 [], PV.ow 5 4467 [] 0 v0 none,
  PV.sc (Value.int IntKind.u64 v1),
  PV.sc
    (Value.int IntKind.i64
      v2)] [(4464, Ent.box false 29 (PV.ar 29 v3)), (4465, Ent.box false 104 (PV.ar 104 v4)), (4466, Ent.box false 106 (PV.ar 106 v5)),
  (4467,
    Ent.vec false 5 false
      v6)]) (kNorm tau 0 nx18_1 k) = lp18_1 f (fun x0 x1 x2 x3 x4 => k (Ex.exit
  2) (fillS nx18_1 N18 [PV.ptr 4464 [], PV.ptr 4465 [], PV.ptr 4466 [],
  PV.ow 5 4467 [] 0 x0
    none] [(4464, Ent.box false 29 (PV.ar 29 x1)), (4465, Ent.box false 104 (PV.ar 104 x2)), (4466, Ent.box false 106 (PV.ar 106 x3)), (4467, Ent.vec false 5 false x4)])) n v0 v1 v2 v3 v4 v5 v6
  | 0, _, _, _, _, _, _, _ => rfl
  | n + 1, v0, v1, v2, v3, v4, v5, v6 => (lpR18_1 f k n v0 v1 v2 v3 v4 v5 v6).trans (congrArg (fun r => lpS18_1 f r (fun x0 x1 x2 x3 x4 => k (Ex.exit
  2) (fillS nx18_1 N18 [PV.ptr 4464 [], PV.ptr 4465 [], PV.ptr 4466 [],
  PV.ow 5 4467 [] 0 x0
    none] [(4464, Ent.box false 29 (PV.ar 29 x1)), (4465, Ent.box false 104 (PV.ar 104 x2)), (4466, Ent.box false 106 (PV.ar 106 x3)),
  (4467, Ent.vec false 5 false x4)])) v0 v1 v2 v3 v4 v5 v6) (by funext v0 v1 v2 v3 v4 v5 v6; exact lpE18_1 f k n v0 v1 v2 v3 v4 v5 v6))
def r18_1 (f : Nat) : List PV → List (Nat × Ent) → Kont → Option Res
  | [PV.ptr 4464 [], PV.ptr 4465 [], PV.ptr 4466 [], PV.ow 5 4467 [] 0 v0 none, PV.sc (Value.int IntKind.u64 v1),
  PV.sc
    (Value.int IntKind.i64
      v2)], [(4464, Ent.box false 29 (PV.ar 29 v3)), (4465, Ent.box false 104 (PV.ar 104 v4)), (4466, Ent.box false 106 (PV.ar 106 v5)),
  (4467,
    Ent.vec false 5 false
      v6)], k => lp18_1 f (fun x0 x1 x2 x3 x4 => k (Ex.exit
  2) (fillS nx18_1 N18 [PV.ptr 4464 [], PV.ptr 4465 [], PV.ptr 4466 [],
  PV.ow 5 4467 [] 0 x0
    none] [(4464, Ent.box false 29 (PV.ar 29 x1)), (4465, Ent.box false 104 (PV.ar 104 x2)), (4466, Ent.box false 106 (PV.ar 106 x3)), (4467, Ent.vec false 5 false x4)])) f v0 v1 v2 v3 v4 v5 v6
  | _, _, _ => none
theorem it18_1 (f : Nat) : items c18_1 x18_1 = [] := by kernel_rfl
theorem i18_1 (f : Nat) : (Item.l c18_1 nm18_1 N18 (r18_1 f)).Ok tau Try.prog 0 := loop_item tabOk F18_ok mixed (x := x18_1) (nm2 := nx18_1) (anOk_items _ _ (by rw [it18_1 f]; intro q hq; cases hq)) fun vs hp k res hr => by
  unfold r18_1 at hr
  split at hr
  · exact ⟨f, 0, (lpE18_1 f _ f _ _ _ _ _ _ _ ).trans hr⟩
  · cases hr
def lpS18_3 (f : Nat) (rc : Nat → Int → Int → List
  PV → List
  PV → List
  PV → List
  PV → List
  PV → Option Res) (k0 : Nat → Int → List
  PV → List PV → List PV → List PV → List PV → Option Res) (v0 : Nat) (v1 : Int) (v2 : Int) (v3 : List PV) (v4 : List PV) (v5 : List PV) (v6 : List PV) (v7 : List PV) : Option Res :=
  bif decide (v2 < 16) then
    bif decide (0 ≤ IntKind.i64.wrap (v1 + IntKind.i64.wrap (4 * v2))) && decide (IntKind.i64.wrap (v1 + IntKind.i64.wrap (4 * v2)) < zi v0) && true then
      bif PV.isInt IntKind.u8 (getP (v6.getD (0 + (IntKind.i64.wrap (v1 + IntKind.i64.wrap (4 * v2))).toNat) PV.top) []) && true then
        bif decide (0 ≤ IntKind.i64.wrap (IntKind.i64.wrap (v1 + IntKind.i64.wrap (4 * v2)) + 1)) && decide (IntKind.i64.wrap (IntKind.i64.wrap (v1 + IntKind.i64.wrap (4 * v2)) + 1) < zi v0) &&
          true then
          bif PV.isInt IntKind.u8 (getP (v6.getD (0 + (IntKind.i64.wrap (IntKind.i64.wrap (v1 + IntKind.i64.wrap (4 * v2)) + 1)).toNat) PV.top) []) && true then
            bif decide (0 ≤ IntKind.i64.wrap (IntKind.i64.wrap (v1 + IntKind.i64.wrap (4 * v2)) + 2)) && decide (IntKind.i64.wrap (IntKind.i64.wrap (v1 + IntKind.i64.wrap (4 * v2)) + 2) < zi v0) &&
              true then
              bif PV.isInt IntKind.u8 (getP (v6.getD (0 + (IntKind.i64.wrap (IntKind.i64.wrap (v1 + IntKind.i64.wrap (4 * v2)) + 2)).toNat) PV.top) []) && true then
                bif decide (0 ≤ IntKind.i64.wrap (IntKind.i64.wrap (v1 + IntKind.i64.wrap (4 * v2)) + 3)) &&
                    decide (IntKind.i64.wrap (IntKind.i64.wrap (v1 + IntKind.i64.wrap (4 * v2)) + 3) < zi v0) &&
                  true then
                  bif PV.isInt IntKind.u8 (getP (v6.getD (0 + (IntKind.i64.wrap (IntKind.i64.wrap (v1 + IntKind.i64.wrap (4 * v2)) + 3)).toNat) PV.top) []) && true then
                    bif decide (0 ≤ v2) && decide (v2 < zi 64) && true then
                      rc v0 v1 (IntKind.i64.wrap
                        (v2 +
                          1)) v3 v4 v5 v6 (v7.set v2.toNat
                        (PV.sc
                          (Value.int IntKind.u32
                            (bitI BinOp.or IntKind.u32
                              (bitI BinOp.or IntKind.u32
                                (bitI BinOp.or IntKind.u32 (shlI IntKind.u32 (IntKind.u32.wrap (getP (v6.getD (0 + (IntKind.i64.wrap (v1 + IntKind.i64.wrap (4 * v2))).toNat) PV.top) []).int) 24)
                                  (shlI IntKind.u32 (IntKind.u32.wrap (getP (v6.getD (0 + (IntKind.i64.wrap (IntKind.i64.wrap (v1 + IntKind.i64.wrap (4 * v2)) + 1)).toNat) PV.top) []).int) 16))
                                (shlI IntKind.u32 (IntKind.u32.wrap (getP (v6.getD (0 + (IntKind.i64.wrap (IntKind.i64.wrap (v1 + IntKind.i64.wrap (4 * v2)) + 2)).toNat) PV.top) []).int) 8))
                              (IntKind.u32.wrap (getP (v6.getD (0 + (IntKind.i64.wrap (IntKind.i64.wrap (v1 + IntKind.i64.wrap (4 * v2)) + 3)).toNat) PV.top) []).int)))))
                    else none
                  else none
                else none
              else none
            else none
          else none
        else none
      else none
    else none
  else k0 v0 v1 v3 v4 v5 v6 v7
def lp18_3 (f : Nat) (k0 : Nat → Int → List PV → List PV → List PV → List PV → List PV → Option Res) : Nat → Nat → Int → Int → List PV → List PV → List PV → List PV → List PV → Option Res
  | 0, _, _, _, _, _, _, _, _ => none
  | n + 1, v0, v1, v2, v3, v4, v5, v6, v7 => lpS18_3 f (lp18_3 f k0 n) k0 v0 v1 v2 v3 v4 v5 v6 v7
theorem lpR18_3 (f : Nat) (k : Kont) (n : Nat) (v0 : Nat) (v1 : Int) (v2 : Int) (v3 : List
  PV) (v4 : List
  PV) (v5 : List
  PV) (v6 : List
  PV) (v7 : List
  PV) : evLoop tau 0 nm18_3 (fun s k => ev tau F18 0 0 c18_3 (x18_3 ) s k) (n + 1) (fillS nm18_3 N18 [PV.ptr 4464 [], PV.ptr 4465 [], PV.ptr 4466 [], PV.ow 5 4467 [] 0 v0 none, PV.ptr 4468 [],
  PV.sc (Value.int IntKind.i64 v1),
  PV.sc
    (Value.int IntKind.i64
      v2)] [(4464, Ent.box false 29 (PV.ar 29 v3)), (4465, Ent.box false 104 (PV.ar 104 v4)), (4466, Ent.box false 106 (PV.ar 106 v5)), (4467, Ent.vec false 5 false v6),
  (4468,
    Ent.box false 104
      (PV.ar 104
        v7))]) (kNorm tau 0 nx18_3 k) = lpS18_3 f (fun v0 v1 v2 v3 v4 v5 v6 v7 => evLoop tau 0 nm18_3 (fun s k => ev tau F18 0 0 c18_3 (x18_3 ) s k) n (fillS nm18_3 N18 [PV.ptr 4464 [],
  PV.ptr 4465 [], PV.ptr 4466 [], PV.ow 5 4467 [] 0 v0 none, PV.ptr 4468 [], PV.sc (Value.int IntKind.i64 v1),
  PV.sc
    (Value.int IntKind.i64
      v2)] [(4464, Ent.box false 29 (PV.ar 29 v3)), (4465, Ent.box false 104 (PV.ar 104 v4)), (4466, Ent.box false 106 (PV.ar 106 v5)), (4467, Ent.vec false 5 false v6),
  (4468,
    Ent.box false 104
      (PV.ar 104
        v7))]) (kNorm tau 0 nx18_3 k)) (fun x0 x1 x2 x3 x4 x5 x6 => k (Ex.exit
  6) (fillS nx18_3 N18 [PV.ptr 4464 [], PV.ptr 4465 [], PV.ptr 4466 [], PV.ow 5 4467 [] 0 x0 none, PV.ptr 4468 [],
  PV.sc
    (Value.int IntKind.i64
      x1)] [(4464, Ent.box false 29 (PV.ar 29 x2)), (4465, Ent.box false 104 (PV.ar 104 x3)), (4466, Ent.box false 106 (PV.ar 106 x4)), (4467, Ent.vec false 5 false x5),
  (4468, Ent.box false 104 (PV.ar 104 x6))])) v0 v1 v2 v3 v4 v5 v6 v7 := by kernel_rfl
theorem lpE18_3 (f : Nat) (k : Kont) : ∀ (n : Nat) (v0 : Nat) (v1 : Int) (v2 : Int) (v3 : List
  PV) (v4 : List
  PV) (v5 : List
  PV) (v6 : List
  PV) (v7 : List
  PV), evLoop tau 0 nm18_3 (fun s k => ev tau F18 0 0 c18_3 (x18_3 ) s k) n (fillS nm18_3 N18 [PV.ptr 4464 [], PV.ptr 4465 [], PV.ptr 4466 [], PV.ow 5 4467 [] 0 v0 none, PV.ptr 4468 [],
  PV.sc (Value.int IntKind.i64 v1),
  PV.sc
    (Value.int IntKind.i64
      v2)] [(4464, Ent.box false 29 (PV.ar 29 v3)), (4465, Ent.box false 104 (PV.ar 104 v4)), (4466, Ent.box false 106 (PV.ar 106 v5)), (4467, Ent.vec false 5 false v6),
  (4468,
    Ent.box false 104
      (PV.ar 104
        v7))]) (kNorm tau 0 nx18_3 k) = lp18_3 f (fun x0 x1 x2 x3 x4 x5 x6 => k (Ex.exit
  6) (fillS nx18_3 N18 [PV.ptr 4464 [], PV.ptr 4465 [], PV.ptr 4466 [], PV.ow 5 4467 [] 0 x0 none, PV.ptr 4468 [],
  PV.sc
    (Value.int IntKind.i64
      x1)] [(4464, Ent.box false 29 (PV.ar 29 x2)), (4465, Ent.box false 104 (PV.ar 104 x3)), (4466, Ent.box false 106 (PV.ar 106 x4)), (4467, Ent.vec false 5 false x5),
  (4468, Ent.box false 104 (PV.ar 104 x6))])) n v0 v1 v2 v3 v4 v5 v6 v7
  | 0, _, _, _, _, _, _, _, _ => rfl
  | n + 1, v0, v1, v2, v3, v4, v5, v6, v7 => (lpR18_3 f k n v0 v1 v2 v3 v4 v5 v6 v7).trans (congrArg (fun r => lpS18_3 f r (fun x0 x1 x2 x3 x4 x5 x6 => k (Ex.exit
  6) (fillS nx18_3 N18 [PV.ptr 4464 [], PV.ptr 4465 [], PV.ptr 4466 [], PV.ow 5 4467 [] 0 x0 none, PV.ptr 4468 [],
  PV.sc
    (Value.int IntKind.i64
      x1)] [(4464, Ent.box false 29 (PV.ar 29 x2)), (4465, Ent.box false 104 (PV.ar 104 x3)), (4466, Ent.box false 106 (PV.ar 106 x4)), (4467, Ent.vec false 5 false x5),
  (4468, Ent.box false 104 (PV.ar 104 x6))])) v0 v1 v2 v3 v4 v5 v6 v7) (by funext v0 v1 v2 v3 v4 v5 v6 v7; exact lpE18_3 f k n v0 v1 v2 v3 v4 v5 v6 v7))
def r18_3 (f : Nat) : List PV → List (Nat × Ent) → Kont → Option Res
  | [PV.ptr 4464 [], PV.ptr 4465 [], PV.ptr 4466 [], PV.ow 5 4467 [] 0 v0 none, PV.ptr 4468 [], PV.sc (Value.int IntKind.i64 v1),
  PV.sc
    (Value.int IntKind.i64
      v2)], [(4464, Ent.box false 29 (PV.ar 29 v3)), (4465, Ent.box false 104 (PV.ar 104 v4)), (4466, Ent.box false 106 (PV.ar 106 v5)), (4467, Ent.vec false 5 false v6),
  (4468,
    Ent.box false 104
      (PV.ar 104
        v7))], k => lp18_3 f (fun x0 x1 x2 x3 x4 x5 x6 => k (Ex.exit
  6) (fillS nx18_3 N18 [PV.ptr 4464 [], PV.ptr 4465 [], PV.ptr 4466 [], PV.ow 5 4467 [] 0 x0 none, PV.ptr 4468 [],
  PV.sc
    (Value.int IntKind.i64
      x1)] [(4464, Ent.box false 29 (PV.ar 29 x2)), (4465, Ent.box false 104 (PV.ar 104 x3)), (4466, Ent.box false 106 (PV.ar 106 x4)), (4467, Ent.vec false 5 false x5),
  (4468, Ent.box false 104 (PV.ar 104 x6))])) f v0 v1 v2 v3 v4 v5 v6 v7
  | _, _, _ => none
theorem it18_3 (f : Nat) : items c18_3 x18_3 = [] := by kernel_rfl
theorem i18_3 (f : Nat) : (Item.l c18_3 nm18_3 N18 (r18_3 f)).Ok tau Try.prog 0 := loop_item tabOk F18_ok mixed (x := x18_3) (nm2 := nx18_3) (anOk_items _ _ (by rw [it18_3 f]; intro q hq; cases hq)) fun vs hp k res hr => by
  unfold r18_3 at hr
  split at hr
  · exact ⟨f, 0, (lpE18_3 f _ f _ _ _ _ _ _ _ _ ).trans hr⟩
  · cases hr
def lpS18_4 (f : Nat) (rc : Nat → Int → Int → List
  PV → List
  PV → List
  PV → List
  PV → List
  PV → Option Res) (k0 : Nat → Int → List
  PV → List PV → List PV → List PV → List PV → Option Res) (v0 : Nat) (v1 : Int) (v2 : Int) (v3 : List PV) (v4 : List PV) (v5 : List PV) (v6 : List PV) (v7 : List PV) : Option Res :=
  bif decide (v2 < 64) then
    bif decide (0 ≤ IntKind.i64.wrap (v2 - 15)) && decide (IntKind.i64.wrap (v2 - 15) < zi 64) && true then
      bif PV.isInt IntKind.u32 (getP (PV.ar 104 v7) [(IntKind.i64.wrap (v2 - 15)).toNat]) && true then
        bif decide (0 ≤ IntKind.i64.wrap (v2 - 2)) && decide (IntKind.i64.wrap (v2 - 2) < zi 64) && true then
          bif PV.isInt IntKind.u32 (getP (PV.ar 104 v7) [(IntKind.i64.wrap (v2 - 2)).toNat]) && true then
            bif decide (0 ≤ IntKind.i64.wrap (v2 - 7)) && decide (IntKind.i64.wrap (v2 - 7) < zi 64) && true then
              bif PV.isInt IntKind.u32 (getP (PV.ar 104 v7) [(IntKind.i64.wrap (v2 - 7)).toNat]) && true then
                bif decide (0 ≤ IntKind.i64.wrap (v2 - 16)) && decide (IntKind.i64.wrap (v2 - 16) < zi 64) && true then
                  bif PV.isInt IntKind.u32 (getP (PV.ar 104 v7) [(IntKind.i64.wrap (v2 - 16)).toNat]) && true then
                    bif decide (0 ≤ v2) && decide (v2 < zi 64) && true then
                      rc v0 v1 (IntKind.i64.wrap
                        (v2 +
                          1)) v3 v4 v5 v6 (v7.set v2.toNat
                        (PV.sc
                          (Value.int IntKind.u32
                            (IntKind.u32.wrap
                              (IntKind.u32.wrap
                                  (IntKind.u32.wrap
                                      (bitI BinOp.xor IntKind.u32
                                          (bitI BinOp.xor IntKind.u32 (rr (getP (PV.ar 104 v7) [(IntKind.i64.wrap (v2 - 2)).toNat]).int 17)
                                            (rr (getP (PV.ar 104 v7) [(IntKind.i64.wrap (v2 - 2)).toNat]).int 19))
                                          (shrI IntKind.u32 (getP (PV.ar 104 v7) [(IntKind.i64.wrap (v2 - 2)).toNat]).int 10) +
                                        (getP (PV.ar 104 v7) [(IntKind.i64.wrap (v2 - 7)).toNat]).int) +
                                    bitI BinOp.xor IntKind.u32
                                      (bitI BinOp.xor IntKind.u32 (rr (getP (PV.ar 104 v7) [(IntKind.i64.wrap (v2 - 15)).toNat]).int 7)
                                        (rr (getP (PV.ar 104 v7) [(IntKind.i64.wrap (v2 - 15)).toNat]).int 18))
                                      (shrI IntKind.u32 (getP (PV.ar 104 v7) [(IntKind.i64.wrap (v2 - 15)).toNat]).int 3)) +
                                (getP (PV.ar 104 v7) [(IntKind.i64.wrap (v2 - 16)).toNat]).int)))))
                    else none
                  else none
                else none
              else none
            else none
          else none
        else none
      else none
    else none
  else k0 v0 v1 v3 v4 v5 v6 v7
def lp18_4 (f : Nat) (k0 : Nat → Int → List PV → List PV → List PV → List PV → List PV → Option Res) : Nat → Nat → Int → Int → List PV → List PV → List PV → List PV → List PV → Option Res
  | 0, _, _, _, _, _, _, _, _ => none
  | n + 1, v0, v1, v2, v3, v4, v5, v6, v7 => lpS18_4 f (lp18_4 f k0 n) k0 v0 v1 v2 v3 v4 v5 v6 v7
theorem lpR18_4 (f : Nat) (k : Kont) (n : Nat) (v0 : Nat) (v1 : Int) (v2 : Int) (v3 : List
  PV) (v4 : List
  PV) (v5 : List
  PV) (v6 : List
  PV) (v7 : List
  PV) : evLoop tau 0 nm18_4 (fun s k => ev tau F18 0 0 c18_4 (x18_4 ) s k) (n + 1) (fillS nm18_4 N18 [PV.ptr 4464 [], PV.ptr 4465 [], PV.ptr 4466 [], PV.ow 5 4467 [] 0 v0 none, PV.ptr 4468 [],
  PV.sc (Value.int IntKind.i64 v1),
  PV.sc
    (Value.int IntKind.i64
      v2)] [(4464, Ent.box false 29 (PV.ar 29 v3)), (4465, Ent.box false 104 (PV.ar 104 v4)), (4466, Ent.box false 106 (PV.ar 106 v5)), (4467, Ent.vec false 5 false v6),
  (4468,
    Ent.box false 104
      (PV.ar 104
        v7))]) (kNorm tau 0 nx18_4 k) = lpS18_4 f (fun v0 v1 v2 v3 v4 v5 v6 v7 => evLoop tau 0 nm18_4 (fun s k => ev tau F18 0 0 c18_4 (x18_4 ) s k) n (fillS nm18_4 N18 [PV.ptr 4464 [],
  PV.ptr 4465 [], PV.ptr 4466 [], PV.ow 5 4467 [] 0 v0 none, PV.ptr 4468 [], PV.sc (Value.int IntKind.i64 v1),
  PV.sc
    (Value.int IntKind.i64
      v2)] [(4464, Ent.box false 29 (PV.ar 29 v3)), (4465, Ent.box false 104 (PV.ar 104 v4)), (4466, Ent.box false 106 (PV.ar 106 v5)), (4467, Ent.vec false 5 false v6),
  (4468,
    Ent.box false 104
      (PV.ar 104
        v7))]) (kNorm tau 0 nx18_4 k)) (fun x0 x1 x2 x3 x4 x5 x6 => k (Ex.exit
  8) (fillS nx18_4 N18 [PV.ptr 4464 [], PV.ptr 4465 [], PV.ptr 4466 [], PV.ow 5 4467 [] 0 x0 none, PV.ptr 4468 [],
  PV.sc
    (Value.int IntKind.i64
      x1)] [(4464, Ent.box false 29 (PV.ar 29 x2)), (4465, Ent.box false 104 (PV.ar 104 x3)), (4466, Ent.box false 106 (PV.ar 106 x4)), (4467, Ent.vec false 5 false x5),
  (4468, Ent.box false 104 (PV.ar 104 x6))])) v0 v1 v2 v3 v4 v5 v6 v7 := by kernel_rfl
theorem lpE18_4 (f : Nat) (k : Kont) : ∀ (n : Nat) (v0 : Nat) (v1 : Int) (v2 : Int) (v3 : List
  PV) (v4 : List
  PV) (v5 : List
  PV) (v6 : List
  PV) (v7 : List
  PV), evLoop tau 0 nm18_4 (fun s k => ev tau F18 0 0 c18_4 (x18_4 ) s k) n (fillS nm18_4 N18 [PV.ptr 4464 [], PV.ptr 4465 [], PV.ptr 4466 [], PV.ow 5 4467 [] 0 v0 none, PV.ptr 4468 [],
  PV.sc (Value.int IntKind.i64 v1),
  PV.sc
    (Value.int IntKind.i64
      v2)] [(4464, Ent.box false 29 (PV.ar 29 v3)), (4465, Ent.box false 104 (PV.ar 104 v4)), (4466, Ent.box false 106 (PV.ar 106 v5)), (4467, Ent.vec false 5 false v6),
  (4468,
    Ent.box false 104
      (PV.ar 104
        v7))]) (kNorm tau 0 nx18_4 k) = lp18_4 f (fun x0 x1 x2 x3 x4 x5 x6 => k (Ex.exit
  8) (fillS nx18_4 N18 [PV.ptr 4464 [], PV.ptr 4465 [], PV.ptr 4466 [], PV.ow 5 4467 [] 0 x0 none, PV.ptr 4468 [],
  PV.sc
    (Value.int IntKind.i64
      x1)] [(4464, Ent.box false 29 (PV.ar 29 x2)), (4465, Ent.box false 104 (PV.ar 104 x3)), (4466, Ent.box false 106 (PV.ar 106 x4)), (4467, Ent.vec false 5 false x5),
  (4468, Ent.box false 104 (PV.ar 104 x6))])) n v0 v1 v2 v3 v4 v5 v6 v7
  | 0, _, _, _, _, _, _, _, _ => rfl
  | n + 1, v0, v1, v2, v3, v4, v5, v6, v7 => (lpR18_4 f k n v0 v1 v2 v3 v4 v5 v6 v7).trans (congrArg (fun r => lpS18_4 f r (fun x0 x1 x2 x3 x4 x5 x6 => k (Ex.exit
  8) (fillS nx18_4 N18 [PV.ptr 4464 [], PV.ptr 4465 [], PV.ptr 4466 [], PV.ow 5 4467 [] 0 x0 none, PV.ptr 4468 [],
  PV.sc
    (Value.int IntKind.i64
      x1)] [(4464, Ent.box false 29 (PV.ar 29 x2)), (4465, Ent.box false 104 (PV.ar 104 x3)), (4466, Ent.box false 106 (PV.ar 106 x4)), (4467, Ent.vec false 5 false x5),
  (4468, Ent.box false 104 (PV.ar 104 x6))])) v0 v1 v2 v3 v4 v5 v6 v7) (by funext v0 v1 v2 v3 v4 v5 v6 v7; exact lpE18_4 f k n v0 v1 v2 v3 v4 v5 v6 v7))
def r18_4 (f : Nat) : List PV → List (Nat × Ent) → Kont → Option Res
  | [PV.ptr 4464 [], PV.ptr 4465 [], PV.ptr 4466 [], PV.ow 5 4467 [] 0 v0 none, PV.ptr 4468 [], PV.sc (Value.int IntKind.i64 v1),
  PV.sc
    (Value.int IntKind.i64
      v2)], [(4464, Ent.box false 29 (PV.ar 29 v3)), (4465, Ent.box false 104 (PV.ar 104 v4)), (4466, Ent.box false 106 (PV.ar 106 v5)), (4467, Ent.vec false 5 false v6),
  (4468,
    Ent.box false 104
      (PV.ar 104
        v7))], k => lp18_4 f (fun x0 x1 x2 x3 x4 x5 x6 => k (Ex.exit
  8) (fillS nx18_4 N18 [PV.ptr 4464 [], PV.ptr 4465 [], PV.ptr 4466 [], PV.ow 5 4467 [] 0 x0 none, PV.ptr 4468 [],
  PV.sc
    (Value.int IntKind.i64
      x1)] [(4464, Ent.box false 29 (PV.ar 29 x2)), (4465, Ent.box false 104 (PV.ar 104 x3)), (4466, Ent.box false 106 (PV.ar 106 x4)), (4467, Ent.vec false 5 false x5),
  (4468, Ent.box false 104 (PV.ar 104 x6))])) f v0 v1 v2 v3 v4 v5 v6 v7
  | _, _, _ => none
theorem it18_4 (f : Nat) : items c18_4 x18_4 = [] := by kernel_rfl
theorem i18_4 (f : Nat) : (Item.l c18_4 nm18_4 N18 (r18_4 f)).Ok tau Try.prog 0 := loop_item tabOk F18_ok mixed (x := x18_4) (nm2 := nx18_4) (anOk_items _ _ (by rw [it18_4 f]; intro q hq; cases hq)) fun vs hp k res hr => by
  unfold r18_4 at hr
  split at hr
  · exact ⟨f, 0, (lpE18_4 f _ f _ _ _ _ _ _ _ _ ).trans hr⟩
  · cases hr
def lpS18_5 (f : Nat) (rc : Nat → Int → Int → List
  PV → List
  PV → List
  PV → List
  PV → List
  PV → List
  PV → Option Res) (k0 : Nat → Int → List
  PV → List
  PV → List PV → List PV → List PV → List PV → Option Res) (v0 : Nat) (v1 : Int) (v2 : Int) (v3 : List PV) (v4 : List PV) (v5 : List PV) (v6 : List PV) (v7 : List PV) (v8 : List PV) : Option Res :=
  bif decide (v2 < 64) then
    bif PV.isInt IntKind.u32 (getP (PV.ar 106 v8) [4]) && true then
      bif PV.isInt IntKind.u32 (getP (PV.ar 106 v8) [7]) && true then
        bif PV.isInt IntKind.u32 (getP (PV.ar 106 v8) [5]) && true then
          bif PV.isInt IntKind.u32 (getP (PV.ar 106 v8) [6]) && true then
            bif decide (0 ≤ v2) && decide (v2 < zi 64) && true then
              bif PV.isInt IntKind.u32 (getP (PV.ar 104 v4) [v2.toNat]) && true then
                bif decide (0 ≤ v2) && decide (v2 < zi 64) && true then
                  bif PV.isInt IntKind.u32 (getP (PV.ar 104 v7) [v2.toNat]) && true then
                    bif PV.isInt IntKind.u32 (getP (PV.ar 106 v8) [0]) && true then
                      bif PV.isInt IntKind.u32 (getP (PV.ar 106 v8) [0]) && true then
                        bif PV.isInt IntKind.u32 (getP (PV.ar 106 v8) [0]) && true then
                          bif PV.isInt IntKind.u32 (getP (PV.ar 106 v8) [0]) && true then
                            bif PV.isInt IntKind.u32 (getP (PV.ar 106 v8) [1]) && true then
                              bif PV.isInt IntKind.u32 (getP (PV.ar 106 v8) [0]) && true then
                                bif PV.isInt IntKind.u32 (getP (PV.ar 106 v8) [2]) && true then
                                  bif PV.isInt IntKind.u32 (getP (PV.ar 106 v8) [1]) && true then
                                    bif PV.isInt IntKind.u32 (getP (PV.ar 106 v8) [2]) && true then
                                      bif PV.isInt IntKind.u32 (getP (PV.ar 106 v8) [0]) && true then
                                        bif PV.isInt IntKind.u32 (getP (PV.ar 106 v8) [1]) && true then
                                          bif PV.isInt IntKind.u32 (getP (PV.ar 106 v8) [2]) && true then
                                            bif PV.isInt IntKind.u32 (getP (PV.ar 106 v8) [3]) && true then
                                              bif PV.isInt IntKind.u32 (getP (PV.ar 106 v8) [4]) && true then
                                                bif PV.isInt IntKind.u32 (getP (PV.ar 106 v8) [5]) && true then
                                                  bif PV.isInt IntKind.u32 (getP (PV.ar 106 v8) [6]) && true then
                                                    rc v0 v1 (IntKind.i64.wrap
                                                      (v2 +
                                                        1)) v3 v4 v5 v6 v7 ([PV.sc
                                                        (Value.int IntKind.u32
                                                          (IntKind.u32.wrap
                                                            (IntKind.u32.wrap
                                                                (IntKind.u32.wrap
                                                                    (IntKind.u32.wrap
                                                                        (IntKind.u32.wrap
                                                                            ((getP (PV.ar 106 v8) [7]).int +
                                                                              bitI BinOp.xor IntKind.u32
                                                                                (bitI BinOp.xor IntKind.u32 (rr (getP (PV.ar 106 v8) [4]).int 6) (rr (getP (PV.ar 106 v8) [4]).int 11))
                                                                                (rr (getP (PV.ar 106 v8) [4]).int 25)) +
                                                                          bitI BinOp.xor IntKind.u32 (bitI BinOp.and IntKind.u32 (getP (PV.ar 106 v8) [4]).int (getP (PV.ar 106 v8) [5]).int)
                                                                            (bitI BinOp.and IntKind.u32
                                                                              (bitI BinOp.xor IntKind.u32 (Int.ofNat (2 ^ IntKind.u32.bits - Nat.succ 0)) (getP (PV.ar 106 v8) [4]).int)
                                                                              (getP (PV.ar 106 v8) [6]).int)) +
                                                                      (getP (PV.ar 104 v4) [v2.toNat]).int) +
                                                                  (getP (PV.ar 104 v7) [v2.toNat]).int) +
                                                              IntKind.u32.wrap
                                                                (bitI BinOp.xor IntKind.u32 (bitI BinOp.xor IntKind.u32 (rr (getP (PV.ar 106 v8) [0]).int 2) (rr (getP (PV.ar 106 v8) [0]).int 13))
                                                                    (rr (getP (PV.ar 106 v8) [0]).int 22) +
                                                                  bitI BinOp.xor IntKind.u32
                                                                    (bitI BinOp.xor IntKind.u32 (bitI BinOp.and IntKind.u32 (getP (PV.ar 106 v8) [0]).int (getP (PV.ar 106 v8) [1]).int)
                                                                      (bitI BinOp.and IntKind.u32 (getP (PV.ar 106 v8) [0]).int (getP (PV.ar 106 v8) [2]).int))
                                                                    (bitI BinOp.and IntKind.u32 (getP (PV.ar 106 v8) [1]).int (getP (PV.ar 106 v8) [2]).int))))),
                                                      PV.sc (Value.int IntKind.u32 (getP (PV.ar 106 v8) [0]).int), PV.sc (Value.int IntKind.u32 (getP (PV.ar 106 v8) [1]).int),
                                                      PV.sc (Value.int IntKind.u32 (getP (PV.ar 106 v8) [2]).int),
                                                      PV.sc
                                                        (Value.int IntKind.u32
                                                          (IntKind.u32.wrap
                                                            ((getP (PV.ar 106 v8) [3]).int +
                                                              IntKind.u32.wrap
                                                                (IntKind.u32.wrap
                                                                    (IntKind.u32.wrap
                                                                        (IntKind.u32.wrap
                                                                            ((getP (PV.ar 106 v8) [7]).int +
                                                                              bitI BinOp.xor IntKind.u32
                                                                                (bitI BinOp.xor IntKind.u32 (rr (getP (PV.ar 106 v8) [4]).int 6) (rr (getP (PV.ar 106 v8) [4]).int 11))
                                                                                (rr (getP (PV.ar 106 v8) [4]).int 25)) +
                                                                          bitI BinOp.xor IntKind.u32 (bitI BinOp.and IntKind.u32 (getP (PV.ar 106 v8) [4]).int (getP (PV.ar 106 v8) [5]).int)
                                                                            (bitI BinOp.and IntKind.u32
                                                                              (bitI BinOp.xor IntKind.u32 (Int.ofNat (2 ^ IntKind.u32.bits - Nat.succ 0)) (getP (PV.ar 106 v8) [4]).int)
                                                                              (getP (PV.ar 106 v8) [6]).int)) +
                                                                      (getP (PV.ar 104 v4) [v2.toNat]).int) +
                                                                  (getP (PV.ar 104 v7) [v2.toNat]).int)))),
                                                      PV.sc (Value.int IntKind.u32 (getP (PV.ar 106 v8) [4]).int), PV.sc (Value.int IntKind.u32 (getP (PV.ar 106 v8) [5]).int),
                                                      PV.sc (Value.int IntKind.u32 (getP (PV.ar 106 v8) [6]).int)])
                                                  else none
                                                else none
                                              else none
                                            else none
                                          else none
                                        else none
                                      else none
                                    else none
                                  else none
                                else none
                              else none
                            else none
                          else none
                        else none
                      else none
                    else none
                  else none
                else none
              else none
            else none
          else none
        else none
      else none
    else none
  else k0 v0 v1 v3 v4 v5 v6 v7 v8
def lp18_5 (f : Nat) (k0 : Nat → Int → List
  PV → List PV → List PV → List PV → List PV → List PV → Option Res) : Nat → Nat → Int → Int → List PV → List PV → List PV → List PV → List PV → List PV → Option Res
  | 0, _, _, _, _, _, _, _, _, _ => none
  | n + 1, v0, v1, v2, v3, v4, v5, v6, v7, v8 => lpS18_5 f (lp18_5 f k0 n) k0 v0 v1 v2 v3 v4 v5 v6 v7 v8
theorem lpR18_5 (f : Nat) (k : Kont) (n : Nat) (v0 : Nat) (v1 : Int) (v2 : Int) (v3 : List
  PV) (v4 : List
  PV) (v5 : List
  PV) (v6 : List
  PV) (v7 : List
  PV) (v8 : List
  PV) : evLoop tau 0 nm18_5 (fun s k => ev tau F18 0 0 c18_5 (x18_5 ) s k) (n + 1) (fillS nm18_5 N18 [PV.ptr 4464 [], PV.ptr 4465 [], PV.ptr 4466 [], PV.ow 5 4467 [] 0 v0 none, PV.ptr 4468 [],
  PV.sc (Value.int IntKind.i64 v1), PV.ptr 4469 [],
  PV.sc
    (Value.int IntKind.i64
      v2)] [(4464, Ent.box false 29 (PV.ar 29 v3)), (4465, Ent.box false 104 (PV.ar 104 v4)), (4466, Ent.box false 106 (PV.ar 106 v5)), (4467, Ent.vec false 5 false v6),
  (4468, Ent.box false 104 (PV.ar 104 v7)),
  (4469,
    Ent.box false 106
      (PV.ar 106
        v8))]) (kNorm tau 0 nx18_5 k) = lpS18_5 f (fun v0 v1 v2 v3 v4 v5 v6 v7 v8 => evLoop tau 0 nm18_5 (fun s k => ev tau F18 0 0 c18_5 (x18_5 ) s k) n (fillS nm18_5 N18 [PV.ptr 4464 [],
  PV.ptr 4465 [], PV.ptr 4466 [], PV.ow 5 4467 [] 0 v0 none, PV.ptr 4468 [], PV.sc (Value.int IntKind.i64 v1), PV.ptr 4469 [],
  PV.sc
    (Value.int IntKind.i64
      v2)] [(4464, Ent.box false 29 (PV.ar 29 v3)), (4465, Ent.box false 104 (PV.ar 104 v4)), (4466, Ent.box false 106 (PV.ar 106 v5)), (4467, Ent.vec false 5 false v6),
  (4468, Ent.box false 104 (PV.ar 104 v7)),
  (4469,
    Ent.box false 106
      (PV.ar 106
        v8))]) (kNorm tau 0 nx18_5 k)) (fun x0 x1 x2 x3 x4 x5 x6 x7 => k (Ex.exit
  10) (fillS nx18_5 N18 [PV.ptr 4464 [], PV.ptr 4465 [], PV.ptr 4466 [], PV.ow 5 4467 [] 0 x0 none, PV.ptr 4468 [], PV.sc (Value.int IntKind.i64 x1),
  PV.ptr 4469
    []] [(4464, Ent.box false 29 (PV.ar 29 x2)), (4465, Ent.box false 104 (PV.ar 104 x3)), (4466, Ent.box false 106 (PV.ar 106 x4)), (4467, Ent.vec false 5 false x5),
  (4468, Ent.box false 104 (PV.ar 104 x6)), (4469, Ent.box false 106 (PV.ar 106 x7))])) v0 v1 v2 v3 v4 v5 v6 v7 v8 := by kernel_rfl
theorem lpE18_5 (f : Nat) (k : Kont) : ∀ (n : Nat) (v0 : Nat) (v1 : Int) (v2 : Int) (v3 : List
  PV) (v4 : List
  PV) (v5 : List
  PV) (v6 : List
  PV) (v7 : List
  PV) (v8 : List
  PV), evLoop tau 0 nm18_5 (fun s k => ev tau F18 0 0 c18_5 (x18_5 ) s k) n (fillS nm18_5 N18 [PV.ptr 4464 [], PV.ptr 4465 [], PV.ptr 4466 [], PV.ow 5 4467 [] 0 v0 none, PV.ptr 4468 [],
  PV.sc (Value.int IntKind.i64 v1), PV.ptr 4469 [],
  PV.sc
    (Value.int IntKind.i64
      v2)] [(4464, Ent.box false 29 (PV.ar 29 v3)), (4465, Ent.box false 104 (PV.ar 104 v4)), (4466, Ent.box false 106 (PV.ar 106 v5)), (4467, Ent.vec false 5 false v6),
  (4468, Ent.box false 104 (PV.ar 104 v7)),
  (4469,
    Ent.box false 106
      (PV.ar 106
        v8))]) (kNorm tau 0 nx18_5 k) = lp18_5 f (fun x0 x1 x2 x3 x4 x5 x6 x7 => k (Ex.exit
  10) (fillS nx18_5 N18 [PV.ptr 4464 [], PV.ptr 4465 [], PV.ptr 4466 [], PV.ow 5 4467 [] 0 x0 none, PV.ptr 4468 [], PV.sc (Value.int IntKind.i64 x1),
  PV.ptr 4469
    []] [(4464, Ent.box false 29 (PV.ar 29 x2)), (4465, Ent.box false 104 (PV.ar 104 x3)), (4466, Ent.box false 106 (PV.ar 106 x4)), (4467, Ent.vec false 5 false x5),
  (4468, Ent.box false 104 (PV.ar 104 x6)), (4469, Ent.box false 106 (PV.ar 106 x7))])) n v0 v1 v2 v3 v4 v5 v6 v7 v8
  | 0, _, _, _, _, _, _, _, _, _ => rfl
  | n + 1, v0, v1, v2, v3, v4, v5, v6, v7, v8 => (lpR18_5 f k n v0 v1 v2 v3 v4 v5 v6 v7 v8).trans (congrArg (fun r => lpS18_5 f r (fun x0 x1 x2 x3 x4 x5 x6 x7 => k (Ex.exit
  10) (fillS nx18_5 N18 [PV.ptr 4464 [], PV.ptr 4465 [], PV.ptr 4466 [], PV.ow 5 4467 [] 0 x0 none, PV.ptr 4468 [], PV.sc (Value.int IntKind.i64 x1),
  PV.ptr 4469
    []] [(4464, Ent.box false 29 (PV.ar 29 x2)), (4465, Ent.box false 104 (PV.ar 104 x3)), (4466, Ent.box false 106 (PV.ar 106 x4)), (4467, Ent.vec false 5 false x5),
  (4468, Ent.box false 104 (PV.ar 104 x6)),
  (4469, Ent.box false 106 (PV.ar 106 x7))])) v0 v1 v2 v3 v4 v5 v6 v7 v8) (by funext v0 v1 v2 v3 v4 v5 v6 v7 v8; exact lpE18_5 f k n v0 v1 v2 v3 v4 v5 v6 v7 v8))
def r18_5 (f : Nat) : List PV → List (Nat × Ent) → Kont → Option Res
  | [PV.ptr 4464 [], PV.ptr 4465 [], PV.ptr 4466 [], PV.ow 5 4467 [] 0 v0 none, PV.ptr 4468 [], PV.sc (Value.int IntKind.i64 v1), PV.ptr 4469 [],
  PV.sc
    (Value.int IntKind.i64
      v2)], [(4464, Ent.box false 29 (PV.ar 29 v3)), (4465, Ent.box false 104 (PV.ar 104 v4)), (4466, Ent.box false 106 (PV.ar 106 v5)), (4467, Ent.vec false 5 false v6),
  (4468, Ent.box false 104 (PV.ar 104 v7)),
  (4469,
    Ent.box false 106
      (PV.ar 106
        v8))], k => lp18_5 f (fun x0 x1 x2 x3 x4 x5 x6 x7 => k (Ex.exit
  10) (fillS nx18_5 N18 [PV.ptr 4464 [], PV.ptr 4465 [], PV.ptr 4466 [], PV.ow 5 4467 [] 0 x0 none, PV.ptr 4468 [], PV.sc (Value.int IntKind.i64 x1),
  PV.ptr 4469
    []] [(4464, Ent.box false 29 (PV.ar 29 x2)), (4465, Ent.box false 104 (PV.ar 104 x3)), (4466, Ent.box false 106 (PV.ar 106 x4)), (4467, Ent.vec false 5 false x5),
  (4468, Ent.box false 104 (PV.ar 104 x6)), (4469, Ent.box false 106 (PV.ar 106 x7))])) f v0 v1 v2 v3 v4 v5 v6 v7 v8
  | _, _, _ => none
theorem it18_5 (f : Nat) : items c18_5 x18_5 = [] := by kernel_rfl
theorem i18_5 (f : Nat) : (Item.l c18_5 nm18_5 N18 (r18_5 f)).Ok tau Try.prog 0 := loop_item tabOk F18_ok mixed (x := x18_5) (nm2 := nx18_5) (anOk_items _ _ (by rw [it18_5 f]; intro q hq; cases hq)) fun vs hp k res hr => by
  unfold r18_5 at hr
  split at hr
  · exact ⟨f, 0, (lpE18_5 f _ f _ _ _ _ _ _ _ _ _ ).trans hr⟩
  · cases hr
def lpS18_6 (f : Nat) (rc : Nat → Int → Int → List
  PV → List
  PV → List
  PV → List
  PV → List
  PV → List
  PV → Option Res) (k0 : Nat → Int → List
  PV → List PV → List PV → List PV → List PV → Option Res) (v0 : Nat) (v1 : Int) (v2 : Int) (v3 : List PV) (v4 : List PV) (v5 : List PV) (v6 : List PV) (v7 : List PV) (v8 : List PV) : Option Res :=
  bif decide (v2 < 8) then
    bif decide (0 ≤ v2) && decide (v2 < zi 8) && true then
      bif PV.isInt IntKind.u32 (getP (PV.ar 106 v5) [v2.toNat]) && true then
        bif decide (0 ≤ v2) && decide (v2 < zi 8) && true then
          bif PV.isInt IntKind.u32 (getP (PV.ar 106 v8) [v2.toNat]) && true then
            bif decide (0 ≤ v2) && decide (v2 < zi 8) && true then
              rc v0 v1 (IntKind.i64.wrap
                (v2 + 1)) v3 v4 (v5.set v2.toNat (PV.sc (Value.int IntKind.u32 (IntKind.u32.wrap ((getP (PV.ar 106 v5) [v2.toNat]).int + (getP (PV.ar 106 v8) [v2.toNat]).int))))) v6 v7 v8
            else none
          else none
        else none
      else none
    else none
  else k0 v0 v1 v3 v4 v5 v6 v7
def lp18_6 (f : Nat) (k0 : Nat → Int → List PV → List PV → List PV → List PV → List PV → Option Res) : Nat → Nat → Int → Int → List PV → List PV → List PV → List PV → List PV → List PV → Option Res
  | 0, _, _, _, _, _, _, _, _, _ => none
  | n + 1, v0, v1, v2, v3, v4, v5, v6, v7, v8 => lpS18_6 f (lp18_6 f k0 n) k0 v0 v1 v2 v3 v4 v5 v6 v7 v8
theorem lpR18_6 (f : Nat) (k : Kont) (n : Nat) (v0 : Nat) (v1 : Int) (v2 : Int) (v3 : List
  PV) (v4 : List
  PV) (v5 : List
  PV) (v6 : List
  PV) (v7 : List
  PV) (v8 : List
  PV) : evLoop tau 0 nm18_6 (fun s k => ev tau F18 0 0 c18_6 (x18_6 ) s k) (n + 1) (fillS nm18_6 N18 [PV.ptr 4464 [], PV.ptr 4465 [], PV.ptr 4466 [], PV.ow 5 4467 [] 0 v0 none, PV.ptr 4468 [],
  PV.sc (Value.int IntKind.i64 v1), PV.ptr 4469 [],
  PV.sc
    (Value.int IntKind.i64
      v2)] [(4464, Ent.box false 29 (PV.ar 29 v3)), (4465, Ent.box false 104 (PV.ar 104 v4)), (4466, Ent.box false 106 (PV.ar 106 v5)), (4467, Ent.vec false 5 false v6),
  (4468, Ent.box false 104 (PV.ar 104 v7)),
  (4469,
    Ent.box false 106
      (PV.ar 106
        v8))]) (kNorm tau 0 nx18_6 k) = lpS18_6 f (fun v0 v1 v2 v3 v4 v5 v6 v7 v8 => evLoop tau 0 nm18_6 (fun s k => ev tau F18 0 0 c18_6 (x18_6 ) s k) n (fillS nm18_6 N18 [PV.ptr 4464 [],
  PV.ptr 4465 [], PV.ptr 4466 [], PV.ow 5 4467 [] 0 v0 none, PV.ptr 4468 [], PV.sc (Value.int IntKind.i64 v1), PV.ptr 4469 [],
  PV.sc
    (Value.int IntKind.i64
      v2)] [(4464, Ent.box false 29 (PV.ar 29 v3)), (4465, Ent.box false 104 (PV.ar 104 v4)), (4466, Ent.box false 106 (PV.ar 106 v5)), (4467, Ent.vec false 5 false v6),
  (4468, Ent.box false 104 (PV.ar 104 v7)),
  (4469,
    Ent.box false 106
      (PV.ar 106
        v8))]) (kNorm tau 0 nx18_6 k)) (fun x0 x1 x2 x3 x4 x5 x6 => k (Ex.exit
  12) (fillS nx18_6 N18 [PV.ptr 4464 [], PV.ptr 4465 [], PV.ptr 4466 [], PV.ow 5 4467 [] 0 x0 none, PV.ptr 4468 [],
  PV.sc
    (Value.int IntKind.i64
      x1)] [(4464, Ent.box false 29 (PV.ar 29 x2)), (4465, Ent.box false 104 (PV.ar 104 x3)), (4466, Ent.box false 106 (PV.ar 106 x4)), (4467, Ent.vec false 5 false x5),
  (4468, Ent.box false 104 (PV.ar 104 x6))])) v0 v1 v2 v3 v4 v5 v6 v7 v8 := by kernel_rfl
theorem lpE18_6 (f : Nat) (k : Kont) : ∀ (n : Nat) (v0 : Nat) (v1 : Int) (v2 : Int) (v3 : List
  PV) (v4 : List
  PV) (v5 : List
  PV) (v6 : List
  PV) (v7 : List
  PV) (v8 : List
  PV), evLoop tau 0 nm18_6 (fun s k => ev tau F18 0 0 c18_6 (x18_6 ) s k) n (fillS nm18_6 N18 [PV.ptr 4464 [], PV.ptr 4465 [], PV.ptr 4466 [], PV.ow 5 4467 [] 0 v0 none, PV.ptr 4468 [],
  PV.sc (Value.int IntKind.i64 v1), PV.ptr 4469 [],
  PV.sc
    (Value.int IntKind.i64
      v2)] [(4464, Ent.box false 29 (PV.ar 29 v3)), (4465, Ent.box false 104 (PV.ar 104 v4)), (4466, Ent.box false 106 (PV.ar 106 v5)), (4467, Ent.vec false 5 false v6),
  (4468, Ent.box false 104 (PV.ar 104 v7)),
  (4469,
    Ent.box false 106
      (PV.ar 106
        v8))]) (kNorm tau 0 nx18_6 k) = lp18_6 f (fun x0 x1 x2 x3 x4 x5 x6 => k (Ex.exit
  12) (fillS nx18_6 N18 [PV.ptr 4464 [], PV.ptr 4465 [], PV.ptr 4466 [], PV.ow 5 4467 [] 0 x0 none, PV.ptr 4468 [],
  PV.sc
    (Value.int IntKind.i64
      x1)] [(4464, Ent.box false 29 (PV.ar 29 x2)), (4465, Ent.box false 104 (PV.ar 104 x3)), (4466, Ent.box false 106 (PV.ar 106 x4)), (4467, Ent.vec false 5 false x5),
  (4468, Ent.box false 104 (PV.ar 104 x6))])) n v0 v1 v2 v3 v4 v5 v6 v7 v8
  | 0, _, _, _, _, _, _, _, _, _ => rfl
  | n + 1, v0, v1, v2, v3, v4, v5, v6, v7, v8 => (lpR18_6 f k n v0 v1 v2 v3 v4 v5 v6 v7 v8).trans (congrArg (fun r => lpS18_6 f r (fun x0 x1 x2 x3 x4 x5 x6 => k (Ex.exit
  12) (fillS nx18_6 N18 [PV.ptr 4464 [], PV.ptr 4465 [], PV.ptr 4466 [], PV.ow 5 4467 [] 0 x0 none, PV.ptr 4468 [],
  PV.sc
    (Value.int IntKind.i64
      x1)] [(4464, Ent.box false 29 (PV.ar 29 x2)), (4465, Ent.box false 104 (PV.ar 104 x3)), (4466, Ent.box false 106 (PV.ar 106 x4)), (4467, Ent.vec false 5 false x5),
  (4468, Ent.box false 104 (PV.ar 104 x6))])) v0 v1 v2 v3 v4 v5 v6 v7 v8) (by funext v0 v1 v2 v3 v4 v5 v6 v7 v8; exact lpE18_6 f k n v0 v1 v2 v3 v4 v5 v6 v7 v8))
def r18_6 (f : Nat) : List PV → List (Nat × Ent) → Kont → Option Res
  | [PV.ptr 4464 [], PV.ptr 4465 [], PV.ptr 4466 [], PV.ow 5 4467 [] 0 v0 none, PV.ptr 4468 [], PV.sc (Value.int IntKind.i64 v1), PV.ptr 4469 [],
  PV.sc
    (Value.int IntKind.i64
      v2)], [(4464, Ent.box false 29 (PV.ar 29 v3)), (4465, Ent.box false 104 (PV.ar 104 v4)), (4466, Ent.box false 106 (PV.ar 106 v5)), (4467, Ent.vec false 5 false v6),
  (4468, Ent.box false 104 (PV.ar 104 v7)),
  (4469,
    Ent.box false 106
      (PV.ar 106
        v8))], k => lp18_6 f (fun x0 x1 x2 x3 x4 x5 x6 => k (Ex.exit
  12) (fillS nx18_6 N18 [PV.ptr 4464 [], PV.ptr 4465 [], PV.ptr 4466 [], PV.ow 5 4467 [] 0 x0 none, PV.ptr 4468 [],
  PV.sc
    (Value.int IntKind.i64
      x1)] [(4464, Ent.box false 29 (PV.ar 29 x2)), (4465, Ent.box false 104 (PV.ar 104 x3)), (4466, Ent.box false 106 (PV.ar 106 x4)), (4467, Ent.vec false 5 false x5),
  (4468, Ent.box false 104 (PV.ar 104 x6))])) f v0 v1 v2 v3 v4 v5 v6 v7 v8
  | _, _, _ => none
theorem it18_6 (f : Nat) : items c18_6 x18_6 = [] := by kernel_rfl
theorem i18_6 (f : Nat) : (Item.l c18_6 nm18_6 N18 (r18_6 f)).Ok tau Try.prog 0 := loop_item tabOk F18_ok mixed (x := x18_6) (nm2 := nx18_6) (anOk_items _ _ (by rw [it18_6 f]; intro q hq; cases hq)) fun vs hp k res hr => by
  unfold r18_6 at hr
  split at hr
  · exact ⟨f, 0, (lpE18_6 f _ f _ _ _ _ _ _ _ _ _ ).trans hr⟩
  · cases hr
def lpS18_2 (f : Nat) (rc : Nat → Int → List
  PV → List
  PV → List PV → List PV → List PV → Option Res) (k0 : List PV → List PV → Option Res) (v0 : Nat) (v1 : Int) (v2 : List PV) (v3 : List PV) (v4 : List PV) (v5 : List PV) (v6 : List PV) : Option Res :=
  bif decide (v1 < zi v0) then
    lp18_3 f (fun x0_2 x1_2 x2_2 x3_2 x4_2 x5_2 x6_2 =>
      lp18_4 f (fun x0_3 x1_3 x2_3 x3_3 x4_3 x5_3 x6_3 =>
        lp18_5 f (fun x0_4 x1_4 x2_4 x3_4 x4_4 x5_4 x6_4 x7_4 =>
          lp18_6 f (fun x0_5 x1_5 x2_5 x3_5 x4_5 x5_5 x6_5 =>
            rc x0_5 (IntKind.i64.wrap
              (x1_5 +
                64)) x2_5 x3_5 x4_5 x5_5 x6_5) f x0_4 x1_4 (0) x2_4 x3_4 x4_4 x5_4 x6_4 x7_4) f x0_3 x1_3 (0) x2_3 x3_3 x4_3 x5_3 x6_3 x4_3) f x0_2 x1_2 (16) x2_2 x3_2 x4_2 x5_2 x6_2) f v0 v1 (0) v2 v3 v4 v5 v6
  else k0 v2 v4
def lp18_2 (f : Nat) (k0 : List PV → List PV → Option Res) : Nat → Nat → Int → List PV → List PV → List PV → List PV → List PV → Option Res
  | 0, _, _, _, _, _, _, _ => none
  | n + 1, v0, v1, v2, v3, v4, v5, v6 => lpS18_2 f (lp18_2 f k0 n) k0 v0 v1 v2 v3 v4 v5 v6
theorem lpR18_2 (f : Nat) (k : Kont) (n : Nat) (v0 : Nat) (v1 : Int) (v2 : List
  PV) (v3 : List
  PV) (v4 : List
  PV) (v5 : List
  PV) (v6 : List
  PV) : evLoop tau 0 nm18_2 (fun s k => ev tau F18 0 0 c18_2 (x18_2 (r18_3 f) (r18_4 f) (r18_5 f) (r18_6 f)) s k) (n + 1) (fillS nm18_2 N18 [PV.ptr 4464 [], PV.ptr 4465 [], PV.ptr 4466 [], PV.ow 5 4467 [] 0 v0 none, PV.ptr 4468 [],
  PV.sc
    (Value.int IntKind.i64
      v1)] [(4464, Ent.box false 29 (PV.ar 29 v2)), (4465, Ent.box false 104 (PV.ar 104 v3)), (4466, Ent.box false 106 (PV.ar 106 v4)), (4467, Ent.vec false 5 false v5),
  (4468,
    Ent.box false 104
      (PV.ar 104
        v6))]) (kNorm tau 0 nx18_2 k) = lpS18_2 f (fun v0 v1 v2 v3 v4 v5 v6 => evLoop tau 0 nm18_2 (fun s k => ev tau F18 0 0 c18_2 (x18_2 (r18_3 f) (r18_4 f) (r18_5 f) (r18_6 f)) s k) n (fillS nm18_2 N18 [PV.ptr 4464 [],
  PV.ptr 4465 [], PV.ptr 4466 [], PV.ow 5 4467 [] 0 v0 none, PV.ptr 4468 [],
  PV.sc
    (Value.int IntKind.i64
      v1)] [(4464, Ent.box false 29 (PV.ar 29 v2)), (4465, Ent.box false 104 (PV.ar 104 v3)), (4466, Ent.box false 106 (PV.ar 106 v4)), (4467, Ent.vec false 5 false v5),
  (4468,
    Ent.box false 104
      (PV.ar 104
        v6))]) (kNorm tau 0 nx18_2 k)) (fun x0 x1 => k (Ex.exit
  4) (fillS nx18_2 N18 [PV.ptr 4464 [], PV.ptr 4465 []] [(4464, Ent.box false 29 (PV.ar 29 x0)), (4465, Ent.box false 106 (PV.ar 106 x1))])) v0 v1 v2 v3 v4 v5 v6 := by kernel_rfl
theorem lpE18_2 (f : Nat) (k : Kont) : ∀ (n : Nat) (v0 : Nat) (v1 : Int) (v2 : List
  PV) (v3 : List
  PV) (v4 : List
  PV) (v5 : List
  PV) (v6 : List
  PV), evLoop tau 0 nm18_2 (fun s k => ev tau F18 0 0 c18_2 (x18_2 (r18_3 f) (r18_4 f) (r18_5 f) (r18_6 f)) s k) n (fillS nm18_2 N18 [PV.ptr 4464 [], PV.ptr 4465 [], PV.ptr 4466 [], PV.ow 5 4467 [] 0 v0 none, PV.ptr 4468 [],
  PV.sc
    (Value.int IntKind.i64
      v1)] [(4464, Ent.box false 29 (PV.ar 29 v2)), (4465, Ent.box false 104 (PV.ar 104 v3)), (4466, Ent.box false 106 (PV.ar 106 v4)), (4467, Ent.vec false 5 false v5),
  (4468,
    Ent.box false 104
      (PV.ar 104
        v6))]) (kNorm tau 0 nx18_2 k) = lp18_2 f (fun x0 x1 => k (Ex.exit
  4) (fillS nx18_2 N18 [PV.ptr 4464 [], PV.ptr 4465 []] [(4464, Ent.box false 29 (PV.ar 29 x0)), (4465, Ent.box false 106 (PV.ar 106 x1))])) n v0 v1 v2 v3 v4 v5 v6
  | 0, _, _, _, _, _, _, _ => rfl
  | n + 1, v0, v1, v2, v3, v4, v5, v6 => (lpR18_2 f k n v0 v1 v2 v3 v4 v5 v6).trans (congrArg (fun r => lpS18_2 f r (fun x0 x1 => k (Ex.exit
  4) (fillS nx18_2 N18 [PV.ptr 4464 [],
  PV.ptr 4465 []] [(4464, Ent.box false 29 (PV.ar 29 x0)), (4465, Ent.box false 106 (PV.ar 106 x1))])) v0 v1 v2 v3 v4 v5 v6) (by funext v0 v1 v2 v3 v4 v5 v6; exact lpE18_2 f k n v0 v1 v2 v3 v4 v5 v6))
def r18_2 (f : Nat) : List PV → List (Nat × Ent) → Kont → Option Res
  | [PV.ptr 4464 [], PV.ptr 4465 [], PV.ptr 4466 [], PV.ow 5 4467 [] 0 v0 none, PV.ptr 4468 [],
  PV.sc
    (Value.int IntKind.i64
      v1)], [(4464, Ent.box false 29 (PV.ar 29 v2)), (4465, Ent.box false 104 (PV.ar 104 v3)), (4466, Ent.box false 106 (PV.ar 106 v4)), (4467, Ent.vec false 5 false v5),
  (4468,
    Ent.box false 104
      (PV.ar 104
        v6))], k => lp18_2 f (fun x0 x1 => k (Ex.exit
  4) (fillS nx18_2 N18 [PV.ptr 4464 [], PV.ptr 4465 []] [(4464, Ent.box false 29 (PV.ar 29 x0)), (4465, Ent.box false 106 (PV.ar 106 x1))])) f v0 v1 v2 v3 v4 v5 v6
  | _, _, _ => none
theorem it18_2 (f : Nat) : items c18_2 (x18_2 (r18_3 f) (r18_4 f) (r18_5 f) (r18_6 f)) = [.l c18_3 nm18_3 N18 (r18_3 f), .l c18_4 nm18_4 N18 (r18_4 f), .l c18_5 nm18_5 N18 (r18_5 f), .l c18_6 nm18_6 N18 (r18_6 f)] := by kernel_rfl
theorem i18_2 (f : Nat) : (Item.l c18_2 nm18_2 N18 (r18_2 f)).Ok tau Try.prog 0 := loop_item tabOk F18_ok mixed (x := (x18_2 (r18_3 f) (r18_4 f) (r18_5 f) (r18_6 f))) (nm2 := nx18_2) (anOk_items _ _ (by rw [it18_2 f]; simp only [List.forall_mem_cons, List.not_mem_nil, false_implies, implies_true, and_true]; exact ⟨i18_3 f, i18_4 f, i18_5 f, i18_6 f⟩)) fun vs hp k res hr => by
  unfold r18_2 at hr
  split at hr
  · exact ⟨f, 0, (lpE18_2 f _ f _ _ _ _ _ _ _ ).trans hr⟩
  · cases hr
def lpS18_7 (f : Nat) (rc : Int → List PV → List PV → List PV → Option Res) (k0 : List PV → List PV → Option Res) (v0 : Int) (v1 : List PV) (v2 : List PV) (v3 : List PV) : Option Res :=
  bif decide (v0 < 8) then
    bif decide (0 ≤ v0) && decide (v0 < zi 8) && true then
      bif PV.isInt IntKind.u32 (getP (PV.ar 106 v2) [v0.toNat]) && true then
        bif decide (0 ≤ v0) && decide (v0 < zi 8) && true then
          bif PV.isInt IntKind.u32 (getP (PV.ar 106 v2) [v0.toNat]) && true then
            bif decide (0 ≤ v0) && decide (v0 < zi 8) && true then
              bif PV.isInt IntKind.u32 (getP (PV.ar 106 v2) [v0.toNat]) && true then
                bif decide (0 ≤ v0) && decide (v0 < zi 8) && true then
                  bif PV.isInt IntKind.u32 (getP (PV.ar 106 v2) [v0.toNat]) && true then
                    bif decide (0 ≤ IntKind.i64.wrap (4 * v0)) && decide (IntKind.i64.wrap (4 * v0) < zi 32) && true then
                      bif decide (0 ≤ IntKind.i64.wrap (IntKind.i64.wrap (4 * v0) + 1)) && decide (IntKind.i64.wrap (IntKind.i64.wrap (4 * v0) + 1) < zi 32) && true then
                        bif decide (0 ≤ IntKind.i64.wrap (IntKind.i64.wrap (4 * v0) + 2)) && decide (IntKind.i64.wrap (IntKind.i64.wrap (4 * v0) + 2) < zi 32) && true then
                          bif decide (0 ≤ IntKind.i64.wrap (IntKind.i64.wrap (4 * v0) + 3)) && decide (IntKind.i64.wrap (IntKind.i64.wrap (4 * v0) + 3) < zi 32) && true then
                            rc (IntKind.i64.wrap
                              (v0 +
                                1)) v1 v2 ((((v3.set (IntKind.i64.wrap (4 * v0)).toNat (PV.sc (Value.int IntKind.u8 (IntKind.u8.wrap (shrI IntKind.u32 (getP (PV.ar 106 v2) [v0.toNat]).int 24))))).set
                                      (IntKind.i64.wrap (IntKind.i64.wrap (4 * v0) + 1)).toNat
                                      (PV.sc (Value.int IntKind.u8 (IntKind.u8.wrap (shrI IntKind.u32 (getP (PV.ar 106 v2) [v0.toNat]).int 16))))).set
                                  (IntKind.i64.wrap (IntKind.i64.wrap (4 * v0) + 2)).toNat
                                  (PV.sc (Value.int IntKind.u8 (IntKind.u8.wrap (shrI IntKind.u32 (getP (PV.ar 106 v2) [v0.toNat]).int 8))))).set
                              (IntKind.i64.wrap (IntKind.i64.wrap (4 * v0) + 3)).toNat (PV.sc (Value.int IntKind.u8 (IntKind.u8.wrap (getP (PV.ar 106 v2) [v0.toNat]).int))))
                          else none
                        else none
                      else none
                    else none
                  else none
                else none
              else none
            else none
          else none
        else none
      else none
    else none
  else k0 v1 v3
def lp18_7 (f : Nat) (k0 : List PV → List PV → Option Res) : Nat → Int → List PV → List PV → List PV → Option Res
  | 0, _, _, _, _ => none
  | n + 1, v0, v1, v2, v3 => lpS18_7 f (lp18_7 f k0 n) k0 v0 v1 v2 v3
theorem lpR18_7 (f : Nat) (k : Kont) (n : Nat) (v0 : Int) (v1 : List
  PV) (v2 : List
  PV) (v3 : List
  PV) : evLoop tau 0 nm18_7 (fun s k => ev tau F18 0 0 c18_7 (x18_7 ) s k) (n + 1) (fillS nm18_7 N18 [PV.ptr 4464 [], PV.ptr 4465 [], PV.ptr 4466 [],
  PV.sc
    (Value.int IntKind.i64
      v0)] [(4464, Ent.box false 29 (PV.ar 29 v1)), (4465, Ent.box false 106 (PV.ar 106 v2)),
  (4466,
    Ent.box false 29
      (PV.ar 29
        v3))]) (kNorm tau 0 nx18_7 k) = lpS18_7 f (fun v0 v1 v2 v3 => evLoop tau 0 nm18_7 (fun s k => ev tau F18 0 0 c18_7 (x18_7 ) s k) n (fillS nm18_7 N18 [PV.ptr 4464 [], PV.ptr 4465 [],
  PV.ptr 4466 [],
  PV.sc
    (Value.int IntKind.i64
      v0)] [(4464, Ent.box false 29 (PV.ar 29 v1)), (4465, Ent.box false 106 (PV.ar 106 v2)),
  (4466,
    Ent.box false 29
      (PV.ar 29
        v3))]) (kNorm tau 0 nx18_7 k)) (fun x0 x1 => k (Ex.exit
  14) (fillS nx18_7 N18 [PV.ptr 4464 [], PV.ptr 4465 []] [(4464, Ent.box false 29 (PV.ar 29 x0)), (4465, Ent.box false 29 (PV.ar 29 x1))])) v0 v1 v2 v3 := by kernel_rfl
theorem lpE18_7 (f : Nat) (k : Kont) : ∀ (n : Nat) (v0 : Int) (v1 : List
  PV) (v2 : List
  PV) (v3 : List
  PV), evLoop tau 0 nm18_7 (fun s k => ev tau F18 0 0 c18_7 (x18_7 ) s k) n (fillS nm18_7 N18 [PV.ptr 4464 [], PV.ptr 4465 [], PV.ptr 4466 [],
  PV.sc
    (Value.int IntKind.i64
      v0)] [(4464, Ent.box false 29 (PV.ar 29 v1)), (4465, Ent.box false 106 (PV.ar 106 v2)),
  (4466,
    Ent.box false 29
      (PV.ar 29
        v3))]) (kNorm tau 0 nx18_7 k) = lp18_7 f (fun x0 x1 => k (Ex.exit
  14) (fillS nx18_7 N18 [PV.ptr 4464 [], PV.ptr 4465 []] [(4464, Ent.box false 29 (PV.ar 29 x0)), (4465, Ent.box false 29 (PV.ar 29 x1))])) n v0 v1 v2 v3
  | 0, _, _, _, _ => rfl
  | n + 1, v0, v1, v2, v3 => (lpR18_7 f k n v0 v1 v2 v3).trans (congrArg (fun r => lpS18_7 f r (fun x0 x1 => k (Ex.exit
  14) (fillS nx18_7 N18 [PV.ptr 4464 [],
  PV.ptr 4465 []] [(4464, Ent.box false 29 (PV.ar 29 x0)), (4465, Ent.box false 29 (PV.ar 29 x1))])) v0 v1 v2 v3) (by funext v0 v1 v2 v3; exact lpE18_7 f k n v0 v1 v2 v3))
def r18_7 (f : Nat) : List PV → List (Nat × Ent) → Kont → Option Res
  | [PV.ptr 4464 [], PV.ptr 4465 [], PV.ptr 4466 [],
  PV.sc
    (Value.int IntKind.i64
      v0)], [(4464, Ent.box false 29 (PV.ar 29 v1)), (4465, Ent.box false 106 (PV.ar 106 v2)),
  (4466,
    Ent.box false 29
      (PV.ar 29
        v3))], k => lp18_7 f (fun x0 x1 => k (Ex.exit
  14) (fillS nx18_7 N18 [PV.ptr 4464 [], PV.ptr 4465 []] [(4464, Ent.box false 29 (PV.ar 29 x0)), (4465, Ent.box false 29 (PV.ar 29 x1))])) f v0 v1 v2 v3
  | _, _, _ => none
theorem it18_7 (f : Nat) : items c18_7 x18_7 = [] := by kernel_rfl
theorem i18_7 (f : Nat) : (Item.l c18_7 nm18_7 N18 (r18_7 f)).Ok tau Try.prog 0 := loop_item tabOk F18_ok mixed (x := x18_7) (nm2 := nx18_7) (anOk_items _ _ (by rw [it18_7 f]; intro q hq; cases hq)) fun vs hp k res hr => by
  unfold r18_7 at hr
  split at hr
  · exact ⟨f, 0, (lpE18_7 f _ f _ _ _ _ ).trans hr⟩
  · cases hr
def g18 (f : Nat) (nl : Bool) (fl : Bool) (b : List PV) (k : Res → Option Res) : Option Res :=
  bif roomy (0 + b.length) 1 && true then
    bif roomy (0 + b.length + 1) 1 && true then
      lp18_0 f (fun x0_0 x1_0 x2_0 x3_0 x4_0 x5_0 x6_0 x7_0 =>
        lp18_1 f (fun x0_1 x1_1 x2_1 x3_1 x4_1 =>
          lp18_2 f (fun x0_6 x1_6 =>
            lp18_7 f (fun x0_7 x1_7 =>
              k (Res.mk (PV.ar 29 x1_7) []
                [])) f (0) x0_6 x1_6 ([PV.sc (Value.int IntKind.u8 0), PV.sc (Value.int IntKind.u8 0), PV.sc (Value.int IntKind.u8 0), PV.sc (Value.int IntKind.u8 0), PV.sc (Value.int IntKind.u8 0),
              PV.sc (Value.int IntKind.u8 0), PV.sc (Value.int IntKind.u8 0), PV.sc (Value.int IntKind.u8 0), PV.sc (Value.int IntKind.u8 0), PV.sc (Value.int IntKind.u8 0),
              PV.sc (Value.int IntKind.u8 0), PV.sc (Value.int IntKind.u8 0), PV.sc (Value.int IntKind.u8 0), PV.sc (Value.int IntKind.u8 0), PV.sc (Value.int IntKind.u8 0),
              PV.sc (Value.int IntKind.u8 0), PV.sc (Value.int IntKind.u8 0), PV.sc (Value.int IntKind.u8 0), PV.sc (Value.int IntKind.u8 0), PV.sc (Value.int IntKind.u8 0),
              PV.sc (Value.int IntKind.u8 0), PV.sc (Value.int IntKind.u8 0), PV.sc (Value.int IntKind.u8 0), PV.sc (Value.int IntKind.u8 0), PV.sc (Value.int IntKind.u8 0),
              PV.sc (Value.int IntKind.u8 0), PV.sc (Value.int IntKind.u8 0), PV.sc (Value.int IntKind.u8 0), PV.sc (Value.int IntKind.u8 0), PV.sc (Value.int IntKind.u8 0),
              PV.sc (Value.int IntKind.u8 0),
              PV.sc
                (Value.int IntKind.u8
                  0)])) f x0_1 (0) x1_1 x2_1 x3_1 x4_1 ([PV.sc (Value.int IntKind.u32 0), PV.sc (Value.int IntKind.u32 0), PV.sc (Value.int IntKind.u32 0), PV.sc (Value.int IntKind.u32 0),
            PV.sc (Value.int IntKind.u32 0), PV.sc (Value.int IntKind.u32 0), PV.sc (Value.int IntKind.u32 0), PV.sc (Value.int IntKind.u32 0), PV.sc (Value.int IntKind.u32 0),
            PV.sc (Value.int IntKind.u32 0), PV.sc (Value.int IntKind.u32 0), PV.sc (Value.int IntKind.u32 0), PV.sc (Value.int IntKind.u32 0), PV.sc (Value.int IntKind.u32 0),
            PV.sc (Value.int IntKind.u32 0), PV.sc (Value.int IntKind.u32 0), PV.sc (Value.int IntKind.u32 0), PV.sc (Value.int IntKind.u32 0), PV.sc (Value.int IntKind.u32 0),
            PV.sc (Value.int IntKind.u32 0), PV.sc (Value.int IntKind.u32 0), PV.sc (Value.int IntKind.u32 0), PV.sc (Value.int IntKind.u32 0), PV.sc (Value.int IntKind.u32 0),
            PV.sc (Value.int IntKind.u32 0), PV.sc (Value.int IntKind.u32 0), PV.sc (Value.int IntKind.u32 0), PV.sc (Value.int IntKind.u32 0), PV.sc (Value.int IntKind.u32 0),
            PV.sc (Value.int IntKind.u32 0), PV.sc (Value.int IntKind.u32 0), PV.sc (Value.int IntKind.u32 0), PV.sc (Value.int IntKind.u32 0), PV.sc (Value.int IntKind.u32 0),
            PV.sc (Value.int IntKind.u32 0), PV.sc (Value.int IntKind.u32 0), PV.sc (Value.int IntKind.u32 0), PV.sc (Value.int IntKind.u32 0), PV.sc (Value.int IntKind.u32 0),
            PV.sc (Value.int IntKind.u32 0), PV.sc (Value.int IntKind.u32 0), PV.sc (Value.int IntKind.u32 0), PV.sc (Value.int IntKind.u32 0), PV.sc (Value.int IntKind.u32 0),
            PV.sc (Value.int IntKind.u32 0), PV.sc (Value.int IntKind.u32 0), PV.sc (Value.int IntKind.u32 0), PV.sc (Value.int IntKind.u32 0), PV.sc (Value.int IntKind.u32 0),
            PV.sc (Value.int IntKind.u32 0), PV.sc (Value.int IntKind.u32 0), PV.sc (Value.int IntKind.u32 0), PV.sc (Value.int IntKind.u32 0), PV.sc (Value.int IntKind.u32 0),
            PV.sc (Value.int IntKind.u32 0), PV.sc (Value.int IntKind.u32 0), PV.sc (Value.int IntKind.u32 0), PV.sc (Value.int IntKind.u32 0), PV.sc (Value.int IntKind.u32 0),
            PV.sc (Value.int IntKind.u32 0), PV.sc (Value.int IntKind.u32 0), PV.sc (Value.int IntKind.u32 0), PV.sc (Value.int IntKind.u32 0),
            PV.sc
              (Value.int IntKind.u32
                0)])) f x3_0 (IntKind.u64.wrap
          (IntKind.u64.wrap (zi x2_0.length) *
            8)) (7) x4_0 x5_0 x6_0 x7_0) f nl fl b (0 + b.length +
        1) ([PV.sc (Value.int IntKind.u8 0), PV.sc (Value.int IntKind.u8 0), PV.sc (Value.int IntKind.u8 0), PV.sc (Value.int IntKind.u8 0), PV.sc (Value.int IntKind.u8 0),
        PV.sc (Value.int IntKind.u8 0), PV.sc (Value.int IntKind.u8 0), PV.sc (Value.int IntKind.u8 0), PV.sc (Value.int IntKind.u8 0), PV.sc (Value.int IntKind.u8 0), PV.sc (Value.int IntKind.u8 0),
        PV.sc (Value.int IntKind.u8 0), PV.sc (Value.int IntKind.u8 0), PV.sc (Value.int IntKind.u8 0), PV.sc (Value.int IntKind.u8 0), PV.sc (Value.int IntKind.u8 0), PV.sc (Value.int IntKind.u8 0),
        PV.sc (Value.int IntKind.u8 0), PV.sc (Value.int IntKind.u8 0), PV.sc (Value.int IntKind.u8 0), PV.sc (Value.int IntKind.u8 0), PV.sc (Value.int IntKind.u8 0), PV.sc (Value.int IntKind.u8 0),
        PV.sc (Value.int IntKind.u8 0), PV.sc (Value.int IntKind.u8 0), PV.sc (Value.int IntKind.u8 0), PV.sc (Value.int IntKind.u8 0), PV.sc (Value.int IntKind.u8 0), PV.sc (Value.int IntKind.u8 0),
        PV.sc (Value.int IntKind.u8 0), PV.sc (Value.int IntKind.u8 0),
        PV.sc
          (Value.int IntKind.u8
            0)]) ([PV.sc (Value.int IntKind.u32 1116352408), PV.sc (Value.int IntKind.u32 1899447441), PV.sc (Value.int IntKind.u32 3049323471), PV.sc (Value.int IntKind.u32 3921009573),
        PV.sc (Value.int IntKind.u32 961987163), PV.sc (Value.int IntKind.u32 1508970993), PV.sc (Value.int IntKind.u32 2453635748), PV.sc (Value.int IntKind.u32 2870763221),
        PV.sc (Value.int IntKind.u32 3624381080), PV.sc (Value.int IntKind.u32 310598401), PV.sc (Value.int IntKind.u32 607225278), PV.sc (Value.int IntKind.u32 1426881987),
        PV.sc (Value.int IntKind.u32 1925078388), PV.sc (Value.int IntKind.u32 2162078206), PV.sc (Value.int IntKind.u32 2614888103), PV.sc (Value.int IntKind.u32 3248222580),
        PV.sc (Value.int IntKind.u32 3835390401), PV.sc (Value.int IntKind.u32 4022224774), PV.sc (Value.int IntKind.u32 264347078), PV.sc (Value.int IntKind.u32 604807628),
        PV.sc (Value.int IntKind.u32 770255983), PV.sc (Value.int IntKind.u32 1249150122), PV.sc (Value.int IntKind.u32 1555081692), PV.sc (Value.int IntKind.u32 1996064986),
        PV.sc (Value.int IntKind.u32 2554220882), PV.sc (Value.int IntKind.u32 2821834349), PV.sc (Value.int IntKind.u32 2952996808), PV.sc (Value.int IntKind.u32 3210313671),
        PV.sc (Value.int IntKind.u32 3336571891), PV.sc (Value.int IntKind.u32 3584528711), PV.sc (Value.int IntKind.u32 113926993), PV.sc (Value.int IntKind.u32 338241895),
        PV.sc (Value.int IntKind.u32 666307205), PV.sc (Value.int IntKind.u32 773529912), PV.sc (Value.int IntKind.u32 1294757372), PV.sc (Value.int IntKind.u32 1396182291),
        PV.sc (Value.int IntKind.u32 1695183700), PV.sc (Value.int IntKind.u32 1986661051), PV.sc (Value.int IntKind.u32 2177026350), PV.sc (Value.int IntKind.u32 2456956037),
        PV.sc (Value.int IntKind.u32 2730485921), PV.sc (Value.int IntKind.u32 2820302411), PV.sc (Value.int IntKind.u32 3259730800), PV.sc (Value.int IntKind.u32 3345764771),
        PV.sc (Value.int IntKind.u32 3516065817), PV.sc (Value.int IntKind.u32 3600352804), PV.sc (Value.int IntKind.u32 4094571909), PV.sc (Value.int IntKind.u32 275423344),
        PV.sc (Value.int IntKind.u32 430227734), PV.sc (Value.int IntKind.u32 506948616), PV.sc (Value.int IntKind.u32 659060556), PV.sc (Value.int IntKind.u32 883997877),
        PV.sc (Value.int IntKind.u32 958139571), PV.sc (Value.int IntKind.u32 1322822218), PV.sc (Value.int IntKind.u32 1537002063), PV.sc (Value.int IntKind.u32 1747873779),
        PV.sc (Value.int IntKind.u32 1955562222), PV.sc (Value.int IntKind.u32 2024104815), PV.sc (Value.int IntKind.u32 2227730452), PV.sc (Value.int IntKind.u32 2361852424),
        PV.sc (Value.int IntKind.u32 2428436474), PV.sc (Value.int IntKind.u32 2756734187), PV.sc (Value.int IntKind.u32 3204031479),
        PV.sc
          (Value.int IntKind.u32
            3329325298)]) ([PV.sc (Value.int IntKind.u32 1779033703), PV.sc (Value.int IntKind.u32 3144134277), PV.sc (Value.int IntKind.u32 1013904242), PV.sc (Value.int IntKind.u32 2773480762),
        PV.sc (Value.int IntKind.u32 1359893119), PV.sc (Value.int IntKind.u32 2600822924), PV.sc (Value.int IntKind.u32 528734635),
        PV.sc (Value.int IntKind.u32 1541459225)]) (List.take (0 + b.length) ([] ++ b) ++ [PV.sc (Value.int IntKind.u8 128)])
    else none
  else none
theorem e18 (f : Nat) (nl : Bool) (fl : Bool) (b : List PV) (k : Res → Option Res) : evFn tau F18 Try.f18 (Try.f18.body.get!) (an18 (r18_0 f) (r18_1 f) (r18_2 f) (r18_7 f)) [] 0 [.ro 5 nl fl b] [] k = g18 f nl fl b k := by kernel_rfl
theorem it18 (f : Nat) : items (Try.f18.body.get!) (an18 (r18_0 f) (r18_1 f) (r18_2 f) (r18_7 f)) = [.l c18_0 nm18_0 N18 (r18_0 f), .l c18_1 nm18_1 N18 (r18_1 f), .l c18_2 nm18_2 N18 (r18_2 f), .l c18_7 nm18_7 N18 (r18_7 f)] := by kernel_rfl
theorem ia18 (f : Nat) : ∀ q ∈ items (Try.f18.body.get!) (an18 (r18_0 f) (r18_1 f) (r18_2 f) (r18_7 f)), q.Ok tau Try.prog 0 := by
  rw [it18 f]; simp only [List.forall_mem_cons, List.not_mem_nil, false_implies, implies_true, and_true]; exact ⟨i18_0 f, i18_1 f, i18_2 f, i18_7 f⟩
theorem fo18 : Try.prog.funcs[18]? = some Try.f18 := by kernel_rfl
theorem bo18 : Try.f18.body = some (Try.f18.body.get!) := by kernel_rfl
theorem en18 : Enters Try.prog 18 := enters_of fo18 (by kernel_rfl) bo18
end Go.Proofs.Ytodldmomneecpab.Rx

/- The document's sum. Own work. -/
namespace Go.Proofs.Ytodldmomneecpab.Rx
open Go
set_option linter.unusedVariables false
set_option maxRecDepth 100000
set_option maxHeartbeats 1000000
theorem getP_nil (v : PV) : getP v [] = v := rfl
theorem getD8' {R : List Int} (h : R.length = 8) (j : Nat) (hj : j < 8) : (pu .u32 R).getD j .top = .sc (.int .u32 (R.getD j 0)) := pu_get (by omega)
theorem m18_0 (f : Nat) (a b : Bool) (c x y w : List PV) (k0 : Bool → Bool → List PV → Nat → List PV → List PV → List PV → List PV → Option Res) : ∀ (d n : Nat) (L : List Int), zs L.length = d → d < n → L.length + d ≤ 140737488355200 →
    lp18_0 f k0 n a b c L.length x y w (pu .u8 L) = k0 a b c (L.length + d) x y w (pu .u8 (L ++ List.replicate d 0))
  | 0, n + 1, L, hd, hn, hL => by
      simp only [lp18_0, lpS18_0, tmod64]
      refine (bif_f (by simp [zs] at hd ⊢; omega)).trans ?_
      simp
  | d + 1, n + 1, L, hd, hn, hL => by
      have hlt : d + 1 < 64 := by rw [← hd]; unfold zs; omega
      have c3 : roomy (L.length + 1) 1 = true := by simp [roomy]; omega
      simp only [lp18_0, lpS18_0, tmod64, c3, Bool.and_true, cond_true, pu_take]
      refine (bif_t (by simp [zs] at hd ⊢; omega)).trans ?_
      rw [List.take_of_length_le (Nat.le_refl _)]
      have := m18_0 f a b c x y w k0 d n (L ++ [0]) (by simp [zs] at hd ⊢; omega) (by omega) (by simp; omega)
      simp only [List.length_append, List.length_cons, List.length_nil, Nat.zero_add, pu_append] at this
      refine this.trans ?_
      rw [show L.length + 1 + d = L.length + (d + 1) from by omega, List.replicate_succ]
      simp
def lenR (N : Int) (i : Nat) : Int := IntKind.u8.wrap (shrI .u64 N (56 - 8 * (i : Int)))
theorem m18_1 (f : Nat) (N : Int) (x y w : List PV) (k0 : Nat → List PV → List PV → List PV → List PV → Option Res) (L : List Int) (hL : L.length ≤ 140737488355300) : ∀ (d i n : Nat), i + d = 8 → d < n →
    lp18_1 f k0 n (L.length + i) N (7 - (i : Int)) x y w (pu .u8 (L ++ (List.range i).map (lenR N))) = k0 (L.length + 8) x y w (pu .u8 (L ++ (List.range 8).map (lenR N)))
  | 0, i, n + 1, h, hn => by
      obtain rfl : i = 8 := by omega
      simp only [lp18_1, lpS18_1]
      exact bif_f (by decide)
  | d + 1, i, n + 1, h, hn => by
      have h1 : IntKind.i64.wrap (7 - (i : Int) - 1) = 7 - ((i + 1 : Nat) : Int) := by rw [wrap_i64 (by omega) (by omega)]; omega
      have h8 : IntKind.u64.wrap (7 - (i : Int)) = 7 - (i : Int) := by rw [wrap_u64_eq]; omega
      have h9 : IntKind.u64.wrap (8 * (7 - (i : Int))) = 56 - 8 * (i : Int) := by rw [wrap_u64_eq]; omega
      have c1 : decide (7 - (i : Int) ≥ 0) = true := by simp; omega
      have c2 : decide (0 ≤ 56 - 8 * (i : Int)) = true := by simp; omega
      have c3 : roomy (L.length + i + 1) 1 = true := by simp [roomy]; omega
      have hlen : (L ++ (List.range i).map (lenR N)).length = L.length + i := by simp
      simp only [lp18_1, lpS18_1, h1, h8, h9, c1, c2, c3, Bool.and_true, cond_true, pu_take]
      rw [List.take_of_length_le (by omega)]
      have := m18_1 f N x y w k0 L hL d (i + 1) n (by omega) (by omega)
      rw [List.range_succ, List.map_append, ← List.append_assoc, pu_append] at this
      exact this
theorem blk_get (P : List Int) (q j : Nat) (hj : j < 64) : ((P.drop (64 * q)).take 64).getD j 0 = P.getD (64 * q + j) 0 := by
  simp [List.getD_eq_getElem?_getD, hj, List.getElem?_drop]
theorem m18_3 (P : List Int) (q : Nat) (hq : 64 * q + 64 ≤ P.length) (hP : P.length ≤ 140737488356000) (T : List Int) (hT : T.length = 64) (f : Nat) (x y w : List PV) (k0 : Nat → Int → List PV → List PV → List PV → List PV → List PV → Option Res) : ∀ (d i n : Nat), i + d = 16 → d < n →
    lp18_3 f k0 n P.length ((64 * q : Nat) : Int) (i : Int) x y w (pu .u8 P) (pu .u32 (fillM (word ((P.drop (64 * q)).take 64)) T i)) = k0 P.length ((64 * q : Nat) : Int) x y w (pu .u8 P) (pu .u32 (fillM (word ((P.drop (64 * q)).take 64)) T 16))
  | 0, i, n + 1, h, hn => by
      obtain rfl : i = 16 := by omega
      simp only [lp18_3, lpS18_3]
      exact bif_f (by decide)
  | d + 1, i, n + 1, h, hn => by
      have h4 : IntKind.i64.wrap (4 * (i : Int)) = ((4 * i : Nat) : Int) := by rw [wrap_i64 (by omega) (by omega)]; omega
      have h40 : IntKind.i64.wrap (((64 * q : Nat) : Int) + ((4 * i : Nat) : Int)) = ((64 * q + 4 * i : Nat) : Int) := by rw [wrap_i64 (by omega) (by omega)]; omega
      have h41 : IntKind.i64.wrap (((64 * q + 4 * i : Nat) : Int) + 1) = ((64 * q + (4 * i + 1) : Nat) : Int) := by rw [wrap_i64 (by omega) (by omega)]; omega
      have h42 : IntKind.i64.wrap (((64 * q + 4 * i : Nat) : Int) + 2) = ((64 * q + (4 * i + 2) : Nat) : Int) := by rw [wrap_i64 (by omega) (by omega)]; omega
      have h43 : IntKind.i64.wrap (((64 * q + 4 * i : Nat) : Int) + 3) = ((64 * q + (4 * i + 3) : Nat) : Int) := by rw [wrap_i64 (by omega) (by omega)]; omega
      have h5 : IntKind.i64.wrap ((i : Int) + 1) = ((i + 1 : Nat) : Int) := by rw [wrap_i64 (by omega) (by omega)]; omega
      simp only [lp18_3, lpS18_3, h4, h40, h41, h42, h43, h5, Int.toNat_natCast, Nat.zero_add, getP_nil, zi]
      rw [pu_isInt (by omega), pu_isInt (by omega), pu_isInt (by omega), pu_isInt (by omega), pu_int (by omega), pu_int (by omega), pu_int (by omega), pu_int (by omega), pu_set]
      refine (bif_t (by simp; omega)).trans ?_
      refine (bif_t (by simp only [Bool.and_true, Bool.and_eq_true, decide_eq_true_eq]; omega)).trans ?_
      refine (bif_t rfl).trans ?_
      refine (bif_t (by simp only [Bool.and_true, Bool.and_eq_true, decide_eq_true_eq]; omega)).trans ?_
      refine (bif_t rfl).trans ?_
      refine (bif_t (by simp only [Bool.and_true, Bool.and_eq_true, decide_eq_true_eq]; omega)).trans ?_
      refine (bif_t rfl).trans ?_
      refine (bif_t (by simp only [Bool.and_true, Bool.and_eq_true, decide_eq_true_eq]; omega)).trans ?_
      refine (bif_t rfl).trans ?_
      refine (bif_t (by simp only [Bool.and_true, Bool.and_eq_true, decide_eq_true_eq]; omega)).trans ?_
      have := m18_3 P q hq hP T hT f x y w k0 d (i + 1) n (by omega) (by omega)
      rw [← fillM_set _ T i (by omega), word, blk_get P q _ (by omega), blk_get P q _ (by omega), blk_get P q _ (by omega), blk_get P q _ (by omega)] at this
      exact this
def fillT (bs T : List Int) (i : Nat) : List Int := sched bs i ++ T.drop (16 + i)
theorem fillT_length (bs T : List Int) (hT : T.length = 64) (i : Nat) (h : i ≤ 48) : (fillT bs T i).length = 64 := by simp [fillT, sched_length, hT]; omega
theorem fillT_get (bs T : List Int) (i j : Nat) (h : j < 16 + i) : (fillT bs T i).getD j 0 = (sched bs i).getD j 0 := by
  simp only [fillT, List.getD_eq_getElem?_getD]
  rw [List.getElem?_append_left (by rw [sched_length]; exact h)]
theorem fillT_set (bs T : List Int) (hT : T.length = 64) (i : Nat) (h : i < 48) (x : Int) : (fillT bs T i).set (i + 16) x = (sched bs i ++ [x]) ++ T.drop (16 + (i + 1)) := by
  rw [fillT, List.set_append_right _ _ (by rw [sched_length]; omega), sched_length, List.drop_eq_getElem_cons (by omega), show i + 16 - (16 + i) = 0 from by omega, List.set_cons_zero]
  simp [Nat.add_assoc]
theorem nxtW_eq (w16 w15 w7 w2 : Int) : ww (ww (ww (sg1 w2 + w7) + sg0 w15) + w16) = nxtW w16 w15 w7 w2 := by
  simp only [nxtW, ww, wrap_u32_eq]; omega
theorem m18_4 (bs T : List Int) (hT : T.length = 64) (f : Nat) (l : Nat) (p : Int) (x y w e : List PV) (k0 : Nat → Int → List PV → List PV → List PV → List PV → List PV → Option Res) : ∀ (d i n : Nat), i + d = 48 → d < n →
    lp18_4 f k0 n l p ((i + 16 : Nat) : Int) x y w e (pu .u32 (fillT bs T i)) = k0 l p x y w e (pu .u32 (spreadP bs))
  | 0, i, n + 1, h, hn => by
      obtain rfl : i = 48 := by omega
      simp only [lp18_4, lpS18_4]
      refine (bif_f (by decide)).trans ?_
      rw [fillT, List.drop_of_length_le (by omega), List.append_nil]; rfl
  | d + 1, i, n + 1, h, hn => by
      have h15 : IntKind.i64.wrap (((i + 16 : Nat) : Int) - 15) = ((i + 1 : Nat) : Int) := by rw [wrap_i64 (by omega) (by omega)]; omega
      have h2 : IntKind.i64.wrap (((i + 16 : Nat) : Int) - 2) = ((i + 14 : Nat) : Int) := by rw [wrap_i64 (by omega) (by omega)]; omega
      have h16 : IntKind.i64.wrap (((i + 16 : Nat) : Int) - 16) = ((i : Nat) : Int) := by rw [wrap_i64 (by omega) (by omega)]; omega
      have h7 : IntKind.i64.wrap (((i + 16 : Nat) : Int) - 7) = ((i + 9 : Nat) : Int) := by rw [wrap_i64 (by omega) (by omega)]; omega
      have h1 : IntKind.i64.wrap (((i + 16 : Nat) : Int) + 1) = ((i + 1 + 16 : Nat) : Int) := by rw [wrap_i64 (by omega) (by omega)]; omega
      have hl := fillT_length bs T hT i (by omega)
      simp only [lp18_4, lpS18_4, h15, h2, h16, h7, h1, Int.toNat_natCast, zi, getP_ar]
      rw [pu_isInt (by omega), pu_isInt (by omega), pu_isInt (by omega), pu_isInt (by omega), pu_int (by omega), pu_int (by omega), pu_int (by omega), pu_int (by omega), pu_set]
      refine (bif_t (by simp; omega)).trans ?_
      refine (bif_t (by simp; omega)).trans ?_
      refine (bif_t rfl).trans ?_
      refine (bif_t (by simp; omega)).trans ?_
      refine (bif_t rfl).trans ?_
      refine (bif_t (by simp; omega)).trans ?_
      refine (bif_t rfl).trans ?_
      refine (bif_t (by simp; omega)).trans ?_
      refine (bif_t rfl).trans ?_
      refine (bif_t (by simp; omega)).trans ?_
      have := m18_4 bs T hT f l p x y w e k0 d (i + 1) n (by omega) (by omega)
      rw [fillT_get bs T i i (by omega), fillT_get bs T i (i + 1) (by omega), fillT_get bs T i (i + 9) (by omega), fillT_get bs T i (i + 14) (by omega), fillT_set bs T hT i (by omega)]
      have hn := nxtW_eq ((sched bs i).getD i 0) ((sched bs i).getD (i + 1) 0) ((sched bs i).getD (i + 9) 0) ((sched bs i).getD (i + 14) 0)
      rw [fillT, sched, ← hn] at this
      exact this
theorem m18_5 (W s : List Int) (hW : W.length = 64) (hs : s.length = 8) (f : Nat) (l : Nat) (p : Int) (x w e : List PV) (k0 : Nat → Int → List PV → List PV → List PV → List PV → List PV → List PV → Option Res) : ∀ (d i n : Nat), i + d = 64 → d < n →
    lp18_5 f k0 n l p (i : Int) x (pu .u32 kks) w e (pu .u32 W) (pu .u32 (rnds W s i)) = k0 l p x (pu .u32 kks) w e (pu .u32 W) (pu .u32 (rnds W s 64))
  | 0, i, n + 1, h, hn => by
      obtain rfl : i = 64 := by omega
      simp only [lp18_5, lpS18_5]
      exact bif_f (by decide)
  | d + 1, i, n + 1, h, hn => by
      have hl := rnds_length W s hs i
      have h1 : IntKind.i64.wrap ((i : Int) + 1) = ((i + 1 : Nat) : Int) := by rw [wrap_i64 (by omega) (by omega)]; omega
      have hk : (pu .u32 kks).getD i .top = .sc (.int .u32 (kks.getD i 0)) := pu_get (by show i < 64; omega)
      have hw : (pu .u32 W).getD i .top = .sc (.int .u32 (W.getD i 0)) := pu_get (by omega)
      have c1 : decide ((i : Int) < 64) = true := by simp; omega
      have c2 : decide (0 ≤ (i : Int)) = true := by simp
      have c3 : decide ((i : Int) < zi 64) = true := by simp; omega
      simp only [lp18_5, lpS18_5, getP_ar, Int.toNat_natCast, h1, hk, hw, c1, c2, c3, getD8' hl 0 (by omega), getD8' hl 1 (by omega), getD8' hl 2 (by omega), getD8' hl 3 (by omega), getD8' hl 4 (by omega), getD8' hl 5 (by omega), getD8' hl 6 (by omega), getD8' hl 7 (by omega), PV.isInt, PV.int, decide_true, Bool.and_true, cond_true]
      exact m18_5 W s hW hs f l p x w e k0 d (i + 1) n (by omega) (by omega)
theorem m18_6 (t s : List Int) (ht : t.length = 8) (hs : s.length = 8) (f : Nat) (l : Nat) (p : Int) (x y e u : List PV) (k0 : Nat → Int → List PV → List PV → List PV → List PV → List PV → Option Res) : ∀ (d i n : Nat), i + d = 8 → d < n →
    lp18_6 f k0 n l p (i : Int) x y (pu .u32 (fillM (fun j => ww (t.getD j 0 + s.getD j 0)) s i)) e u (pu .u32 t) = k0 l p x y (pu .u32 ((List.range 8).map fun j => ww (t.getD j 0 + s.getD j 0))) e u
  | 0, i, n + 1, h, hn => by
      obtain rfl : i = 8 := by omega
      simp only [lp18_6, lpS18_6]
      refine (bif_f (by decide)).trans ?_
      have := fillM_full (fun j => ww (t.getD j 0 + s.getD j 0)) s
      rw [hs] at this; rw [this]
  | d + 1, i, n + 1, h, hn => by
      have hl : (fillM (fun j => ww (t.getD j 0 + s.getD j 0)) s i).length = 8 := by rw [fillM_length _ _ _ (by omega), hs]
      have h1 : IntKind.i64.wrap ((i : Int) + 1) = ((i + 1 : Nat) : Int) := by rw [wrap_i64 (by omega) (by omega)]; omega
      have c1 : decide ((i : Int) < 8) = true := by simp; omega
      have c2 : decide (0 ≤ (i : Int)) = true := by simp
      have c3 : decide ((i : Int) < zi 8) = true := by simp; omega
      have g1 : ((i : Int)).toNat = i := by omega
      simp only [lp18_6, lpS18_6, getP_ar, g1, h1, c1, c2, c3, getD8' hl i (by omega), getD8' ht i (by omega), fillM_get _ s i (by omega), PV.isInt, PV.int, decide_true, Bool.and_true, cond_true, pu_set]
      have := m18_6 t s ht hs f l p x y e u k0 d (i + 1) n (by omega) (by omega)
      rw [← fillM_set _ s i (by omega), Int.add_comm (t.getD i 0)] at this
      exact this
theorem outB0 (s : List Int) (i : Nat) : outB s (4 * i) = IntKind.u8.wrap (shrI .u32 (s.getD i 0) 24) := by
  rw [outB, show 4 * i / 4 = i from by omega, show 4 * i % 4 = 0 from by omega]; rfl
theorem outB1 (s : List Int) (i : Nat) : outB s (4 * i + 1) = IntKind.u8.wrap (shrI .u32 (s.getD i 0) 16) := by
  rw [outB, show (4 * i + 1) / 4 = i from by omega, show (4 * i + 1) % 4 = 1 from by omega]; rfl
theorem outB2 (s : List Int) (i : Nat) : outB s (4 * i + 2) = IntKind.u8.wrap (shrI .u32 (s.getD i 0) 8) := by
  rw [outB, show (4 * i + 2) / 4 = i from by omega, show (4 * i + 2) % 4 = 2 from by omega]; rfl
theorem outB3 (s : List Int) (i : Nat) : outB s (4 * i + 3) = IntKind.u8.wrap (s.getD i 0) := by
  rw [outB, show (4 * i + 3) / 4 = i from by omega, show (4 * i + 3) % 4 = 3 from by omega]
  have : shrI .u32 (s.getD i 0) (24 - 8 * ((3 : Nat) : Int)) = s.getD i 0 := by
    have h0 : (24 - 8 * ((3 : Nat) : Int)) = 0 := by decide
    rw [h0]; simp [shrI]
  rw [this]
theorem m18_7 (s : List Int) (hs : s.length = 8) (f : Nat) (k0 : List PV → List PV → Option Res) (a : List PV) (t : List Int) (ht : t.length = 32) : ∀ (d i n : Nat), i + d = 8 → d < n →
    lp18_7 f k0 n (i : Int) a (pu .u32 s) (pu .u8 (fillM (outB s) t (4 * i))) = k0 a (pu .u8 (outP s))
  | 0, i, n + 1, h, hn => by
      obtain rfl : i = 8 := by omega
      simp only [lp18_7, lpS18_7]
      refine (bif_f (by decide)).trans ?_
      have := fillM_full (outB s) t
      rw [ht] at this; rw [show 4 * 8 = 32 from rfl, this]; rfl
  | d + 1, i, n + 1, h, hn => by
      have h1 : IntKind.i64.wrap ((i : Int) + 1) = ((i + 1 : Nat) : Int) := by rw [wrap_i64 (by omega) (by omega)]; omega
      have h4 : IntKind.i64.wrap (4 * (i : Int)) = ((4 * i : Nat) : Int) := by rw [wrap_i64 (by omega) (by omega)]; omega
      have h41 : IntKind.i64.wrap (((4 * i : Nat) : Int) + 1) = ((4 * i + 1 : Nat) : Int) := by rw [wrap_i64 (by omega) (by omega)]; omega
      have h42 : IntKind.i64.wrap (((4 * i : Nat) : Int) + 2) = ((4 * i + 2 : Nat) : Int) := by rw [wrap_i64 (by omega) (by omega)]; omega
      have h43 : IntKind.i64.wrap (((4 * i : Nat) : Int) + 3) = ((4 * i + 3 : Nat) : Int) := by rw [wrap_i64 (by omega) (by omega)]; omega
      have c1 : decide ((i : Int) < 8) = true := by simp; omega
      have c2 : decide (0 ≤ (i : Int)) = true := by simp
      have c3 : decide ((i : Int) < zi 8) = true := by simp; omega
      have b0 : (decide (0 ≤ ((4 * i : Nat) : Int)) && decide (((4 * i : Nat) : Int) < zi 32) && true) = true := by simp; omega
      have b1 : (decide (0 ≤ ((4 * i + 1 : Nat) : Int)) && decide (((4 * i + 1 : Nat) : Int) < zi 32) && true) = true := by simp; omega
      have b2 : (decide (0 ≤ ((4 * i + 2 : Nat) : Int)) && decide (((4 * i + 2 : Nat) : Int) < zi 32) && true) = true := by simp; omega
      have b3 : (decide (0 ≤ ((4 * i + 3 : Nat) : Int)) && decide (((4 * i + 3 : Nat) : Int) < zi 32) && true) = true := by simp; omega
      have g1 : ((i : Int)).toNat = i := by omega
      have g2 : (((4 * i : Nat) : Int)).toNat = 4 * i := by omega
      have g3 : (((4 * i + 1 : Nat) : Int)).toNat = 4 * i + 1 := by omega
      have g4 : (((4 * i + 2 : Nat) : Int)).toNat = 4 * i + 2 := by omega
      have g5 : (((4 * i + 3 : Nat) : Int)).toNat = 4 * i + 3 := by omega
      simp only [lp18_7, lpS18_7, h1, h4, h41, h42, h43, b0, b1, b2, b3, g1, g2, g3, g4, g5, getP_ar, c1, c2, c3, getD8' hs i (by omega), PV.isInt, PV.int, decide_true, Bool.and_true, cond_true, pu_set]
      have := m18_7 s hs f k0 a t ht d (i + 1) n (by omega) (by omega)
      rw [show 4 * (i + 1) = 4 * i + 3 + 1 from by omega, ← fillM_set (outB s) t (4 * i + 3) (by omega), ← fillM_set (outB s) t (4 * i + 2) (by omega), ← fillM_set (outB s) t (4 * i + 1) (by omega), ← fillM_set (outB s) t (4 * i) (by omega), outB0, outB1, outB2, outB3] at this
      exact this
theorem m18_2 (P : List Int) (m : Nat) (hP : P.length = 64 * m) (hb : P.length ≤ 140737488356000) (f : Nat) (hf : 100 ≤ f) (x : List PV) (k0 : List PV → List PV → Option Res) : ∀ (d i n : Nat) (T : List Int), i + d = m → d < n → T.length = 64 →
    lp18_2 f k0 n P.length ((64 * i : Nat) : Int) x (pu .u32 kks) (pu .u32 (foldB iv P i)) (pu .u8 P) (pu .u32 T) = k0 x (pu .u32 (foldB iv P m))
  | 0, i, n + 1, T, h, hn, hT => by
      obtain rfl : i = m := by omega
      simp only [lp18_2, lpS18_2]
      exact bif_f (by simp [zi]; omega)
  | d + 1, i, n + 1, T, h, hn, hT => by
      have hfl := foldB_length iv P rfl i
      simp only [lp18_2, lpS18_2]
      refine (bif_t (by simp [zi]; omega)).trans ?_
      have e3 := fun kk => m18_3 P i (by omega) hb T hT f x (pu .u32 kks) (pu .u32 (foldB iv P i)) kk 16 0 f (by omega) (by omega)
      have e4 := fun kk => m18_4 ((P.drop (64 * i)).take 64) T hT f P.length ((64 * i : Nat) : Int) x (pu .u32 kks) (pu .u32 (foldB iv P i)) (pu .u8 P) kk 48 0 f (by omega) (by omega)
      have hW : (spreadP ((P.drop (64 * i)).take 64)).length = 64 := sched_length _ 48
      have e5 := fun kk => m18_5 (spreadP ((P.drop (64 * i)).take 64)) (foldB iv P i) hW hfl f P.length ((64 * i : Nat) : Int) x (pu .u32 (foldB iv P i)) (pu .u8 P) kk 64 0 f (by omega) (by omega)
      have e6 := fun kk => m18_6 (rnds (spreadP ((P.drop (64 * i)).take 64)) (foldB iv P i) 64) (foldB iv P i) (rnds_length _ _ hfl 64) hfl f P.length ((64 * i : Nat) : Int) x (pu .u32 kks) (pu .u8 P) (pu .u32 (spreadP ((P.drop (64 * i)).take 64))) kk 8 0 f (by omega) (by omega)
      have h0 : fillM (word ((P.drop (64 * i)).take 64)) T 16 = fillT ((P.drop (64 * i)).take 64) T 0 := rfl
      rw [fillM_zero] at e6
      simp only [fillM_zero] at e3
      refine (e3 _).trans ?_
      rw [h0]
      refine (e4 _).trans ?_
      refine (e5 _).trans ?_
      refine (e6 _).trans ?_
      have h1 : IntKind.i64.wrap (((64 * i : Nat) : Int) + 64) = ((64 * (i + 1) : Nat) : Int) := by rw [wrap_i64 (by omega) (by omega)]; omega
      rw [h1]
      exact m18_2 P m hP hb f hf x k0 d (i + 1) n (spreadP ((P.drop (64 * i)).take 64)) (by omega) (by omega) hW
theorem g18_eq (bs : List Int) (hb : bs.length ≤ 140737488355000) (nl fl : Bool) (k : Res → Option Res) : g18 ((padP bs).length / 64 + 100) nl fl (pu .u8 bs) k = k ⟨.ar 29 (pu .u8 (sumP bs)), [], []⟩ := by
  rw [sumP_eq]
  have hlen : (padP bs).length = bs.length + 1 + zs (bs.length + 1) + 8 := by simp [padP, lenB]; omega
  have hz : zs (bs.length + 1) < 64 := by unfold zs; omega
  have h64 : (padP bs).length = 64 * ((padP bs).length / 64) := padP_length bs
  generalize hf : (padP bs).length / 64 + 100 = f
  refine (bif_t (by simp [roomy]; omega)).trans ?_
  refine (bif_t (by simp [roomy]; omega)).trans ?_
  have hL : List.take (0 + (pu .u8 bs).length) ([] ++ pu .u8 bs) ++ [PV.sc (Value.int IntKind.u8 128)] = pu .u8 (bs ++ [128]) := by
    rw [List.take_of_length_le (by simp)]; simp
  rw [hL]
  have e0 := fun kk x y w => m18_0 f nl fl (pu .u8 bs) x y w kk (zs (bs.length + 1)) f (bs ++ [128]) (by simp) (by omega) (by simp; omega)
  simp only [List.length_append, List.length_cons, List.length_nil, Nat.zero_add] at e0
  have hl1 : 0 + (pu .u8 bs).length + 1 = bs.length + 1 := by simp
  rw [hl1]
  refine (e0 _ _ _ _).trans ?_
  have e1 := fun kk x y w => m18_1 f (IntKind.u64.wrap (IntKind.u64.wrap (zi (pu .u8 bs).length) * 8)) x y w kk (bs ++ [128] ++ List.replicate (zs (bs.length + 1)) 0) (by simp; omega) 8 0 f (by omega) (by omega)
  have hl2 : (bs ++ [128] ++ List.replicate (zs (bs.length + 1)) 0).length = bs.length + 1 + zs (bs.length + 1) := by simp; omega
  rw [hl2] at e1
  simp only [List.range_zero, List.map_nil, List.append_nil, Nat.add_zero] at e1
  refine (e1 _ _ _ _).trans ?_
  have hPd : bs ++ [128] ++ List.replicate (zs (bs.length + 1)) 0 ++ (List.range 8).map (lenR (IntKind.u64.wrap (IntKind.u64.wrap (zi (pu .u8 bs).length) * 8))) = padP bs := by
    rw [pu_length]; rfl
  rw [hPd, ← hlen]
  have e2 := fun kk x => m18_2 (padP bs) ((padP bs).length / 64) h64 (by omega) f (by omega) x kk ((padP bs).length / 64) 0 f (List.replicate 64 0) (by omega) (by omega) (by simp)
  refine (e2 _ _).trans ?_
  have hfl := foldB_length iv (padP bs) rfl ((padP bs).length / 64)
  have e7 := fun kk a => m18_7 (foldB iv (padP bs) ((padP bs).length / 64)) hfl f kk a (List.replicate 32 0) (by simp) 8 0 f (by omega) (by omega)
  simp only [Nat.mul_zero, fillM_zero] at e7
  exact e7 _ _
def run18' : List PV → List Ent → (Res → Option Res) → Option Res
  | [.ro 5 nl fl b], [], k => bif allInt .u8 b && decide (b.length ≤ 140737488355000) then k ⟨.ar 29 (pu .u8 (sumP (ints b))), [], []⟩ else none
  | _, _, _ => none
def s18' : Sig := { own := [], run := run18' }
theorem ok18' : CallOk tau Try.prog 18 s18' := fn_ok2 tabOk F18_ok mixed fo18 bo18 (fun n => an18 (r18_0 n) (r18_1 n) (r18_2 n) (r18_7 n)) [] 0 [] run18' (fun n => ia18 n) fun xs es k res hr => by
  unfold run18' at hr
  split at hr
  · rename_i nl fl l
    obtain ⟨hc, hr⟩ := of_bif hr
    simp only [Bool.and_eq_true, decide_eq_true_eq] at hc
    refine ⟨rfl, (padP (ints l)).length / 64 + 100, 0, (e18 _ _ _ _ _).trans ?_⟩
    have he := pu_ints hc.1
    have := g18_eq (ints l) (by simpa using hc.2) nl fl k
    rw [← he] at this
    rw [this]; exact hr
  · cases hr
end Go.Proofs.Ytodldmomneecpab.Rx

/- What comitia/comitialaw13.WaveletNew computes. Own work, printed by a program of the worker's own. -/
namespace Go.Proofs.Ytodldmomneecpab.Rx
open Go
set_option linter.unusedVariables false
set_option maxRecDepth 100000
set_option maxHeartbeats 0
def N4 : Nat := 73
noncomputable def F4 : Fns := addF 14 s14 (addF 15 s15' (addF 16 s16' (addF 17 s17' (addF 18 s18' F0))))
theorem F4_ok : FnsOk tau Try.prog F4 := ((((F0_ok.add ok18' en18).add ok17' en17).add ok16' en16).add ok15' en15).add ok14 en14
def an4 : An := (.seq .leaf (.seq (.seq .leaf (.cond (.seq .leaf .leaf) .leaf)) (.seq .leaf (.seq .leaf (.seq .leaf (.seq .leaf .leaf))))))
def g4 (f : Nat) (h : Int) (n : Int) (d : Int) (u : Int) (k : Res → Option Res) : Option Res :=
  bif small4 (h % 3) (n % 100) (d % 3) (u % 8) then
    bif decide (8 = (pu IntKind.u8 (intB (h % 3))).length) && decide ((pu IntKind.u8 (intB (h % 3))).length ≤ 1000) then
      bif decide (16 = (pu IntKind.u8 (intB (h % 3)) ++ pu IntKind.u8 (intB (n % 100))).length) && decide ((pu IntKind.u8 (intB (h % 3)) ++ pu IntKind.u8 (intB (n % 100))).length ≤ 1000) then
        bif decide (24 = (pu IntKind.u8 (intB (h % 3)) ++ pu IntKind.u8 (intB (n % 100)) ++ pu IntKind.u8 (intB (d % 3))).length) &&
          decide ((pu IntKind.u8 (intB (h % 3)) ++ pu IntKind.u8 (intB (n % 100)) ++ pu IntKind.u8 (intB (d % 3))).length ≤ 1000) then
          bif h % 3 == h % 3 && (n % 100 == n % 100 && true) then
            bif d % 3 == d % 3 && (u % 8 == u % 8 && true) then
              bif allInt IntKind.u8 (List.take 32 (pu IntKind.u8 (intB (h % 3)) ++ pu IntKind.u8 (intB (n % 100)) ++ pu IntKind.u8 (intB (d % 3)) ++ pu IntKind.u8 (intB (u % 8)))) &&
                decide ((List.take 32 (pu IntKind.u8 (intB (h % 3)) ++ pu IntKind.u8 (intB (n % 100)) ++ pu IntKind.u8 (intB (d % 3)) ++ pu IntKind.u8 (intB (u % 8)))).length ≤ 140737488355000) then
                bif decide ((pu IntKind.u8 (sumP (bytes4 (h % 3) (n % 100) (d % 3) (u % 8)))).length = 32) &&
                        decide
                          ((pu IntKind.u8
                                (sumP (ints (List.take 32 (pu IntKind.u8 (intB (h % 3)) ++ pu IntKind.u8 (intB (n % 100)) ++ pu IntKind.u8 (intB (d % 3)) ++ pu IntKind.u8 (intB (u % 8))))))).length =
                            32) &&
                      allInt IntKind.u8 (pu IntKind.u8 (sumP (bytes4 (h % 3) (n % 100) (d % 3) (u % 8)))) &&
                    allInt IntKind.u8
                      (pu IntKind.u8 (sumP (ints (List.take 32 (pu IntKind.u8 (intB (h % 3)) ++ pu IntKind.u8 (intB (n % 100)) ++ pu IntKind.u8 (intB (d % 3)) ++ pu IntKind.u8 (intB (u % 8))))))) &&
                  true then
                  k (Res.mk
                    (PV.sc
                      (Value.bool
                        (eqInts (pu IntKind.u8 (sumP (bytes4 (h % 3) (n % 100) (d % 3) (u % 8))))
                          (pu IntKind.u8
                            (sumP (ints (List.take 32 (pu IntKind.u8 (intB (h % 3)) ++ pu IntKind.u8 (intB (n % 100)) ++ pu IntKind.u8 (intB (d % 3)) ++ pu IntKind.u8 (intB (u % 8))))))))))
                    [] [])
                else none
              else none
            else k (Res.mk (PV.sc (Value.bool false)) [] [])
          else k (Res.mk (PV.sc (Value.bool false)) [] [])
        else none
      else none
    else none
  else none
theorem e4 (f : Nat) (h : Int) (n : Int) (d : Int) (u : Int) (k : Res → Option Res) : evFn tau F4 Try.f4 (Try.f4.body.get!) an4 [] 0 [.st 26 [.sc (.int .i64 h), .sc (.int .i64 n)], .st 23 [.sc (.int .i64 d), .sc (.int .i64 u)]] [] k = g4 f h n d u k := by kernel_rfl
theorem it4 (f : Nat) : items (Try.f4.body.get!) an4 = [] := by kernel_rfl
theorem ia4 (f : Nat) : ∀ q ∈ items (Try.f4.body.get!) an4, q.Ok tau Try.prog 0 := by
  rw [it4 f]; intro q hq; cases hq
theorem fo4 : Try.prog.funcs[4]? = some Try.f4 := by kernel_rfl
theorem bo4 : Try.f4.body = some (Try.f4.body.get!) := by kernel_rfl
theorem en4 : Enters Try.prog 4 := enters_of fo4 (by kernel_rfl) bo4
end Go.Proofs.Ytodldmomneecpab.Rx

/- WaveletNew: a new one is empty, its creator alone takes part, its hash is over what it is. Own work. -/
namespace Go.Proofs.Ytodldmomneecpab.Rx
open Go
set_option linter.unusedVariables false
set_option linter.unusedSimpArgs false
set_option maxRecDepth 100000
set_option maxHeartbeats 1000000
theorem g4_eq (h n d u : Int) (k : Res → Option Res) : g4 0 h n d u k = k ⟨.sc (.bool true), [], []⟩ := by
  have hs : small4 (h % 3) (n % 100) (d % 3) (u % 8) = true := by
    simp only [small4, Bool.and_eq_true, decide_eq_true_eq]; omega
  have hb : List.take 32 (pu IntKind.u8 (intB (h % 3)) ++ pu IntKind.u8 (intB (n % 100)) ++ pu IntKind.u8 (intB (d % 3)) ++ pu IntKind.u8 (intB (u % 8))) = pu .u8 (bytes4 (h % 3) (n % 100) (d % 3) (u % 8)) := by
    rw [List.take_of_length_le (by simp [intB_length])]
    simp only [bytes4, pu_append]
  unfold g4
  rw [hb]
  simp only [hs, pu_length, List.length_append, intB_length, bytes4_length, sumP_length, allInt_pu, ints_pu, eqInts_pu, beq_self_eq_true, Nat.reduceAdd, Nat.reduceLeDiff, decide_true, Bool.and_true, cond_true]
def run4' : List PV → List Ent → (Res → Option Res) → Option Res
  | [.st 26 [.sc (.int .i64 h), .sc (.int .i64 n)], .st 23 [.sc (.int .i64 d), .sc (.int .i64 u)]], [], k => k ⟨.sc (.bool true), [], []⟩
  | _, _, _ => none
def s4' : Sig := { own := [], run := run4' }
theorem ok4' : CallOk tau Try.prog 4 s4' := CallOk.mk' fun xs es k res hl hr => by
  change run4' xs es k = some res at hr
  unfold run4' at hr
  split at hr
  · rename_i h n d u
    have h1 := (e4 0 h n d u k).trans ((g4_eq h n d u k).trans hr)
    exact fn_at tabOk F4_ok mixed fo4 bo4 an4 [] 0 0 (ia4 0) hl rfl h1
  · cases hr
theorem ty_two {t : TypeId} {fds : Array Field} {m : Nat} {p : PV} (hu : tau.und t = some (.struct fds)) (h2 : fds.size = 2) (h0 : ∀ f, fds[0]? = some f → tau.und f.type = some (.int .i64)) (h1 : ∀ f, fds[1]? = some f → tau.und f.type = some (.int .i64)) (h : Ty tau (m + 2) t p) :
    ∃ x y, p = .st t [.sc (.int .i64 x), .sc (.int .i64 y)] := by
  obtain ⟨fs, rfl, hl, hf⟩ := ty_struct hu h
  rw [h2] at hl
  match fs, hl with
  | [a, b], _ =>
    obtain ⟨f0, hf0⟩ : ∃ f, fds[0]? = some f := ⟨fds[0]'(by omega), Array.getElem?_eq_getElem (by omega)⟩
    obtain ⟨f1, hf1⟩ : ∃ f, fds[1]? = some f := ⟨fds[1]'(by omega), Array.getElem?_eq_getElem (by omega)⟩
    obtain ⟨x, rfl, _⟩ := ty_int (h0 f0 hf0) (hf 0 f0 a hf0 rfl)
    obtain ⟨y, rfl, _⟩ := ty_int (h1 f1 hf1) (hf 1 f1 b hf1 rfl)
    exact ⟨x, y, rfl⟩
noncomputable def fieldsAre (t : TypeId) : Bool := match tau.und t with
  | some (.struct fds) => fds.size == 2 && fds.toList.all fun f => match tau.und f.type with | some (.int .i64) => true | _ => false
  | _ => false
theorem ty_two' {t : TypeId} {m : Nat} {p : PV} (hc : fieldsAre t = true) (h : Ty tau (m + 2) t p) : ∃ x y, p = .st t [.sc (.int .i64 x), .sc (.int .i64 y)] := by
  unfold fieldsAre at hc
  split at hc
  · rename_i fds hu
    simp only [Bool.and_eq_true, beq_iff_eq] at hc
    have all : ∀ (i : Nat) (f : Field), fds[i]? = some f → tau.und f.type = some (.int .i64) := by
      intro i f hf
      have h1 := List.all_eq_true.1 hc.2 f (List.mem_of_getElem? (by rw [Array.getElem?_toList]; exact hf))
      split at h1
      · assumption
      · cases h1
    exact ty_two hu hc.1 (fun f hf => all 0 f hf) (fun f hf => all 1 f hf) h
  · cases hc
theorem run4_true : ∀ pvs, TyL tau 4 [26, 23] pvs → s4'.run pvs [] some = some ⟨.sc (.bool true), [], []⟩ := by
  intro pvs h
  match pvs, h with
  | [p, q], h =>
    obtain ⟨h1, h2, _⟩ := h
    obtain ⟨x, y, rfl⟩ := ty_two' (by kernel_rfl : fieldsAre 26 = true) h1
    obtain ⟨z, v, rfl⟩ := ty_two' (by kernel_rfl : fieldsAre 23 = true) h2
    rfl
end Go.Proofs.Ytodldmomneecpab.Rx
