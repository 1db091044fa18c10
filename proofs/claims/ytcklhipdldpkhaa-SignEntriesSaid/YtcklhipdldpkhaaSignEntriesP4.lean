/- What the functions of this law compute, and their plain laws. Conditions: none. -/
import Derived.KernelRfl
import Derived.Test.YtcklhipdldpkhaaSignEntriesP3
namespace Go.Proofs.Ytcklhipdldpkhaa.Rx
open Go
set_option linter.unusedVariables false
set_option linter.unusedSimpArgs false
set_option maxRecDepth 100000
set_option maxHeartbeats 0
def N28 : Nat := 278
noncomputable def F28 : Fns := JH 72 s72 (JH 73 JuG F0)
theorem Yc : JA tau Try.prog F28 := (JJ.add JuH Jzn).add JAM JAL
noncomputable def Jcv : Code := Qy (Try.f28.body.get!) [1, 1, 1, 1, 1, 0, 0, 0]
def Yd : Nm := [(0, .any), (2, .any), (3, .any), (4, .any), (5, .any)]
def Zg : Nm := [(0, .any), (2, .any), (3, .any), (4, .any), (5, .any)]
def Jfn : An := (.seq (.seq .leaf (.cond .leaf .leaf)) (.block none .leaf))
noncomputable def Jcw : Code := Qy (Try.f28.body.get!) [1, 1, 1, 1, 1, 1, 1, 0, 1, 0, 0]
def Ye : Nm := [(2, .any), (3, .any), (4, .any), (5, .any), (6, .any), (7, .any)]
def Zh : Nm := [(2, .any), (3, .any), (4, .any), (5, .any)]
def Jfo : An := (.seq (.seq .leaf (.cond .leaf .leaf)) (.seq (.block none .leaf) .leaf))
noncomputable def Jcx : Code := Qy (Try.f28.body.get!) [1, 1, 1, 1, 1, 1, 1, 1, 1, 0, 1, 0, 0, 1, 0, 0, 0, 1, 0, 0]
def Yf : Nm := [(2, .any), (3, .any), (4, .any), (5, .any), (8, .any), (9, .any), (10, .any)]
def Zi : Nm := [(2, .any), (3, .any), (4, .any), (5, .any), (8, .any), (9, .any)]
def Jfp : An := (.seq (.seq .leaf (.cond .leaf .leaf)) (.seq (.block none (.seq .leaf .leaf)) .leaf))
noncomputable def Jcy : Code := Qy (Try.f28.body.get!) [1, 1, 1, 1, 1, 1, 1, 1, 1, 0, 1, 0, 0, 1, 0, 0, 1, 0, 1, 0, 0]
def Yg : Nm := [(2, .any), (3, .any), (4, .any), (5, .any), (8, .any), (9, .any), (12, .any)]
def Zj : Nm := [(2, .any), (3, .any), (4, .any), (5, .any), (8, .any), (9, .any)]
def Jfq : An := (.seq (.seq .leaf (.cond .leaf .leaf)) (.seq (.block none (.seq .leaf .leaf)) .leaf))
noncomputable def Jcz : Code := Qy (Try.f28.body.get!) [1, 1, 1, 1, 1, 1, 1, 1, 1, 0, 1, 0, 0, 1, 0, 0, 1, 1, 1, 0, 1, 0, 0]
def Yh : Nm := [(2, .any), (3, .any), (4, .any), (5, .any), (8, .any), (9, .any), (15, .any), (16, .any)]
def Zk : Nm := [(2, .any), (3, .any), (4, .any), (5, .any), (8, .any), (9, .any), (15, .any)]
def Jfr : An := (.seq (.seq .leaf (.cond .leaf .leaf)) (.seq (.block none (.seq .leaf (.seq .leaf (.seq .leaf .leaf)))) .leaf))
noncomputable def JcA : Code := Qy (Try.f28.body.get!) [1, 1, 1, 1, 1, 1, 1, 1, 1, 0, 1, 0, 0, 1, 0, 0, 1, 1, 1, 1, 1, 0, 0]
def Yi : Nm := [(2, .any), (3, .any), (4, .any), (5, .any), (8, .any), (9, .any), (15, .any), (20, .any)]
def Zl : Nm := [(2, .any), (3, .any), (4, .any), (5, .any), (8, .any), (9, .any)]
def Jfs : An := (.seq (.seq .leaf (.cond .leaf .leaf)) (.seq (.block none .leaf) .leaf))
noncomputable def JcB : Code := Qy (Try.f28.body.get!) [1, 1, 1, 1, 1, 1, 1, 1, 1, 0, 1, 0, 0]
def Yj : Nm := [(2, .any), (3, .any), (4, .any), (5, .any), (8, .any), (9, .any)]
def Zm : Nm := [(2, .any), (4, .any)]
def Jft (r3 : Q6) (r4 : Q6) (r5 : Q6) (r6 : Q6) : An := (.seq (.seq .leaf (.cond .leaf .leaf)) (.seq (.block none (.seq (.seq .leaf (.block none (.sum Yf N28 r3))) (.seq (.seq .leaf (.block none (.sum Yg N28 r4))) (.seq .leaf (.seq (.seq .leaf (.block none (.sum Yh N28 r5))) (.seq .leaf (.block none (.sum Yi N28 r6)))))))) .leaf))
noncomputable def JcC : Code := Qy (Try.f28.body.get!) [1, 1, 1, 1, 1, 1, 1, 1, 1, 1, 1, 0, 1, 0, 0]
def Yk : Nm := [(2, .any), (4, .any), (21, .any), (22, .any)]
def Zn : Nm := [(2, .any), (21, .any)]
def Jfu : An := (.seq (.seq .leaf (.cond .leaf .leaf)) (.seq (.block none .leaf) .leaf))
def Jol (r0 : Q6) (r1 : Q6) (r2 : Q6) (r7 : Q6) : An := (.seq .leaf (.seq .leaf (.seq .leaf (.seq .leaf (.seq .leaf (.seq (.block none (.sum Yd N28 r0)) (.seq .leaf (.seq (.seq .leaf (.block none (.sum Ye N28 r1))) (.seq .leaf (.seq (.seq .leaf (.block none (.sum Yj N28 r2))) (.seq .leaf (.seq (.seq .leaf (.block none (.sum Yk N28 r7))) (.seq .leaf .leaf)))))))))))))
def VY (f : Nat) (rc : Bool → Bool → List PV → Nat → List PV → List PV → List PV → List PV → Option Res) (k0 : Bool → Bool → List PV → Nat → List PV → List PV → List PV → List PV → Option Res) (v0 : Bool) (v1 : Bool) (v2 : List PV) (v3 : Nat) (v4 : List PV) (v5 : List PV) (v6 : List PV) (v7 : List PV) : Option Res := bif (zi v3).tmod 64 != 56 then bif Jj (v3 + 1) 1 && true then rc v0 v1 v2 (v3 + 1) v4 v5 v6 (List.take v3 v7 ++ [.sc (.int .u8 0)]) else none else k0 v0 v1 v2 v3 v4 v5 v6 v7
def Vg (f : Nat) (k0 : Bool → Bool → List PV → Nat → List PV → List PV → List PV → List PV → Option Res) : Nat → Bool → Bool → List PV → Nat → List PV → List PV → List PV → List PV → Option Res
  | 0, _, _, _, _, _, _, _, _ => none
  | n + 1, v0, v1, v2, v3, v4, v5, v6, v7 => VY f (Vg f k0 n) k0 v0 v1 v2 v3 v4 v5 v6 v7
theorem Jom (f : Nat) (k : Kont) (n : Nat) (v0 : Bool) (v1 : Bool) (v2 : List PV) (v3 : Nat) (v4 : List PV) (v5 : List PV) (v6 : List PV) (v7 : List PV) : Jq tau 0 Yd (fun s k => ev tau F28 0 0 Jcv (Jfn ) s k) (n + 1) (Je Yd N28 [.ro 5 v0 v1 v2, .ptr 4464 [], .ptr 4465 [], .ptr 4466 [], .ow 5 4467 [] 0 v3 none] [(4464, .box false 37 (PV.ar 37 v4)), (4465, .box false 118 (PV.ar 118 v5)), (4466, .box false 112 (PV.ar 112 v6)), (4467, .vec false 5 false v7)]) (Jz tau 0 Zg k) = VY f (fun v0 v1 v2 v3 v4 v5 v6 v7 => Jq tau 0 Yd (fun s k => ev tau F28 0 0 Jcv (Jfn ) s k) n (Je Yd N28 [.ro 5 v0 v1 v2, .ptr 4464 [], .ptr 4465 [], .ptr 4466 [], .ow 5 4467 [] 0 v3 none] [(4464, .box false 37 (PV.ar 37 v4)), (4465, .box false 118 (PV.ar 118 v5)), (4466, .box false 112 (PV.ar 112 v6)), (4467, .vec false 5 false v7)]) (Jz tau 0 Zg k)) (fun x0 x1 x2 x3 x4 x5 x6 x7 => k (Ex.exit 0) (Je Zg N28 [.ro 5 x0 x1 x2, .ptr 4464 [], .ptr 4465 [], .ptr 4466 [], .ow 5 4467 [] 0 x3 none] [(4464, .box false 37 (PV.ar 37 x4)), (4465, .box false 118 (PV.ar 118 x5)), (4466, .box false 112 (PV.ar 112 x6)), (4467, .vec false 5 false x7)])) v0 v1 v2 v3 v4 v5 v6 v7 := by kernel_rfl
theorem JiP (f : Nat) (k : Kont) : ∀ (n : Nat) (v0 : Bool) (v1 : Bool) (v2 : List PV) (v3 : Nat) (v4 : List PV) (v5 : List PV) (v6 : List PV) (v7 : List PV), Jq tau 0 Yd (fun s k => ev tau F28 0 0 Jcv (Jfn ) s k) n (Je Yd N28 [.ro 5 v0 v1 v2, .ptr 4464 [], .ptr 4465 [], .ptr 4466 [], .ow 5 4467 [] 0 v3 none] [(4464, .box false 37 (PV.ar 37 v4)), (4465, .box false 118 (PV.ar 118 v5)), (4466, .box false 112 (PV.ar 112 v6)), (4467, .vec false 5 false v7)]) (Jz tau 0 Zg k) = Vg f (fun x0 x1 x2 x3 x4 x5 x6 x7 => k (Ex.exit 0) (Je Zg N28 [.ro 5 x0 x1 x2, .ptr 4464 [], .ptr 4465 [], .ptr 4466 [], .ow 5 4467 [] 0 x3 none] [(4464, .box false 37 (PV.ar 37 x4)), (4465, .box false 118 (PV.ar 118 x5)), (4466, .box false 112 (PV.ar 112 x6)), (4467, .vec false 5 false x7)])) n v0 v1 v2 v3 v4 v5 v6 v7 | 0, _, _, _, _, _, _, _, _ => rfl | n + 1, v0, v1, v2, v3, v4, v5, v6, v7 => (Jom f k n v0 v1 v2 v3 v4 v5 v6 v7).trans (congrArg (fun r => VY f r (fun x0 x1 x2 x3 x4 x5 x6 x7 => k (Ex.exit 0) (Je Zg N28 [.ro 5 x0 x1 x2, .ptr 4464 [], .ptr 4465 [], .ptr 4466 [], .ow 5 4467 [] 0 x3 none] [(4464, .box false 37 (PV.ar 37 x4)), (4465, .box false 118 (PV.ar 118 x5)), (4466, .box false 112 (PV.ar 112 x6)), (4467, .vec false 5 false x7)])) v0 v1 v2 v3 v4 v5 v6 v7) (by funext v0 v1 v2 v3 v4 v5 v6 v7; exact JiP f k n v0 v1 v2 v3 v4 v5 v6 v7))
def Jbv (f : Nat) : List PV → List (Nat × Ent) → Kont → Option Res
  | [.ro 5 v0 v1 v2, .ptr 4464 [], .ptr 4465 [], .ptr 4466 [],
  PV.ow 5 4467 [] 0 v3
    none], [(4464, .box false 37 (PV.ar 37 v4)), (4465, .box false 118 (PV.ar 118 v5)), (4466, .box false 112 (PV.ar 112 v6)),
  (4467,
    Ent.vec false 5 false
      v7)], k => Vg f (fun x0 x1 x2 x3 x4 x5 x6 x7 => k (Ex.exit
  0) (Je Zg N28 [.ro 5 x0 x1 x2, .ptr 4464 [], .ptr 4465 [], .ptr 4466 [],
  PV.ow 5 4467 [] 0 x3
    none] [(4464, .box false 37 (PV.ar 37 x4)), (4465, .box false 118 (PV.ar 118 x5)), (4466, .box false 112 (PV.ar 112 x6)), (4467, .vec false 5 false x7)])) f v0 v1 v2 v3 v4 v5 v6 v7
  | _, _, _ => none
theorem Js6 (f : Nat) : Ji Jcv Jfn = [] := by kernel_rfl
theorem JxR (f : Nat) : (Item.l Jcv Yd N28 (Jbv f)).Ok tau Try.prog 0 := JM Js Yc Jt (x := Jfn) (nm2 := Zg) (Jr _ _ (by rw [Js6 f]; intro q hq; cases hq)) fun vs hp k res hr => by
  unfold Jbv at hr
  split at hr
  · exact ⟨f, 0, (JiP f _ f _ _ _ _ _ _ _ _ ).trans hr⟩
  · cases hr
def VZ (f : Nat) (rc : Nat → Int → Int → List PV → List PV → List PV → List PV → Option Res) (k0 : Nat → List PV → List PV → List PV → List PV → Option Res) (v0 : Nat) (v1 : Int) (v2 : Int) (v3 : List PV) (v4 : List PV) (v5 : List PV) (v6 : List PV) : Option Res := bif decide (v2 ≥ 0) then bif decide (0 ≤ IntKind.u64.wrap (8 * IntKind.u64.wrap v2)) && true then bif Jj (v0 + 1) 1 && true then rc (v0 + 1) v1 (IntKind.i64.wrap (v2 - 1)) v3 v4 v5 (List.take v0 v6 ++ [.sc (.int .u8 (IntKind.u8.wrap (JB IntKind.u64 v1 (IntKind.u64.wrap (8 * IntKind.u64.wrap v2)))))]) else none else none else k0 v0 v3 v4 v5 v6
def Vh (f : Nat) (k0 : Nat → List PV → List PV → List PV → List PV → Option Res) : Nat → Nat → Int → Int → List PV → List PV → List PV → List PV → Option Res
  | 0, _, _, _, _, _, _, _ => none
  | n + 1, v0, v1, v2, v3, v4, v5, v6 => VZ f (Vh f k0 n) k0 v0 v1 v2 v3 v4 v5 v6
theorem Jon (f : Nat) (k : Kont) (n : Nat) (v0 : Nat) (v1 : Int) (v2 : Int) (v3 : List PV) (v4 : List PV) (v5 : List PV) (v6 : List PV) : Jq tau 0 Ye (fun s k => ev tau F28 0 0 Jcw (Jfo ) s k) (n + 1) (Je Ye N28 [.ptr 4464 [], .ptr 4465 [], .ptr 4466 [], .ow 5 4467 [] 0 v0 none, .sc (.int .u64 v1), .sc (.int .i64 v2)] [(4464, .box false 37 (PV.ar 37 v3)), (4465, .box false 118 (PV.ar 118 v4)), (4466, .box false 112 (PV.ar 112 v5)), (4467, .vec false 5 false v6)]) (Jz tau 0 Zh k) = VZ f (fun v0 v1 v2 v3 v4 v5 v6 => Jq tau 0 Ye (fun s k => ev tau F28 0 0 Jcw (Jfo ) s k) n (Je Ye N28 [.ptr 4464 [], .ptr 4465 [], .ptr 4466 [], .ow 5 4467 [] 0 v0 none, .sc (.int .u64 v1), .sc (.int .i64 v2)] [(4464, .box false 37 (PV.ar 37 v3)), (4465, .box false 118 (PV.ar 118 v4)), (4466, .box false 112 (PV.ar 112 v5)), (4467, .vec false 5 false v6)]) (Jz tau 0 Zh k)) (fun x0 x1 x2 x3 x4 => k (Ex.exit 2) (Je Zh N28 [.ptr 4464 [], .ptr 4465 [], .ptr 4466 [], .ow 5 4467 [] 0 x0 none] [(4464, .box false 37 (PV.ar 37 x1)), (4465, .box false 118 (PV.ar 118 x2)), (4466, .box false 112 (PV.ar 112 x3)), (4467, .vec false 5 false x4)])) v0 v1 v2 v3 v4 v5 v6 := by kernel_rfl
theorem JiQ (f : Nat) (k : Kont) : ∀ (n : Nat) (v0 : Nat) (v1 : Int) (v2 : Int) (v3 : List PV) (v4 : List PV) (v5 : List PV) (v6 : List PV), Jq tau 0 Ye (fun s k => ev tau F28 0 0 Jcw (Jfo ) s k) n (Je Ye N28 [.ptr 4464 [], .ptr 4465 [], .ptr 4466 [], .ow 5 4467 [] 0 v0 none, .sc (.int .u64 v1), .sc (.int .i64 v2)] [(4464, .box false 37 (PV.ar 37 v3)), (4465, .box false 118 (PV.ar 118 v4)), (4466, .box false 112 (PV.ar 112 v5)), (4467, .vec false 5 false v6)]) (Jz tau 0 Zh k) = Vh f (fun x0 x1 x2 x3 x4 => k (Ex.exit 2) (Je Zh N28 [.ptr 4464 [], .ptr 4465 [], .ptr 4466 [], .ow 5 4467 [] 0 x0 none] [(4464, .box false 37 (PV.ar 37 x1)), (4465, .box false 118 (PV.ar 118 x2)), (4466, .box false 112 (PV.ar 112 x3)), (4467, .vec false 5 false x4)])) n v0 v1 v2 v3 v4 v5 v6 | 0, _, _, _, _, _, _, _ => rfl | n + 1, v0, v1, v2, v3, v4, v5, v6 => (Jon f k n v0 v1 v2 v3 v4 v5 v6).trans (congrArg (fun r => VZ f r (fun x0 x1 x2 x3 x4 => k (Ex.exit 2) (Je Zh N28 [.ptr 4464 [], .ptr 4465 [], .ptr 4466 [], .ow 5 4467 [] 0 x0 none] [(4464, .box false 37 (PV.ar 37 x1)), (4465, .box false 118 (PV.ar 118 x2)), (4466, .box false 112 (PV.ar 112 x3)), (4467, .vec false 5 false x4)])) v0 v1 v2 v3 v4 v5 v6) (by funext v0 v1 v2 v3 v4 v5 v6; exact JiQ f k n v0 v1 v2 v3 v4 v5 v6))
def Jbw (f : Nat) : List PV → List (Nat × Ent) → Kont → Option Res
  | [.ptr 4464 [], .ptr 4465 [], .ptr 4466 [], .ow 5 4467 [] 0 v0 none, .sc (.int .u64 v1),
  PV.sc
    (Value.int IntKind.i64
      v2)], [(4464, .box false 37 (PV.ar 37 v3)), (4465, .box false 118 (PV.ar 118 v4)), (4466, .box false 112 (PV.ar 112 v5)),
  (4467,
    Ent.vec false 5 false
      v6)], k => Vh f (fun x0 x1 x2 x3 x4 => k (Ex.exit
  2) (Je Zh N28 [.ptr 4464 [], .ptr 4465 [], .ptr 4466 [],
  PV.ow 5 4467 [] 0 x0
    none] [(4464, .box false 37 (PV.ar 37 x1)), (4465, .box false 118 (PV.ar 118 x2)), (4466, .box false 112 (PV.ar 112 x3)), (4467, .vec false 5 false x4)])) f v0 v1 v2 v3 v4 v5 v6
  | _, _, _ => none
theorem Js7 (f : Nat) : Ji Jcw Jfo = [] := by kernel_rfl
theorem JxS (f : Nat) : (Item.l Jcw Ye N28 (Jbw f)).Ok tau Try.prog 0 := JM Js Yc Jt (x := Jfo) (nm2 := Zh) (Jr _ _ (by rw [Js7 f]; intro q hq; cases hq)) fun vs hp k res hr => by
  unfold Jbw at hr
  split at hr
  · exact ⟨f, 0, (JiQ f _ f _ _ _ _ _ _ _ ).trans hr⟩
  · cases hr
def V0 (f : Nat) (rc : Nat → Int → Int → List PV → List PV → List PV → List PV → List PV → Option Res) (k0 : Nat → Int → List PV → List PV → List PV → List PV → List PV → Option Res) (v0 : Nat) (v1 : Int) (v2 : Int) (v3 : List PV) (v4 : List PV) (v5 : List PV) (v6 : List PV) (v7 : List PV) : Option Res := bif decide (v2 < 16) then bif decide (0 ≤ IntKind.i64.wrap (v1 + IntKind.i64.wrap (4 * v2))) && decide (IntKind.i64.wrap (v1 + IntKind.i64.wrap (4 * v2)) < zi v0) && true then bif PV.isInt IntKind.u8 (Jn (v6.getD (0 + (IntKind.i64.wrap (v1 + IntKind.i64.wrap (4 * v2))).toNat) PV.top) []) && true then bif decide (0 ≤ IntKind.i64.wrap (IntKind.i64.wrap (v1 + IntKind.i64.wrap (4 * v2)) + 1)) && decide (IntKind.i64.wrap (IntKind.i64.wrap (v1 + IntKind.i64.wrap (4 * v2)) + 1) < zi v0) && true then bif PV.isInt IntKind.u8 (Jn (v6.getD (0 + (IntKind.i64.wrap (IntKind.i64.wrap (v1 + IntKind.i64.wrap (4 * v2)) + 1)).toNat) PV.top) []) && true then bif decide (0 ≤ IntKind.i64.wrap (IntKind.i64.wrap (v1 + IntKind.i64.wrap (4 * v2)) + 2)) && decide (IntKind.i64.wrap (IntKind.i64.wrap (v1 + IntKind.i64.wrap (4 * v2)) + 2) < zi v0) && true then bif PV.isInt IntKind.u8 (Jn (v6.getD (0 + (IntKind.i64.wrap (IntKind.i64.wrap (v1 + IntKind.i64.wrap (4 * v2)) + 2)).toNat) PV.top) []) && true then bif decide (0 ≤ IntKind.i64.wrap (IntKind.i64.wrap (v1 + IntKind.i64.wrap (4 * v2)) + 3)) && decide (IntKind.i64.wrap (IntKind.i64.wrap (v1 + IntKind.i64.wrap (4 * v2)) + 3) < zi v0) && true then bif PV.isInt IntKind.u8 (Jn (v6.getD (0 + (IntKind.i64.wrap (IntKind.i64.wrap (v1 + IntKind.i64.wrap (4 * v2)) + 3)).toNat) PV.top) []) && true then bif decide (0 ≤ v2) && decide (v2 < zi 64) && true then rc v0 v1 (IntKind.i64.wrap (v2 + 1)) v3 v4 v5 v6 (v7.set v2.toNat (.sc (.int .u32 (JE BinOp.or IntKind.u32 (JE BinOp.or IntKind.u32 (JE BinOp.or IntKind.u32 (Xk IntKind.u32 (IntKind.u32.wrap (Jn (v6.getD (0 + (IntKind.i64.wrap (v1 + IntKind.i64.wrap (4 * v2))).toNat) PV.top) []).int) 24) (Xk IntKind.u32 (IntKind.u32.wrap (Jn (v6.getD (0 + (IntKind.i64.wrap (IntKind.i64.wrap (v1 + IntKind.i64.wrap (4 * v2)) + 1)).toNat) PV.top) []).int) 16)) (Xk IntKind.u32 (IntKind.u32.wrap (Jn (v6.getD (0 + (IntKind.i64.wrap (IntKind.i64.wrap (v1 + IntKind.i64.wrap (4 * v2)) + 2)).toNat) PV.top) []).int) 8)) (IntKind.u32.wrap (Jn (v6.getD (0 + (IntKind.i64.wrap (IntKind.i64.wrap (v1 + IntKind.i64.wrap (4 * v2)) + 3)).toNat) PV.top) []).int))))) else none else none else none else none else none else none else none else none else none else k0 v0 v1 v3 v4 v5 v6 v7
def Vi (f : Nat) (k0 : Nat → Int → List PV → List PV → List PV → List PV → List PV → Option Res) : Nat → Nat → Int → Int → List PV → List PV → List PV → List PV → List PV → Option Res
  | 0, _, _, _, _, _, _, _, _ => none
  | n + 1, v0, v1, v2, v3, v4, v5, v6, v7 => V0 f (Vi f k0 n) k0 v0 v1 v2 v3 v4 v5 v6 v7
theorem Joo (f : Nat) (k : Kont) (n : Nat) (v0 : Nat) (v1 : Int) (v2 : Int) (v3 : List PV) (v4 : List PV) (v5 : List PV) (v6 : List PV) (v7 : List PV) : Jq tau 0 Yf (fun s k => ev tau F28 0 0 Jcx (Jfp ) s k) (n + 1) (Je Yf N28 [.ptr 4464 [], .ptr 4465 [], .ptr 4466 [], .ow 5 4467 [] 0 v0 none, .ptr 4468 [], .sc (.int .i64 v1), .sc (.int .i64 v2)] [(4464, .box false 37 (PV.ar 37 v3)), (4465, .box false 118 (PV.ar 118 v4)), (4466, .box false 112 (PV.ar 112 v5)), (4467, .vec false 5 false v6), (4468, .box false 118 (PV.ar 118 v7))]) (Jz tau 0 Zi k) = V0 f (fun v0 v1 v2 v3 v4 v5 v6 v7 => Jq tau 0 Yf (fun s k => ev tau F28 0 0 Jcx (Jfp ) s k) n (Je Yf N28 [.ptr 4464 [], .ptr 4465 [], .ptr 4466 [], .ow 5 4467 [] 0 v0 none, .ptr 4468 [], .sc (.int .i64 v1), .sc (.int .i64 v2)] [(4464, .box false 37 (PV.ar 37 v3)), (4465, .box false 118 (PV.ar 118 v4)), (4466, .box false 112 (PV.ar 112 v5)), (4467, .vec false 5 false v6), (4468, .box false 118 (PV.ar 118 v7))]) (Jz tau 0 Zi k)) (fun x0 x1 x2 x3 x4 x5 x6 => k (Ex.exit 6) (Je Zi N28 [.ptr 4464 [], .ptr 4465 [], .ptr 4466 [], .ow 5 4467 [] 0 x0 none, .ptr 4468 [], .sc (.int .i64 x1)] [(4464, .box false 37 (PV.ar 37 x2)), (4465, .box false 118 (PV.ar 118 x3)), (4466, .box false 112 (PV.ar 112 x4)), (4467, .vec false 5 false x5), (4468, .box false 118 (PV.ar 118 x6))])) v0 v1 v2 v3 v4 v5 v6 v7 := by kernel_rfl
theorem JiR (f : Nat) (k : Kont) : ∀ (n : Nat) (v0 : Nat) (v1 : Int) (v2 : Int) (v3 : List PV) (v4 : List PV) (v5 : List PV) (v6 : List PV) (v7 : List PV), Jq tau 0 Yf (fun s k => ev tau F28 0 0 Jcx (Jfp ) s k) n (Je Yf N28 [.ptr 4464 [], .ptr 4465 [], .ptr 4466 [], .ow 5 4467 [] 0 v0 none, .ptr 4468 [], .sc (.int .i64 v1), .sc (.int .i64 v2)] [(4464, .box false 37 (PV.ar 37 v3)), (4465, .box false 118 (PV.ar 118 v4)), (4466, .box false 112 (PV.ar 112 v5)), (4467, .vec false 5 false v6), (4468, .box false 118 (PV.ar 118 v7))]) (Jz tau 0 Zi k) = Vi f (fun x0 x1 x2 x3 x4 x5 x6 => k (Ex.exit 6) (Je Zi N28 [.ptr 4464 [], .ptr 4465 [], .ptr 4466 [], .ow 5 4467 [] 0 x0 none, .ptr 4468 [], .sc (.int .i64 x1)] [(4464, .box false 37 (PV.ar 37 x2)), (4465, .box false 118 (PV.ar 118 x3)), (4466, .box false 112 (PV.ar 112 x4)), (4467, .vec false 5 false x5), (4468, .box false 118 (PV.ar 118 x6))])) n v0 v1 v2 v3 v4 v5 v6 v7 | 0, _, _, _, _, _, _, _, _ => rfl | n + 1, v0, v1, v2, v3, v4, v5, v6, v7 => (Joo f k n v0 v1 v2 v3 v4 v5 v6 v7).trans (congrArg (fun r => V0 f r (fun x0 x1 x2 x3 x4 x5 x6 => k (Ex.exit 6) (Je Zi N28 [.ptr 4464 [], .ptr 4465 [], .ptr 4466 [], .ow 5 4467 [] 0 x0 none, .ptr 4468 [], .sc (.int .i64 x1)] [(4464, .box false 37 (PV.ar 37 x2)), (4465, .box false 118 (PV.ar 118 x3)), (4466, .box false 112 (PV.ar 112 x4)), (4467, .vec false 5 false x5), (4468, .box false 118 (PV.ar 118 x6))])) v0 v1 v2 v3 v4 v5 v6 v7) (by funext v0 v1 v2 v3 v4 v5 v6 v7; exact JiR f k n v0 v1 v2 v3 v4 v5 v6 v7))
def Jaa (f : Nat) : List PV → List (Nat × Ent) → Kont → Option Res
  | [.ptr 4464 [], .ptr 4465 [], .ptr 4466 [], .ow 5 4467 [] 0 v0 none, .ptr 4468 [], .sc (.int .i64 v1),
  PV.sc
    (Value.int IntKind.i64
      v2)], [(4464, .box false 37 (PV.ar 37 v3)), (4465, .box false 118 (PV.ar 118 v4)), (4466, .box false 112 (PV.ar 112 v5)), (4467, .vec false 5 false v6),
  (4468,
    Ent.box false 118
      (PV.ar 118
        v7))], k => Vi f (fun x0 x1 x2 x3 x4 x5 x6 => k (Ex.exit
  6) (Je Zi N28 [.ptr 4464 [], .ptr 4465 [], .ptr 4466 [], .ow 5 4467 [] 0 x0 none, .ptr 4468 [],
  PV.sc
    (Value.int IntKind.i64
      x1)] [(4464, .box false 37 (PV.ar 37 x2)), (4465, .box false 118 (PV.ar 118 x3)), (4466, .box false 112 (PV.ar 112 x4)), (4467, .vec false 5 false x5),
  (4468, .box false 118 (PV.ar 118 x6))])) f v0 v1 v2 v3 v4 v5 v6 v7
  | _, _, _ => none
theorem Js8 (f : Nat) : Ji Jcx Jfp = [] := by kernel_rfl
theorem JxT (f : Nat) : (Item.l Jcx Yf N28 (Jaa f)).Ok tau Try.prog 0 := JM Js Yc Jt (x := Jfp) (nm2 := Zi) (Jr _ _ (by rw [Js8 f]; intro q hq; cases hq)) fun vs hp k res hr => by
  unfold Jaa at hr
  split at hr
  · exact ⟨f, 0, (JiR f _ f _ _ _ _ _ _ _ _ ).trans hr⟩
  · cases hr
def V1 (f : Nat) (rc : Nat → Int → Int → List PV → List PV → List PV → List PV → List PV → Option Res) (k0 : Nat → Int → List PV → List PV → List PV → List PV → List PV → Option Res) (v0 : Nat) (v1 : Int) (v2 : Int) (v3 : List PV) (v4 : List PV) (v5 : List PV) (v6 : List PV) (v7 : List PV) : Option Res := bif decide (v2 < 64) then bif decide (0 ≤ IntKind.i64.wrap (v2 - 15)) && decide (IntKind.i64.wrap (v2 - 15) < zi 64) && true then bif PV.isInt IntKind.u32 (Jn (PV.ar 118 v7) [(IntKind.i64.wrap (v2 - 15)).toNat]) && true then bif decide (0 ≤ IntKind.i64.wrap (v2 - 2)) && decide (IntKind.i64.wrap (v2 - 2) < zi 64) && true then bif PV.isInt IntKind.u32 (Jn (PV.ar 118 v7) [(IntKind.i64.wrap (v2 - 2)).toNat]) && true then bif decide (0 ≤ IntKind.i64.wrap (v2 - 7)) && decide (IntKind.i64.wrap (v2 - 7) < zi 64) && true then bif PV.isInt IntKind.u32 (Jn (PV.ar 118 v7) [(IntKind.i64.wrap (v2 - 7)).toNat]) && true then bif decide (0 ≤ IntKind.i64.wrap (v2 - 16)) && decide (IntKind.i64.wrap (v2 - 16) < zi 64) && true then bif PV.isInt IntKind.u32 (Jn (PV.ar 118 v7) [(IntKind.i64.wrap (v2 - 16)).toNat]) && true then bif decide (0 ≤ v2) && decide (v2 < zi 64) && true then rc v0 v1 (IntKind.i64.wrap (v2 + 1)) v3 v4 v5 v6 (v7.set v2.toNat (.sc (.int .u32 (IntKind.u32.wrap (IntKind.u32.wrap (IntKind.u32.wrap (JE BinOp.xor IntKind.u32 (JE BinOp.xor IntKind.u32 (rr (Jn (PV.ar 118 v7) [(IntKind.i64.wrap (v2 - 2)).toNat]).int 17) (rr (Jn (PV.ar 118 v7) [(IntKind.i64.wrap (v2 - 2)).toNat]).int 19)) (JB IntKind.u32 (Jn (PV.ar 118 v7) [(IntKind.i64.wrap (v2 - 2)).toNat]).int 10) + (Jn (PV.ar 118 v7) [(IntKind.i64.wrap (v2 - 7)).toNat]).int) + JE BinOp.xor IntKind.u32 (JE BinOp.xor IntKind.u32 (rr (Jn (PV.ar 118 v7) [(IntKind.i64.wrap (v2 - 15)).toNat]).int 7) (rr (Jn (PV.ar 118 v7) [(IntKind.i64.wrap (v2 - 15)).toNat]).int 18)) (JB IntKind.u32 (Jn (PV.ar 118 v7) [(IntKind.i64.wrap (v2 - 15)).toNat]).int 3)) + (Jn (PV.ar 118 v7) [(IntKind.i64.wrap (v2 - 16)).toNat]).int))))) else none else none else none else none else none else none else none else none else none else k0 v0 v1 v3 v4 v5 v6 v7
def Vj (f : Nat) (k0 : Nat → Int → List PV → List PV → List PV → List PV → List PV → Option Res) : Nat → Nat → Int → Int → List PV → List PV → List PV → List PV → List PV → Option Res
  | 0, _, _, _, _, _, _, _, _ => none
  | n + 1, v0, v1, v2, v3, v4, v5, v6, v7 => V1 f (Vj f k0 n) k0 v0 v1 v2 v3 v4 v5 v6 v7
theorem Jop (f : Nat) (k : Kont) (n : Nat) (v0 : Nat) (v1 : Int) (v2 : Int) (v3 : List PV) (v4 : List PV) (v5 : List PV) (v6 : List PV) (v7 : List PV) : Jq tau 0 Yg (fun s k => ev tau F28 0 0 Jcy (Jfq ) s k) (n + 1) (Je Yg N28 [.ptr 4464 [], .ptr 4465 [], .ptr 4466 [], .ow 5 4467 [] 0 v0 none, .ptr 4468 [], .sc (.int .i64 v1), .sc (.int .i64 v2)] [(4464, .box false 37 (PV.ar 37 v3)), (4465, .box false 118 (PV.ar 118 v4)), (4466, .box false 112 (PV.ar 112 v5)), (4467, .vec false 5 false v6), (4468, .box false 118 (PV.ar 118 v7))]) (Jz tau 0 Zj k) = V1 f (fun v0 v1 v2 v3 v4 v5 v6 v7 => Jq tau 0 Yg (fun s k => ev tau F28 0 0 Jcy (Jfq ) s k) n (Je Yg N28 [.ptr 4464 [], .ptr 4465 [], .ptr 4466 [], .ow 5 4467 [] 0 v0 none, .ptr 4468 [], .sc (.int .i64 v1), .sc (.int .i64 v2)] [(4464, .box false 37 (PV.ar 37 v3)), (4465, .box false 118 (PV.ar 118 v4)), (4466, .box false 112 (PV.ar 112 v5)), (4467, .vec false 5 false v6), (4468, .box false 118 (PV.ar 118 v7))]) (Jz tau 0 Zj k)) (fun x0 x1 x2 x3 x4 x5 x6 => k (Ex.exit 8) (Je Zj N28 [.ptr 4464 [], .ptr 4465 [], .ptr 4466 [], .ow 5 4467 [] 0 x0 none, .ptr 4468 [], .sc (.int .i64 x1)] [(4464, .box false 37 (PV.ar 37 x2)), (4465, .box false 118 (PV.ar 118 x3)), (4466, .box false 112 (PV.ar 112 x4)), (4467, .vec false 5 false x5), (4468, .box false 118 (PV.ar 118 x6))])) v0 v1 v2 v3 v4 v5 v6 v7 := by kernel_rfl
theorem JiS (f : Nat) (k : Kont) : ∀ (n : Nat) (v0 : Nat) (v1 : Int) (v2 : Int) (v3 : List PV) (v4 : List PV) (v5 : List PV) (v6 : List PV) (v7 : List PV), Jq tau 0 Yg (fun s k => ev tau F28 0 0 Jcy (Jfq ) s k) n (Je Yg N28 [.ptr 4464 [], .ptr 4465 [], .ptr 4466 [], .ow 5 4467 [] 0 v0 none, .ptr 4468 [], .sc (.int .i64 v1), .sc (.int .i64 v2)] [(4464, .box false 37 (PV.ar 37 v3)), (4465, .box false 118 (PV.ar 118 v4)), (4466, .box false 112 (PV.ar 112 v5)), (4467, .vec false 5 false v6), (4468, .box false 118 (PV.ar 118 v7))]) (Jz tau 0 Zj k) = Vj f (fun x0 x1 x2 x3 x4 x5 x6 => k (Ex.exit 8) (Je Zj N28 [.ptr 4464 [], .ptr 4465 [], .ptr 4466 [], .ow 5 4467 [] 0 x0 none, .ptr 4468 [], .sc (.int .i64 x1)] [(4464, .box false 37 (PV.ar 37 x2)), (4465, .box false 118 (PV.ar 118 x3)), (4466, .box false 112 (PV.ar 112 x4)), (4467, .vec false 5 false x5), (4468, .box false 118 (PV.ar 118 x6))])) n v0 v1 v2 v3 v4 v5 v6 v7 | 0, _, _, _, _, _, _, _, _ => rfl | n + 1, v0, v1, v2, v3, v4, v5, v6, v7 => (Jop f k n v0 v1 v2 v3 v4 v5 v6 v7).trans (congrArg (fun r => V1 f r (fun x0 x1 x2 x3 x4 x5 x6 => k (Ex.exit 8) (Je Zj N28 [.ptr 4464 [], .ptr 4465 [], .ptr 4466 [], .ow 5 4467 [] 0 x0 none, .ptr 4468 [], .sc (.int .i64 x1)] [(4464, .box false 37 (PV.ar 37 x2)), (4465, .box false 118 (PV.ar 118 x3)), (4466, .box false 112 (PV.ar 112 x4)), (4467, .vec false 5 false x5), (4468, .box false 118 (PV.ar 118 x6))])) v0 v1 v2 v3 v4 v5 v6 v7) (by funext v0 v1 v2 v3 v4 v5 v6 v7; exact JiS f k n v0 v1 v2 v3 v4 v5 v6 v7))
def Jab (f : Nat) : List PV → List (Nat × Ent) → Kont → Option Res
  | [.ptr 4464 [], .ptr 4465 [], .ptr 4466 [], .ow 5 4467 [] 0 v0 none, .ptr 4468 [], .sc (.int .i64 v1),
  PV.sc
    (Value.int IntKind.i64
      v2)], [(4464, .box false 37 (PV.ar 37 v3)), (4465, .box false 118 (PV.ar 118 v4)), (4466, .box false 112 (PV.ar 112 v5)), (4467, .vec false 5 false v6),
  (4468,
    Ent.box false 118
      (PV.ar 118
        v7))], k => Vj f (fun x0 x1 x2 x3 x4 x5 x6 => k (Ex.exit
  8) (Je Zj N28 [.ptr 4464 [], .ptr 4465 [], .ptr 4466 [], .ow 5 4467 [] 0 x0 none, .ptr 4468 [],
  PV.sc
    (Value.int IntKind.i64
      x1)] [(4464, .box false 37 (PV.ar 37 x2)), (4465, .box false 118 (PV.ar 118 x3)), (4466, .box false 112 (PV.ar 112 x4)), (4467, .vec false 5 false x5),
  (4468, .box false 118 (PV.ar 118 x6))])) f v0 v1 v2 v3 v4 v5 v6 v7
  | _, _, _ => none
theorem Js9 (f : Nat) : Ji Jcy Jfq = [] := by kernel_rfl
theorem JxU (f : Nat) : (Item.l Jcy Yg N28 (Jab f)).Ok tau Try.prog 0 := JM Js Yc Jt (x := Jfq) (nm2 := Zj) (Jr _ _ (by rw [Js9 f]; intro q hq; cases hq)) fun vs hp k res hr => by
  unfold Jab at hr
  split at hr
  · exact ⟨f, 0, (JiS f _ f _ _ _ _ _ _ _ _ ).trans hr⟩
  · cases hr
def V2 (f : Nat) (rc : Nat → Int → Int → List PV → List PV → List PV → List PV → List PV → List PV → Option Res) (k0 : Nat → Int → List PV → List PV → List PV → List PV → List PV → List PV → Option Res) (v0 : Nat) (v1 : Int) (v2 : Int) (v3 : List PV) (v4 : List PV) (v5 : List PV) (v6 : List PV) (v7 : List PV) (v8 : List PV) : Option Res := bif decide (v2 < 64) then bif PV.isInt IntKind.u32 (Jn (PV.ar 112 v8) [4]) && true then bif PV.isInt IntKind.u32 (Jn (PV.ar 112 v8) [7]) && true then bif PV.isInt IntKind.u32 (Jn (PV.ar 112 v8) [5]) && true then bif PV.isInt IntKind.u32 (Jn (PV.ar 112 v8) [6]) && true then bif decide (0 ≤ v2) && decide (v2 < zi 64) && true then bif PV.isInt IntKind.u32 (Jn (PV.ar 118 v4) [v2.toNat]) && true then bif decide (0 ≤ v2) && decide (v2 < zi 64) && true then bif PV.isInt IntKind.u32 (Jn (PV.ar 118 v7) [v2.toNat]) && true then bif PV.isInt IntKind.u32 (Jn (PV.ar 112 v8) [0]) && true then bif PV.isInt IntKind.u32 (Jn (PV.ar 112 v8) [0]) && true then bif PV.isInt IntKind.u32 (Jn (PV.ar 112 v8) [0]) && true then bif PV.isInt IntKind.u32 (Jn (PV.ar 112 v8) [0]) && true then bif PV.isInt IntKind.u32 (Jn (PV.ar 112 v8) [1]) && true then bif PV.isInt IntKind.u32 (Jn (PV.ar 112 v8) [0]) && true then bif PV.isInt IntKind.u32 (Jn (PV.ar 112 v8) [2]) && true then bif PV.isInt IntKind.u32 (Jn (PV.ar 112 v8) [1]) && true then bif PV.isInt IntKind.u32 (Jn (PV.ar 112 v8) [2]) && true then bif PV.isInt IntKind.u32 (Jn (PV.ar 112 v8) [0]) && true then bif PV.isInt IntKind.u32 (Jn (PV.ar 112 v8) [1]) && true then bif PV.isInt IntKind.u32 (Jn (PV.ar 112 v8) [2]) && true then bif PV.isInt IntKind.u32 (Jn (PV.ar 112 v8) [3]) && true then bif PV.isInt IntKind.u32 (Jn (PV.ar 112 v8) [4]) && true then bif PV.isInt IntKind.u32 (Jn (PV.ar 112 v8) [5]) && true then bif PV.isInt IntKind.u32 (Jn (PV.ar 112 v8) [6]) && true then rc v0 v1 (IntKind.i64.wrap (v2 + 1)) v3 v4 v5 v6 v7 ([.sc (.int .u32 (IntKind.u32.wrap (IntKind.u32.wrap (IntKind.u32.wrap (IntKind.u32.wrap (IntKind.u32.wrap ((Jn (PV.ar 112 v8) [7]).int + JE BinOp.xor IntKind.u32 (JE BinOp.xor IntKind.u32 (rr (Jn (PV.ar 112 v8) [4]).int 6) (rr (Jn (PV.ar 112 v8) [4]).int 11)) (rr (Jn (PV.ar 112 v8) [4]).int 25)) + JE BinOp.xor IntKind.u32 (JE BinOp.and IntKind.u32 (Jn (PV.ar 112 v8) [4]).int (Jn (PV.ar 112 v8) [5]).int) (JE BinOp.and IntKind.u32 (JE BinOp.xor IntKind.u32 (Int.ofNat (2 ^ IntKind.u32.bits - Nat.succ 0)) (Jn (PV.ar 112 v8) [4]).int) (Jn (PV.ar 112 v8) [6]).int)) + (Jn (PV.ar 118 v4) [v2.toNat]).int) + (Jn (PV.ar 118 v7) [v2.toNat]).int) + IntKind.u32.wrap (JE BinOp.xor IntKind.u32 (JE BinOp.xor IntKind.u32 (rr (Jn (PV.ar 112 v8) [0]).int 2) (rr (Jn (PV.ar 112 v8) [0]).int 13)) (rr (Jn (PV.ar 112 v8) [0]).int 22) + JE BinOp.xor IntKind.u32 (JE BinOp.xor IntKind.u32 (JE BinOp.and IntKind.u32 (Jn (PV.ar 112 v8) [0]).int (Jn (PV.ar 112 v8) [1]).int) (JE BinOp.and IntKind.u32 (Jn (PV.ar 112 v8) [0]).int (Jn (PV.ar 112 v8) [2]).int)) (JE BinOp.and IntKind.u32 (Jn (PV.ar 112 v8) [1]).int (Jn (PV.ar 112 v8) [2]).int))))), .sc (.int .u32 (Jn (PV.ar 112 v8) [0]).int), .sc (.int .u32 (Jn (PV.ar 112 v8) [1]).int), .sc (.int .u32 (Jn (PV.ar 112 v8) [2]).int), .sc (.int .u32 (IntKind.u32.wrap ((Jn (PV.ar 112 v8) [3]).int + IntKind.u32.wrap (IntKind.u32.wrap (IntKind.u32.wrap (IntKind.u32.wrap ((Jn (PV.ar 112 v8) [7]).int + JE BinOp.xor IntKind.u32 (JE BinOp.xor IntKind.u32 (rr (Jn (PV.ar 112 v8) [4]).int 6) (rr (Jn (PV.ar 112 v8) [4]).int 11)) (rr (Jn (PV.ar 112 v8) [4]).int 25)) + JE BinOp.xor IntKind.u32 (JE BinOp.and IntKind.u32 (Jn (PV.ar 112 v8) [4]).int (Jn (PV.ar 112 v8) [5]).int) (JE BinOp.and IntKind.u32 (JE BinOp.xor IntKind.u32 (Int.ofNat (2 ^ IntKind.u32.bits - Nat.succ 0)) (Jn (PV.ar 112 v8) [4]).int) (Jn (PV.ar 112 v8) [6]).int)) + (Jn (PV.ar 118 v4) [v2.toNat]).int) + (Jn (PV.ar 118 v7) [v2.toNat]).int)))), .sc (.int .u32 (Jn (PV.ar 112 v8) [4]).int), .sc (.int .u32 (Jn (PV.ar 112 v8) [5]).int), .sc (.int .u32 (Jn (PV.ar 112 v8) [6]).int)]) else none else none else none else none else none else none else none else none else none else none else none else none else none else none else none else none else none else none else none else none else none else none else none else none else k0 v0 v1 v3 v4 v5 v6 v7 v8
def Vk (f : Nat) (k0 : Nat → Int → List
  PV → List PV → List PV → List PV → List PV → List PV → Option Res) : Nat → Nat → Int → Int → List PV → List PV → List PV → List PV → List PV → List PV → Option Res
  | 0, _, _, _, _, _, _, _, _, _ => none
  | n + 1, v0, v1, v2, v3, v4, v5, v6, v7, v8 => V2 f (Vk f k0 n) k0 v0 v1 v2 v3 v4 v5 v6 v7 v8
theorem Joq (f : Nat) (k : Kont) (n : Nat) (v0 : Nat) (v1 : Int) (v2 : Int) (v3 : List PV) (v4 : List PV) (v5 : List PV) (v6 : List PV) (v7 : List PV) (v8 : List PV) : Jq tau 0 Yh (fun s k => ev tau F28 0 0 Jcz (Jfr ) s k) (n + 1) (Je Yh N28 [.ptr 4464 [], .ptr 4465 [], .ptr 4466 [], .ow 5 4467 [] 0 v0 none, .ptr 4468 [], .sc (.int .i64 v1), .ptr 4469 [], .sc (.int .i64 v2)] [(4464, .box false 37 (PV.ar 37 v3)), (4465, .box false 118 (PV.ar 118 v4)), (4466, .box false 112 (PV.ar 112 v5)), (4467, .vec false 5 false v6), (4468, .box false 118 (PV.ar 118 v7)), (4469, .box false 112 (PV.ar 112 v8))]) (Jz tau 0 Zk k) = V2 f (fun v0 v1 v2 v3 v4 v5 v6 v7 v8 => Jq tau 0 Yh (fun s k => ev tau F28 0 0 Jcz (Jfr ) s k) n (Je Yh N28 [.ptr 4464 [], .ptr 4465 [], .ptr 4466 [], .ow 5 4467 [] 0 v0 none, .ptr 4468 [], .sc (.int .i64 v1), .ptr 4469 [], .sc (.int .i64 v2)] [(4464, .box false 37 (PV.ar 37 v3)), (4465, .box false 118 (PV.ar 118 v4)), (4466, .box false 112 (PV.ar 112 v5)), (4467, .vec false 5 false v6), (4468, .box false 118 (PV.ar 118 v7)), (4469, .box false 112 (PV.ar 112 v8))]) (Jz tau 0 Zk k)) (fun x0 x1 x2 x3 x4 x5 x6 x7 => k (Ex.exit 10) (Je Zk N28 [.ptr 4464 [], .ptr 4465 [], .ptr 4466 [], .ow 5 4467 [] 0 x0 none, .ptr 4468 [], .sc (.int .i64 x1), .ptr 4469 []] [(4464, .box false 37 (PV.ar 37 x2)), (4465, .box false 118 (PV.ar 118 x3)), (4466, .box false 112 (PV.ar 112 x4)), (4467, .vec false 5 false x5), (4468, .box false 118 (PV.ar 118 x6)), (4469, .box false 112 (PV.ar 112 x7))])) v0 v1 v2 v3 v4 v5 v6 v7 v8 := by kernel_rfl
theorem JiT (f : Nat) (k : Kont) : ∀ (n : Nat) (v0 : Nat) (v1 : Int) (v2 : Int) (v3 : List PV) (v4 : List PV) (v5 : List PV) (v6 : List PV) (v7 : List PV) (v8 : List PV), Jq tau 0 Yh (fun s k => ev tau F28 0 0 Jcz (Jfr ) s k) n (Je Yh N28 [.ptr 4464 [], .ptr 4465 [], .ptr 4466 [], .ow 5 4467 [] 0 v0 none, .ptr 4468 [], .sc (.int .i64 v1), .ptr 4469 [], .sc (.int .i64 v2)] [(4464, .box false 37 (PV.ar 37 v3)), (4465, .box false 118 (PV.ar 118 v4)), (4466, .box false 112 (PV.ar 112 v5)), (4467, .vec false 5 false v6), (4468, .box false 118 (PV.ar 118 v7)), (4469, .box false 112 (PV.ar 112 v8))]) (Jz tau 0 Zk k) = Vk f (fun x0 x1 x2 x3 x4 x5 x6 x7 => k (Ex.exit 10) (Je Zk N28 [.ptr 4464 [], .ptr 4465 [], .ptr 4466 [], .ow 5 4467 [] 0 x0 none, .ptr 4468 [], .sc (.int .i64 x1), .ptr 4469 []] [(4464, .box false 37 (PV.ar 37 x2)), (4465, .box false 118 (PV.ar 118 x3)), (4466, .box false 112 (PV.ar 112 x4)), (4467, .vec false 5 false x5), (4468, .box false 118 (PV.ar 118 x6)), (4469, .box false 112 (PV.ar 112 x7))])) n v0 v1 v2 v3 v4 v5 v6 v7 v8 | 0, _, _, _, _, _, _, _, _, _ => rfl | n + 1, v0, v1, v2, v3, v4, v5, v6, v7, v8 => (Joq f k n v0 v1 v2 v3 v4 v5 v6 v7 v8).trans (congrArg (fun r => V2 f r (fun x0 x1 x2 x3 x4 x5 x6 x7 => k (Ex.exit 10) (Je Zk N28 [.ptr 4464 [], .ptr 4465 [], .ptr 4466 [], .ow 5 4467 [] 0 x0 none, .ptr 4468 [], .sc (.int .i64 x1), .ptr 4469 []] [(4464, .box false 37 (PV.ar 37 x2)), (4465, .box false 118 (PV.ar 118 x3)), (4466, .box false 112 (PV.ar 112 x4)), (4467, .vec false 5 false x5), (4468, .box false 118 (PV.ar 118 x6)), (4469, .box false 112 (PV.ar 112 x7))])) v0 v1 v2 v3 v4 v5 v6 v7 v8) (by funext v0 v1 v2 v3 v4 v5 v6 v7 v8; exact JiT f k n v0 v1 v2 v3 v4 v5 v6 v7 v8))
def Jac (f : Nat) : List PV → List (Nat × Ent) → Kont → Option Res
  | [.ptr 4464 [], .ptr 4465 [], .ptr 4466 [], .ow 5 4467 [] 0 v0 none, .ptr 4468 [], .sc (.int .i64 v1), .ptr 4469 [],
  PV.sc
    (Value.int IntKind.i64
      v2)], [(4464, .box false 37 (PV.ar 37 v3)), (4465, .box false 118 (PV.ar 118 v4)), (4466, .box false 112 (PV.ar 112 v5)), (4467, .vec false 5 false v6),
  (4468, .box false 118 (PV.ar 118 v7)),
  (4469,
    Ent.box false 112
      (PV.ar 112
        v8))], k => Vk f (fun x0 x1 x2 x3 x4 x5 x6 x7 => k (Ex.exit
  10) (Je Zk N28 [.ptr 4464 [], .ptr 4465 [], .ptr 4466 [], .ow 5 4467 [] 0 x0 none, .ptr 4468 [], .sc (.int .i64 x1),
  PV.ptr 4469
    []] [(4464, .box false 37 (PV.ar 37 x2)), (4465, .box false 118 (PV.ar 118 x3)), (4466, .box false 112 (PV.ar 112 x4)), (4467, .vec false 5 false x5),
  (4468, .box false 118 (PV.ar 118 x6)), (4469, .box false 112 (PV.ar 112 x7))])) f v0 v1 v2 v3 v4 v5 v6 v7 v8
  | _, _, _ => none
theorem Jta (f : Nat) : Ji Jcz Jfr = [] := by kernel_rfl
theorem JxV (f : Nat) : (Item.l Jcz Yh N28 (Jac f)).Ok tau Try.prog 0 := JM Js Yc Jt (x := Jfr) (nm2 := Zk) (Jr _ _ (by rw [Jta f]; intro q hq; cases hq)) fun vs hp k res hr => by
  unfold Jac at hr
  split at hr
  · exact ⟨f, 0, (JiT f _ f _ _ _ _ _ _ _ _ _ ).trans hr⟩
  · cases hr
def V3 (f : Nat) (rc : Nat → Int → Int → List PV → List PV → List PV → List PV → List PV → List PV → Option Res) (k0 : Nat → Int → List PV → List PV → List PV → List PV → List PV → Option Res) (v0 : Nat) (v1 : Int) (v2 : Int) (v3 : List PV) (v4 : List PV) (v5 : List PV) (v6 : List PV) (v7 : List PV) (v8 : List PV) : Option Res := bif decide (v2 < 8) then bif decide (0 ≤ v2) && decide (v2 < zi 8) && true then bif PV.isInt IntKind.u32 (Jn (PV.ar 112 v5) [v2.toNat]) && true then bif decide (0 ≤ v2) && decide (v2 < zi 8) && true then bif PV.isInt IntKind.u32 (Jn (PV.ar 112 v8) [v2.toNat]) && true then bif decide (0 ≤ v2) && decide (v2 < zi 8) && true then rc v0 v1 (IntKind.i64.wrap (v2 + 1)) v3 v4 (v5.set v2.toNat (.sc (.int .u32 (IntKind.u32.wrap ((Jn (PV.ar 112 v5) [v2.toNat]).int + (Jn (PV.ar 112 v8) [v2.toNat]).int))))) v6 v7 v8 else none else none else none else none else none else k0 v0 v1 v3 v4 v5 v6 v7
def Vl (f : Nat) (k0 : Nat → Int → List PV → List PV → List PV → List PV → List PV → Option Res) : Nat → Nat → Int → Int → List PV → List PV → List PV → List PV → List PV → List PV → Option Res
  | 0, _, _, _, _, _, _, _, _, _ => none
  | n + 1, v0, v1, v2, v3, v4, v5, v6, v7, v8 => V3 f (Vl f k0 n) k0 v0 v1 v2 v3 v4 v5 v6 v7 v8
theorem Jor (f : Nat) (k : Kont) (n : Nat) (v0 : Nat) (v1 : Int) (v2 : Int) (v3 : List PV) (v4 : List PV) (v5 : List PV) (v6 : List PV) (v7 : List PV) (v8 : List PV) : Jq tau 0 Yi (fun s k => ev tau F28 0 0 JcA (Jfs ) s k) (n + 1) (Je Yi N28 [.ptr 4464 [], .ptr 4465 [], .ptr 4466 [], .ow 5 4467 [] 0 v0 none, .ptr 4468 [], .sc (.int .i64 v1), .ptr 4469 [], .sc (.int .i64 v2)] [(4464, .box false 37 (PV.ar 37 v3)), (4465, .box false 118 (PV.ar 118 v4)), (4466, .box false 112 (PV.ar 112 v5)), (4467, .vec false 5 false v6), (4468, .box false 118 (PV.ar 118 v7)), (4469, .box false 112 (PV.ar 112 v8))]) (Jz tau 0 Zl k) = V3 f (fun v0 v1 v2 v3 v4 v5 v6 v7 v8 => Jq tau 0 Yi (fun s k => ev tau F28 0 0 JcA (Jfs ) s k) n (Je Yi N28 [.ptr 4464 [], .ptr 4465 [], .ptr 4466 [], .ow 5 4467 [] 0 v0 none, .ptr 4468 [], .sc (.int .i64 v1), .ptr 4469 [], .sc (.int .i64 v2)] [(4464, .box false 37 (PV.ar 37 v3)), (4465, .box false 118 (PV.ar 118 v4)), (4466, .box false 112 (PV.ar 112 v5)), (4467, .vec false 5 false v6), (4468, .box false 118 (PV.ar 118 v7)), (4469, .box false 112 (PV.ar 112 v8))]) (Jz tau 0 Zl k)) (fun x0 x1 x2 x3 x4 x5 x6 => k (Ex.exit 12) (Je Zl N28 [.ptr 4464 [], .ptr 4465 [], .ptr 4466 [], .ow 5 4467 [] 0 x0 none, .ptr 4468 [], .sc (.int .i64 x1)] [(4464, .box false 37 (PV.ar 37 x2)), (4465, .box false 118 (PV.ar 118 x3)), (4466, .box false 112 (PV.ar 112 x4)), (4467, .vec false 5 false x5), (4468, .box false 118 (PV.ar 118 x6))])) v0 v1 v2 v3 v4 v5 v6 v7 v8 := by kernel_rfl
theorem JiU (f : Nat) (k : Kont) : ∀ (n : Nat) (v0 : Nat) (v1 : Int) (v2 : Int) (v3 : List PV) (v4 : List PV) (v5 : List PV) (v6 : List PV) (v7 : List PV) (v8 : List PV), Jq tau 0 Yi (fun s k => ev tau F28 0 0 JcA (Jfs ) s k) n (Je Yi N28 [.ptr 4464 [], .ptr 4465 [], .ptr 4466 [], .ow 5 4467 [] 0 v0 none, .ptr 4468 [], .sc (.int .i64 v1), .ptr 4469 [], .sc (.int .i64 v2)] [(4464, .box false 37 (PV.ar 37 v3)), (4465, .box false 118 (PV.ar 118 v4)), (4466, .box false 112 (PV.ar 112 v5)), (4467, .vec false 5 false v6), (4468, .box false 118 (PV.ar 118 v7)), (4469, .box false 112 (PV.ar 112 v8))]) (Jz tau 0 Zl k) = Vl f (fun x0 x1 x2 x3 x4 x5 x6 => k (Ex.exit 12) (Je Zl N28 [.ptr 4464 [], .ptr 4465 [], .ptr 4466 [], .ow 5 4467 [] 0 x0 none, .ptr 4468 [], .sc (.int .i64 x1)] [(4464, .box false 37 (PV.ar 37 x2)), (4465, .box false 118 (PV.ar 118 x3)), (4466, .box false 112 (PV.ar 112 x4)), (4467, .vec false 5 false x5), (4468, .box false 118 (PV.ar 118 x6))])) n v0 v1 v2 v3 v4 v5 v6 v7 v8 | 0, _, _, _, _, _, _, _, _, _ => rfl | n + 1, v0, v1, v2, v3, v4, v5, v6, v7, v8 => (Jor f k n v0 v1 v2 v3 v4 v5 v6 v7 v8).trans (congrArg (fun r => V3 f r (fun x0 x1 x2 x3 x4 x5 x6 => k (Ex.exit 12) (Je Zl N28 [.ptr 4464 [], .ptr 4465 [], .ptr 4466 [], .ow 5 4467 [] 0 x0 none, .ptr 4468 [], .sc (.int .i64 x1)] [(4464, .box false 37 (PV.ar 37 x2)), (4465, .box false 118 (PV.ar 118 x3)), (4466, .box false 112 (PV.ar 112 x4)), (4467, .vec false 5 false x5), (4468, .box false 118 (PV.ar 118 x6))])) v0 v1 v2 v3 v4 v5 v6 v7 v8) (by funext v0 v1 v2 v3 v4 v5 v6 v7 v8; exact JiU f k n v0 v1 v2 v3 v4 v5 v6 v7 v8))
def Jad (f : Nat) : List PV → List (Nat × Ent) → Kont → Option Res
  | [.ptr 4464 [], .ptr 4465 [], .ptr 4466 [], .ow 5 4467 [] 0 v0 none, .ptr 4468 [], .sc (.int .i64 v1), .ptr 4469 [],
  PV.sc
    (Value.int IntKind.i64
      v2)], [(4464, .box false 37 (PV.ar 37 v3)), (4465, .box false 118 (PV.ar 118 v4)), (4466, .box false 112 (PV.ar 112 v5)), (4467, .vec false 5 false v6),
  (4468, .box false 118 (PV.ar 118 v7)),
  (4469,
    Ent.box false 112
      (PV.ar 112
        v8))], k => Vl f (fun x0 x1 x2 x3 x4 x5 x6 => k (Ex.exit
  12) (Je Zl N28 [.ptr 4464 [], .ptr 4465 [], .ptr 4466 [], .ow 5 4467 [] 0 x0 none, .ptr 4468 [],
  PV.sc
    (Value.int IntKind.i64
      x1)] [(4464, .box false 37 (PV.ar 37 x2)), (4465, .box false 118 (PV.ar 118 x3)), (4466, .box false 112 (PV.ar 112 x4)), (4467, .vec false 5 false x5),
  (4468, .box false 118 (PV.ar 118 x6))])) f v0 v1 v2 v3 v4 v5 v6 v7 v8
  | _, _, _ => none
theorem Jtb (f : Nat) : Ji JcA Jfs = [] := by kernel_rfl
theorem JxW (f : Nat) : (Item.l JcA Yi N28 (Jad f)).Ok tau Try.prog 0 := JM Js Yc Jt (x := Jfs) (nm2 := Zl) (Jr _ _ (by rw [Jtb f]; intro q hq; cases hq)) fun vs hp k res hr => by
  unfold Jad at hr
  split at hr
  · exact ⟨f, 0, (JiU f _ f _ _ _ _ _ _ _ _ _ ).trans hr⟩
  · cases hr
def V4 (f : Nat) (rc : Nat → Int → List PV → List PV → List PV → List PV → List PV → Option Res) (k0 : List PV → List PV → Option Res) (v0 : Nat) (v1 : Int) (v2 : List PV) (v3 : List PV) (v4 : List PV) (v5 : List PV) (v6 : List PV) : Option Res := bif decide (v1 < zi v0) then Vi f (fun x0_2 x1_2 x2_2 x3_2 x4_2 x5_2 x6_2 => Vj f (fun x0_3 x1_3 x2_3 x3_3 x4_3 x5_3 x6_3 => Vk f (fun x0_4 x1_4 x2_4 x3_4 x4_4 x5_4 x6_4 x7_4 => Vl f (fun x0_5 x1_5 x2_5 x3_5 x4_5 x5_5 x6_5 => rc x0_5 (IntKind.i64.wrap (x1_5 + 64)) x2_5 x3_5 x4_5 x5_5 x6_5) f x0_4 x1_4 (0) x2_4 x3_4 x4_4 x5_4 x6_4 x7_4) f x0_3 x1_3 (0) x2_3 x3_3 x4_3 x5_3 x6_3 x4_3) f x0_2 x1_2 (16) x2_2 x3_2 x4_2 x5_2 x6_2) f v0 v1 (0) v2 v3 v4 v5 v6 else k0 v2 v4
def Vm (f : Nat) (k0 : List PV → List PV → Option Res) : Nat → Nat → Int → List PV → List PV → List PV → List PV → List PV → Option Res
  | 0, _, _, _, _, _, _, _ => none
  | n + 1, v0, v1, v2, v3, v4, v5, v6 => V4 f (Vm f k0 n) k0 v0 v1 v2 v3 v4 v5 v6
theorem Jos (f : Nat) (k : Kont) (n : Nat) (v0 : Nat) (v1 : Int) (v2 : List PV) (v3 : List PV) (v4 : List PV) (v5 : List PV) (v6 : List PV) : Jq tau 0 Yj (fun s k => ev tau F28 0 0 JcB (Jft (Jaa f) (Jab f) (Jac f) (Jad f)) s k) (n + 1) (Je Yj N28 [.ptr 4464 [], .ptr 4465 [], .ptr 4466 [], .ow 5 4467 [] 0 v0 none, .ptr 4468 [], .sc (.int .i64 v1)] [(4464, .box false 37 (PV.ar 37 v2)), (4465, .box false 118 (PV.ar 118 v3)), (4466, .box false 112 (PV.ar 112 v4)), (4467, .vec false 5 false v5), (4468, .box false 118 (PV.ar 118 v6))]) (Jz tau 0 Zm k) = V4 f (fun v0 v1 v2 v3 v4 v5 v6 => Jq tau 0 Yj (fun s k => ev tau F28 0 0 JcB (Jft (Jaa f) (Jab f) (Jac f) (Jad f)) s k) n (Je Yj N28 [.ptr 4464 [], .ptr 4465 [], .ptr 4466 [], .ow 5 4467 [] 0 v0 none, .ptr 4468 [], .sc (.int .i64 v1)] [(4464, .box false 37 (PV.ar 37 v2)), (4465, .box false 118 (PV.ar 118 v3)), (4466, .box false 112 (PV.ar 112 v4)), (4467, .vec false 5 false v5), (4468, .box false 118 (PV.ar 118 v6))]) (Jz tau 0 Zm k)) (fun x0 x1 => k (Ex.exit 4) (Je Zm N28 [.ptr 4464 [], .ptr 4465 []] [(4464, .box false 37 (PV.ar 37 x0)), (4465, .box false 112 (PV.ar 112 x1))])) v0 v1 v2 v3 v4 v5 v6 := by kernel_rfl
theorem JiV (f : Nat) (k : Kont) : ∀ (n : Nat) (v0 : Nat) (v1 : Int) (v2 : List PV) (v3 : List PV) (v4 : List PV) (v5 : List PV) (v6 : List PV), Jq tau 0 Yj (fun s k => ev tau F28 0 0 JcB (Jft (Jaa f) (Jab f) (Jac f) (Jad f)) s k) n (Je Yj N28 [.ptr 4464 [], .ptr 4465 [], .ptr 4466 [], .ow 5 4467 [] 0 v0 none, .ptr 4468 [], .sc (.int .i64 v1)] [(4464, .box false 37 (PV.ar 37 v2)), (4465, .box false 118 (PV.ar 118 v3)), (4466, .box false 112 (PV.ar 112 v4)), (4467, .vec false 5 false v5), (4468, .box false 118 (PV.ar 118 v6))]) (Jz tau 0 Zm k) = Vm f (fun x0 x1 => k (Ex.exit 4) (Je Zm N28 [.ptr 4464 [], .ptr 4465 []] [(4464, .box false 37 (PV.ar 37 x0)), (4465, .box false 112 (PV.ar 112 x1))])) n v0 v1 v2 v3 v4 v5 v6 | 0, _, _, _, _, _, _, _ => rfl | n + 1, v0, v1, v2, v3, v4, v5, v6 => (Jos f k n v0 v1 v2 v3 v4 v5 v6).trans (congrArg (fun r => V4 f r (fun x0 x1 => k (Ex.exit 4) (Je Zm N28 [.ptr 4464 [], .ptr 4465 []] [(4464, .box false 37 (PV.ar 37 x0)), (4465, .box false 112 (PV.ar 112 x1))])) v0 v1 v2 v3 v4 v5 v6) (by funext v0 v1 v2 v3 v4 v5 v6; exact JiV f k n v0 v1 v2 v3 v4 v5 v6))
def Jbx (f : Nat) : List PV → List (Nat × Ent) → Kont → Option Res
  | [.ptr 4464 [], .ptr 4465 [], .ptr 4466 [], .ow 5 4467 [] 0 v0 none, .ptr 4468 [],
  PV.sc
    (Value.int IntKind.i64
      v1)], [(4464, .box false 37 (PV.ar 37 v2)), (4465, .box false 118 (PV.ar 118 v3)), (4466, .box false 112 (PV.ar 112 v4)), (4467, .vec false 5 false v5),
  (4468,
    Ent.box false 118
      (PV.ar 118
        v6))], k => Vm f (fun x0 x1 => k (Ex.exit
  4) (Je Zm N28 [.ptr 4464 [], .ptr 4465 []] [(4464, .box false 37 (PV.ar 37 x0)), (4465, .box false 112 (PV.ar 112 x1))])) f v0 v1 v2 v3 v4 v5 v6
  | _, _, _ => none
theorem Jtc (f : Nat) : Ji JcB (Jft (Jaa f) (Jab f) (Jac f) (Jad f)) = [.l Jcx Yf N28 (Jaa f), .l Jcy Yg N28 (Jab f), .l Jcz Yh N28 (Jac f), .l JcA Yi N28 (Jad f)] := by kernel_rfl
theorem JxX (f : Nat) : (Item.l JcB Yj N28 (Jbx f)).Ok tau Try.prog 0 := JM Js Yc Jt (x := (Jft (Jaa f) (Jab f) (Jac f) (Jad f))) (nm2 := Zm) (Jr _ _ (by rw [Jtc f]; simp only [List.forall_mem_cons, List.not_mem_nil, false_implies, implies_true, and_true]; exact ⟨JxT f, JxU f, JxV f, JxW f⟩)) fun vs hp k res hr => by
  unfold Jbx at hr
  split at hr
  · exact ⟨f, 0, (JiV f _ f _ _ _ _ _ _ _ ).trans hr⟩
  · cases hr
def V5 (f : Nat) (rc : Int → List PV → List PV → List PV → Option Res) (k0 : List PV → List PV → Option Res) (v0 : Int) (v1 : List PV) (v2 : List PV) (v3 : List PV) : Option Res := bif decide (v0 < 8) then bif decide (0 ≤ v0) && decide (v0 < zi 8) && true then bif PV.isInt IntKind.u32 (Jn (PV.ar 112 v2) [v0.toNat]) && true then bif decide (0 ≤ v0) && decide (v0 < zi 8) && true then bif PV.isInt IntKind.u32 (Jn (PV.ar 112 v2) [v0.toNat]) && true then bif decide (0 ≤ v0) && decide (v0 < zi 8) && true then bif PV.isInt IntKind.u32 (Jn (PV.ar 112 v2) [v0.toNat]) && true then bif decide (0 ≤ v0) && decide (v0 < zi 8) && true then bif PV.isInt IntKind.u32 (Jn (PV.ar 112 v2) [v0.toNat]) && true then bif decide (0 ≤ IntKind.i64.wrap (4 * v0)) && decide (IntKind.i64.wrap (4 * v0) < zi 32) && true then bif decide (0 ≤ IntKind.i64.wrap (IntKind.i64.wrap (4 * v0) + 1)) && decide (IntKind.i64.wrap (IntKind.i64.wrap (4 * v0) + 1) < zi 32) && true then bif decide (0 ≤ IntKind.i64.wrap (IntKind.i64.wrap (4 * v0) + 2)) && decide (IntKind.i64.wrap (IntKind.i64.wrap (4 * v0) + 2) < zi 32) && true then bif decide (0 ≤ IntKind.i64.wrap (IntKind.i64.wrap (4 * v0) + 3)) && decide (IntKind.i64.wrap (IntKind.i64.wrap (4 * v0) + 3) < zi 32) && true then rc (IntKind.i64.wrap (v0 + 1)) v1 v2 ((((v3.set (IntKind.i64.wrap (4 * v0)).toNat (.sc (.int .u8 (IntKind.u8.wrap (JB IntKind.u32 (Jn (PV.ar 112 v2) [v0.toNat]).int 24))))).set (IntKind.i64.wrap (IntKind.i64.wrap (4 * v0) + 1)).toNat (.sc (.int .u8 (IntKind.u8.wrap (JB IntKind.u32 (Jn (PV.ar 112 v2) [v0.toNat]).int 16))))).set (IntKind.i64.wrap (IntKind.i64.wrap (4 * v0) + 2)).toNat (.sc (.int .u8 (IntKind.u8.wrap (JB IntKind.u32 (Jn (PV.ar 112 v2) [v0.toNat]).int 8))))).set (IntKind.i64.wrap (IntKind.i64.wrap (4 * v0) + 3)).toNat (.sc (.int .u8 (IntKind.u8.wrap (Jn (PV.ar 112 v2) [v0.toNat]).int)))) else none else none else none else none else none else none else none else none else none else none else none else none else k0 v1 v3
def Vn (f : Nat) (k0 : List PV → List PV → Option Res) : Nat → Int → List PV → List PV → List PV → Option Res
  | 0, _, _, _, _ => none
  | n + 1, v0, v1, v2, v3 => V5 f (Vn f k0 n) k0 v0 v1 v2 v3
theorem Jot (f : Nat) (k : Kont) (n : Nat) (v0 : Int) (v1 : List PV) (v2 : List PV) (v3 : List PV) : Jq tau 0 Yk (fun s k => ev tau F28 0 0 JcC (Jfu ) s k) (n + 1) (Je Yk N28 [.ptr 4464 [], .ptr 4465 [], .ptr 4466 [], .sc (.int .i64 v0)] [(4464, .box false 37 (PV.ar 37 v1)), (4465, .box false 112 (PV.ar 112 v2)), (4466, .box false 37 (PV.ar 37 v3))]) (Jz tau 0 Zn k) = V5 f (fun v0 v1 v2 v3 => Jq tau 0 Yk (fun s k => ev tau F28 0 0 JcC (Jfu ) s k) n (Je Yk N28 [.ptr 4464 [], .ptr 4465 [], .ptr 4466 [], .sc (.int .i64 v0)] [(4464, .box false 37 (PV.ar 37 v1)), (4465, .box false 112 (PV.ar 112 v2)), (4466, .box false 37 (PV.ar 37 v3))]) (Jz tau 0 Zn k)) (fun x0 x1 => k (Ex.exit 14) (Je Zn N28 [.ptr 4464 [], .ptr 4465 []] [(4464, .box false 37 (PV.ar 37 x0)), (4465, .box false 37 (PV.ar 37 x1))])) v0 v1 v2 v3 := by kernel_rfl
theorem JiW (f : Nat) (k : Kont) : ∀ (n : Nat) (v0 : Int) (v1 : List PV) (v2 : List PV) (v3 : List PV), Jq tau 0 Yk (fun s k => ev tau F28 0 0 JcC (Jfu ) s k) n (Je Yk N28 [.ptr 4464 [], .ptr 4465 [], .ptr 4466 [], .sc (.int .i64 v0)] [(4464, .box false 37 (PV.ar 37 v1)), (4465, .box false 112 (PV.ar 112 v2)), (4466, .box false 37 (PV.ar 37 v3))]) (Jz tau 0 Zn k) = Vn f (fun x0 x1 => k (Ex.exit 14) (Je Zn N28 [.ptr 4464 [], .ptr 4465 []] [(4464, .box false 37 (PV.ar 37 x0)), (4465, .box false 37 (PV.ar 37 x1))])) n v0 v1 v2 v3 | 0, _, _, _, _ => rfl | n + 1, v0, v1, v2, v3 => (Jot f k n v0 v1 v2 v3).trans (congrArg (fun r => V5 f r (fun x0 x1 => k (Ex.exit 14) (Je Zn N28 [.ptr 4464 [], .ptr 4465 []] [(4464, .box false 37 (PV.ar 37 x0)), (4465, .box false 37 (PV.ar 37 x1))])) v0 v1 v2 v3) (by funext v0 v1 v2 v3; exact JiW f k n v0 v1 v2 v3))
def Jby (f : Nat) : List PV → List (Nat × Ent) → Kont → Option Res
  | [.ptr 4464 [], .ptr 4465 [], .ptr 4466 [],
  PV.sc
    (Value.int IntKind.i64
      v0)], [(4464, .box false 37 (PV.ar 37 v1)), (4465, .box false 112 (PV.ar 112 v2)),
  (4466,
    Ent.box false 37
      (PV.ar 37
        v3))], k => Vn f (fun x0 x1 => k (Ex.exit
  14) (Je Zn N28 [.ptr 4464 [], .ptr 4465 []] [(4464, .box false 37 (PV.ar 37 x0)), (4465, .box false 37 (PV.ar 37 x1))])) f v0 v1 v2 v3
  | _, _, _ => none
theorem Jtd (f : Nat) : Ji JcC Jfu = [] := by kernel_rfl
theorem JxY (f : Nat) : (Item.l JcC Yk N28 (Jby f)).Ok tau Try.prog 0 := JM Js Yc Jt (x := Jfu) (nm2 := Zn) (Jr _ _ (by rw [Jtd f]; intro q hq; cases hq)) fun vs hp k res hr => by
  unfold Jby at hr
  split at hr
  · exact ⟨f, 0, (JiW f _ f _ _ _ _ ).trans hr⟩
  · cases hr
def g28 (f : Nat) (nl : Bool) (fl : Bool) (b : List PV) (k : Res → Option Res) : Option Res := bif Jj (0 + b.length) 1 && true then bif Jj (0 + b.length + 1) 1 && true then Vg f (fun x0_0 x1_0 x2_0 x3_0 x4_0 x5_0 x6_0 x7_0 => Vh f (fun x0_1 x1_1 x2_1 x3_1 x4_1 => Vm f (fun x0_6 x1_6 => Vn f (fun x0_7 x1_7 => k (Res.mk (.ar 37 x1_7) [] [])) f (0) x0_6 x1_6 ([.sc (.int .u8 0), .sc (.int .u8 0), .sc (.int .u8 0), .sc (.int .u8 0), .sc (.int .u8 0), .sc (.int .u8 0), .sc (.int .u8 0), .sc (.int .u8 0), .sc (.int .u8 0), .sc (.int .u8 0), .sc (.int .u8 0), .sc (.int .u8 0), .sc (.int .u8 0), .sc (.int .u8 0), .sc (.int .u8 0), .sc (.int .u8 0), .sc (.int .u8 0), .sc (.int .u8 0), .sc (.int .u8 0), .sc (.int .u8 0), .sc (.int .u8 0), .sc (.int .u8 0), .sc (.int .u8 0), .sc (.int .u8 0), .sc (.int .u8 0), .sc (.int .u8 0), .sc (.int .u8 0), .sc (.int .u8 0), .sc (.int .u8 0), .sc (.int .u8 0), .sc (.int .u8 0), .sc (.int .u8 0)])) f x0_1 (0) x1_1 x2_1 x3_1 x4_1 ([.sc (.int .u32 0), .sc (.int .u32 0), .sc (.int .u32 0), .sc (.int .u32 0), .sc (.int .u32 0), .sc (.int .u32 0), .sc (.int .u32 0), .sc (.int .u32 0), .sc (.int .u32 0), .sc (.int .u32 0), .sc (.int .u32 0), .sc (.int .u32 0), .sc (.int .u32 0), .sc (.int .u32 0), .sc (.int .u32 0), .sc (.int .u32 0), .sc (.int .u32 0), .sc (.int .u32 0), .sc (.int .u32 0), .sc (.int .u32 0), .sc (.int .u32 0), .sc (.int .u32 0), .sc (.int .u32 0), .sc (.int .u32 0), .sc (.int .u32 0), .sc (.int .u32 0), .sc (.int .u32 0), .sc (.int .u32 0), .sc (.int .u32 0), .sc (.int .u32 0), .sc (.int .u32 0), .sc (.int .u32 0), .sc (.int .u32 0), .sc (.int .u32 0), .sc (.int .u32 0), .sc (.int .u32 0), .sc (.int .u32 0), .sc (.int .u32 0), .sc (.int .u32 0), .sc (.int .u32 0), .sc (.int .u32 0), .sc (.int .u32 0), .sc (.int .u32 0), .sc (.int .u32 0), .sc (.int .u32 0), .sc (.int .u32 0), .sc (.int .u32 0), .sc (.int .u32 0), .sc (.int .u32 0), .sc (.int .u32 0), .sc (.int .u32 0), .sc (.int .u32 0), .sc (.int .u32 0), .sc (.int .u32 0), .sc (.int .u32 0), .sc (.int .u32 0), .sc (.int .u32 0), .sc (.int .u32 0), .sc (.int .u32 0), .sc (.int .u32 0), .sc (.int .u32 0), .sc (.int .u32 0), .sc (.int .u32 0), .sc (.int .u32 0)])) f x3_0 (IntKind.u64.wrap (IntKind.u64.wrap (zi x2_0.length) * 8)) (7) x4_0 x5_0 x6_0 x7_0) f nl fl b (0 + b.length + 1) ([.sc (.int .u8 0), .sc (.int .u8 0), .sc (.int .u8 0), .sc (.int .u8 0), .sc (.int .u8 0), .sc (.int .u8 0), .sc (.int .u8 0), .sc (.int .u8 0), .sc (.int .u8 0), .sc (.int .u8 0), .sc (.int .u8 0), .sc (.int .u8 0), .sc (.int .u8 0), .sc (.int .u8 0), .sc (.int .u8 0), .sc (.int .u8 0), .sc (.int .u8 0), .sc (.int .u8 0), .sc (.int .u8 0), .sc (.int .u8 0), .sc (.int .u8 0), .sc (.int .u8 0), .sc (.int .u8 0), .sc (.int .u8 0), .sc (.int .u8 0), .sc (.int .u8 0), .sc (.int .u8 0), .sc (.int .u8 0), .sc (.int .u8 0), .sc (.int .u8 0), .sc (.int .u8 0), .sc (.int .u8 0)]) ([.sc (.int .u32 1116352408), .sc (.int .u32 1899447441), .sc (.int .u32 3049323471), .sc (.int .u32 3921009573), .sc (.int .u32 961987163), .sc (.int .u32 1508970993), .sc (.int .u32 2453635748), .sc (.int .u32 2870763221), .sc (.int .u32 3624381080), .sc (.int .u32 310598401), .sc (.int .u32 607225278), .sc (.int .u32 1426881987), .sc (.int .u32 1925078388), .sc (.int .u32 2162078206), .sc (.int .u32 2614888103), .sc (.int .u32 3248222580), .sc (.int .u32 3835390401), .sc (.int .u32 4022224774), .sc (.int .u32 264347078), .sc (.int .u32 604807628), .sc (.int .u32 770255983), .sc (.int .u32 1249150122), .sc (.int .u32 1555081692), .sc (.int .u32 1996064986), .sc (.int .u32 2554220882), .sc (.int .u32 2821834349), .sc (.int .u32 2952996808), .sc (.int .u32 3210313671), .sc (.int .u32 3336571891), .sc (.int .u32 3584528711), .sc (.int .u32 113926993), .sc (.int .u32 338241895), .sc (.int .u32 666307205), .sc (.int .u32 773529912), .sc (.int .u32 1294757372), .sc (.int .u32 1396182291), .sc (.int .u32 1695183700), .sc (.int .u32 1986661051), .sc (.int .u32 2177026350), .sc (.int .u32 2456956037), .sc (.int .u32 2730485921), .sc (.int .u32 2820302411), .sc (.int .u32 3259730800), .sc (.int .u32 3345764771), .sc (.int .u32 3516065817), .sc (.int .u32 3600352804), .sc (.int .u32 4094571909), .sc (.int .u32 275423344), .sc (.int .u32 430227734), .sc (.int .u32 506948616), .sc (.int .u32 659060556), .sc (.int .u32 883997877), .sc (.int .u32 958139571), .sc (.int .u32 1322822218), .sc (.int .u32 1537002063), .sc (.int .u32 1747873779), .sc (.int .u32 1955562222), .sc (.int .u32 2024104815), .sc (.int .u32 2227730452), .sc (.int .u32 2361852424), .sc (.int .u32 2428436474), .sc (.int .u32 2756734187), .sc (.int .u32 3204031479), .sc (.int .u32 3329325298)]) ([.sc (.int .u32 1779033703), .sc (.int .u32 3144134277), .sc (.int .u32 1013904242), .sc (.int .u32 2773480762), .sc (.int .u32 1359893119), .sc (.int .u32 2600822924), .sc (.int .u32 528734635), .sc (.int .u32 1541459225)]) (List.take (0 + b.length) ([] ++ b) ++ [.sc (.int .u8 128)]) else none else none
theorem e28 (f : Nat) (nl : Bool) (fl : Bool) (b : List PV) (k : Res → Option Res) : JN tau F28 Try.f28 (Try.f28.body.get!) (Jol (Jbv f) (Jbw f) (Jbx f) (Jby f)) [] 0 [.ro 5 nl fl b] [] k = g28 f nl fl b k := by kernel_rfl
theorem JAN (f : Nat) : Ji (Try.f28.body.get!) (Jol (Jbv f) (Jbw f) (Jbx f) (Jby f)) = [.l Jcv Yd N28 (Jbv f), .l Jcw Ye N28 (Jbw f), .l JcB Yj N28 (Jbx f), .l JcC Yk N28 (Jby f)] := by kernel_rfl
theorem JAO (f : Nat) : ∀ q ∈ Ji (Try.f28.body.get!) (Jol (Jbv f) (Jbw f) (Jbx f) (Jby f)), q.Ok tau Try.prog 0 := by
  rw [JAN f]; simp only [List.forall_mem_cons, List.not_mem_nil, false_implies, implies_true, and_true]; exact ⟨JxR f, JxS f, JxX f, JxY f⟩
theorem JxZ : Try.prog.funcs[28]? = some Try.f28 := by kernel_rfl
theorem Jx0 : Try.f28.body = some (Try.f28.body.get!) := by kernel_rfl
theorem Jx1 : Enters Try.prog 28 := enters_of JxZ (by kernel_rfl) Jx0
-- FN ref2.Sum
theorem JlT (v : PV) : Jn v [] = v := rfl
theorem WV {R : List Int} (h : R.length = 8) (j : Nat) (hj : j < 8) : (pu .u32 R).getD j .top = .sc (.int .u32 (R.getD j 0)) := YJ (by omega)
theorem JqJ (f : Nat) (a b : Bool) (c x y w : List PV) (k0 : Bool → Bool → List PV → Nat → List PV → List PV → List PV → List PV → Option Res) : ∀ (d n : Nat) (L : List Int), zs L.length = d → d < n → L.length + d ≤ 140737488355200 →
    Vg f k0 n a b c L.length x y w (pu .u8 L) = k0 a b c (L.length + d) x y w (pu .u8 (L ++ List.replicate d 0))
  | 0, n + 1, L, hd, hn, hL => by
      simp only [Vg, VY, Ja8]
      refine (Jx (by simp [zs] at hd ⊢; omega)).trans ?_
      simp
  | d + 1, n + 1, L, hd, hn, hL => by
      have hlt : d + 1 < 64 := by rw [← hd]; unfold zs; omega
      have c3 : Jj (L.length + 1) 1 = true := by simp [Jj]; omega
      simp only [Vg, VY, Ja8, c3, Bool.and_true, cond_true, W1]
      refine (Jb (by simp [zs] at hd ⊢; omega)).trans ?_
      rw [List.take_of_length_le (Nat.le_refl _)]
      have := JqJ f a b c x y w k0 d n (L ++ [0]) (by simp [zs] at hd ⊢; omega) (by omega) (by simp; omega)
      simp only [List.length_append, List.length_cons, List.length_nil, Nat.zero_add, JR] at this
      refine this.trans ?_
      rw [show L.length + 1 + d = L.length + (d + 1) from by omega, List.replicate_succ]
      simp
def Jou (N : Int) (i : Nat) : Int := IntKind.u8.wrap (JB .u64 N (56 - 8 * (i : Int)))
theorem JqK (f : Nat) (N : Int) (x y w : List PV) (k0 : Nat → List PV → List PV → List PV → List PV → Option Res) (L : List Int) (hL : L.length ≤ 140737488355300) : ∀ (d i n : Nat), i + d = 8 → d < n →
    Vh f k0 n (L.length + i) N (7 - (i : Int)) x y w (pu .u8 (L ++ (List.range i).map (Jou N))) = k0 (L.length + 8) x y w (pu .u8 (L ++ (List.range 8).map (Jou N)))
  | 0, i, n + 1, h, hn => by
      obtain rfl : i = 8 := by omega
      simp only [Vh, VZ]
      exact Jx (by decide)
  | d + 1, i, n + 1, h, hn => by
      have h1 : IntKind.i64.wrap (7 - (i : Int) - 1) = 7 - ((i + 1 : Nat) : Int) := by rw [wrap_i64 (by omega) (by omega)]; omega
      have h8 : IntKind.u64.wrap (7 - (i : Int)) = 7 - (i : Int) := by rw [QY]; omega
      have h9 : IntKind.u64.wrap (8 * (7 - (i : Int))) = 56 - 8 * (i : Int) := by rw [QY]; omega
      have c1 : decide (7 - (i : Int) ≥ 0) = true := by simp; omega
      have c2 : decide (0 ≤ 56 - 8 * (i : Int)) = true := by simp; omega
      have c3 : Jj (L.length + i + 1) 1 = true := by simp [Jj]; omega
      have hlen : (L ++ (List.range i).map (Jou N)).length = L.length + i := by simp
      simp only [Vh, VZ, h1, h8, h9, c1, c2, c3, Bool.and_true, cond_true, W1]
      rw [List.take_of_length_le (by omega)]
      have := JqK f N x y w k0 L hL d (i + 1) n (by omega) (by omega)
      rw [List.range_succ, List.map_append, ← List.append_assoc, JR] at this
      exact this
theorem Jav (P : List Int) (q j : Nat) (hj : j < 64) : ((P.drop (64 * q)).take 64).getD j 0 = P.getD (64 * q + j) 0 := by
  simp [List.getD_eq_getElem?_getD, hj, List.getElem?_drop]
theorem JqL (P : List Int) (q : Nat) (hq : 64 * q + 64 ≤ P.length) (hP : P.length ≤ 140737488356000) (T : List Int) (hT : T.length = 64) (f : Nat) (x y w : List PV) (k0 : Nat → Int → List PV → List PV → List PV → List PV → List PV → Option Res) : ∀ (d i n : Nat), i + d = 16 → d < n →
    Vi f k0 n P.length ((64 * q : Nat) : Int) (i : Int) x y w (pu .u8 P) (pu .u32 (Qs (JbL ((P.drop (64 * q)).take 64)) T i)) = k0 P.length ((64 * q : Nat) : Int) x y w (pu .u8 P) (pu .u32 (Qs (JbL ((P.drop (64 * q)).take 64)) T 16))
  | 0, i, n + 1, h, hn => by
      obtain rfl : i = 16 := by omega
      simp only [Vi, V0]
      exact Jx (by decide)
  | d + 1, i, n + 1, h, hn => by
      have h4 : IntKind.i64.wrap (4 * (i : Int)) = ((4 * i : Nat) : Int) := by rw [wrap_i64 (by omega) (by omega)]; omega
      have h40 : IntKind.i64.wrap (((64 * q : Nat) : Int) + ((4 * i : Nat) : Int)) = ((64 * q + 4 * i : Nat) : Int) := by rw [wrap_i64 (by omega) (by omega)]; omega
      have h41 : IntKind.i64.wrap (((64 * q + 4 * i : Nat) : Int) + 1) = ((64 * q + (4 * i + 1) : Nat) : Int) := by rw [wrap_i64 (by omega) (by omega)]; omega
      have h42 : IntKind.i64.wrap (((64 * q + 4 * i : Nat) : Int) + 2) = ((64 * q + (4 * i + 2) : Nat) : Int) := by rw [wrap_i64 (by omega) (by omega)]; omega
      have h43 : IntKind.i64.wrap (((64 * q + 4 * i : Nat) : Int) + 3) = ((64 * q + (4 * i + 3) : Nat) : Int) := by rw [wrap_i64 (by omega) (by omega)]; omega
      have h5 : IntKind.i64.wrap ((i : Int) + 1) = ((i + 1 : Nat) : Int) := by rw [wrap_i64 (by omega) (by omega)]; omega
      simp only [Vi, V0, h4, h40, h41, h42, h43, h5, Int.toNat_natCast, Nat.zero_add, JlT, zi]
      rw [JY (by omega), JY (by omega), JY (by omega), JY (by omega), Qn (by omega), Qn (by omega), Qn (by omega), Qn (by omega), Wn]
      refine (Jb (by simp; omega)).trans ?_
      refine (Jb (by simp only [Bool.and_true, Bool.and_eq_true, decide_eq_true_eq]; omega)).trans ?_
      refine (Jb rfl).trans ?_
      refine (Jb (by simp only [Bool.and_true, Bool.and_eq_true, decide_eq_true_eq]; omega)).trans ?_
      refine (Jb rfl).trans ?_
      refine (Jb (by simp only [Bool.and_true, Bool.and_eq_true, decide_eq_true_eq]; omega)).trans ?_
      refine (Jb rfl).trans ?_
      refine (Jb (by simp only [Bool.and_true, Bool.and_eq_true, decide_eq_true_eq]; omega)).trans ?_
      refine (Jb rfl).trans ?_
      refine (Jb (by simp only [Bool.and_true, Bool.and_eq_true, decide_eq_true_eq]; omega)).trans ?_
      have := JqL P q hq hP T hT f x y w k0 d (i + 1) n (by omega) (by omega)
      rw [← Qo _ T i (by omega), JbL, Jav P q _ (by omega), Jav P q _ (by omega), Jav P q _ (by omega), Jav P q _ (by omega)] at this
      exact this
def ZS (bs T : List Int) (i : Nat) : List Int := Ql bs i ++ T.drop (16 + i)
theorem Jd2 (bs T : List Int) (hT : T.length = 64) (i : Nat) (h : i ≤ 48) : (ZS bs T i).length = 64 := by simp [ZS, JU, hT]; omega
theorem ZH (bs T : List Int) (i j : Nat) (h : j < 16 + i) : (ZS bs T i).getD j 0 = (Ql bs i).getD j 0 := by
  simp only [ZS, List.getD_eq_getElem?_getD]
  rw [List.getElem?_append_left (by rw [JU]; exact h)]
theorem JjG (bs T : List Int) (hT : T.length = 64) (i : Nat) (h : i < 48) (x : Int) : (ZS bs T i).set (i + 16) x = (Ql bs i ++ [x]) ++ T.drop (16 + (i + 1)) := by
  rw [ZS, List.set_append_right _ _ (by rw [JU]; omega), JU, List.drop_eq_getElem_cons (by omega), show i + 16 - (16 + i) = 0 from by omega, List.set_cons_zero]
  simp [Nat.add_assoc]
theorem Jov (w16 w15 w7 w2 : Int) : ww (ww (ww (sg1 w2 + w7) + sg0 w15) + w16) = Jm0 w16 w15 w7 w2 := by
  simp only [Jm0, ww, JeJ]; omega
theorem JqM (bs T : List Int) (hT : T.length = 64) (f : Nat) (l : Nat) (p : Int) (x y w e : List PV) (k0 : Nat → Int → List PV → List PV → List PV → List PV → List PV → Option Res) : ∀ (d i n : Nat), i + d = 48 → d < n →
    Vj f k0 n l p ((i + 16 : Nat) : Int) x y w e (pu .u32 (ZS bs T i)) = k0 l p x y w e (pu .u32 (Qc bs))
  | 0, i, n + 1, h, hn => by
      obtain rfl : i = 48 := by omega
      simp only [Vj, V1]
      refine (Jx (by decide)).trans ?_
      rw [ZS, List.drop_of_length_le (by omega), List.append_nil]; rfl
  | d + 1, i, n + 1, h, hn => by
      have h15 : IntKind.i64.wrap (((i + 16 : Nat) : Int) - 15) = ((i + 1 : Nat) : Int) := by rw [wrap_i64 (by omega) (by omega)]; omega
      have h2 : IntKind.i64.wrap (((i + 16 : Nat) : Int) - 2) = ((i + 14 : Nat) : Int) := by rw [wrap_i64 (by omega) (by omega)]; omega
      have h16 : IntKind.i64.wrap (((i + 16 : Nat) : Int) - 16) = ((i : Nat) : Int) := by rw [wrap_i64 (by omega) (by omega)]; omega
      have h7 : IntKind.i64.wrap (((i + 16 : Nat) : Int) - 7) = ((i + 9 : Nat) : Int) := by rw [wrap_i64 (by omega) (by omega)]; omega
      have h1 : IntKind.i64.wrap (((i + 16 : Nat) : Int) + 1) = ((i + 1 + 16 : Nat) : Int) := by rw [wrap_i64 (by omega) (by omega)]; omega
      have hl := Jd2 bs T hT i (by omega)
      simp only [Vj, V1, h15, h2, h16, h7, h1, Int.toNat_natCast, zi, Ws]
      rw [JY (by omega), JY (by omega), JY (by omega), JY (by omega), Qn (by omega), Qn (by omega), Qn (by omega), Qn (by omega), Wn]
      refine (Jb (by simp; omega)).trans ?_
      refine (Jb (by simp; omega)).trans ?_
      refine (Jb rfl).trans ?_
      refine (Jb (by simp; omega)).trans ?_
      refine (Jb rfl).trans ?_
      refine (Jb (by simp; omega)).trans ?_
      refine (Jb rfl).trans ?_
      refine (Jb (by simp; omega)).trans ?_
      refine (Jb rfl).trans ?_
      refine (Jb (by simp; omega)).trans ?_
      have := JqM bs T hT f l p x y w e k0 d (i + 1) n (by omega) (by omega)
      rw [ZH bs T i i (by omega), ZH bs T i (i + 1) (by omega), ZH bs T i (i + 9) (by omega), ZH bs T i (i + 14) (by omega), JjG bs T hT i (by omega)]
      have hn := Jov ((Ql bs i).getD i 0) ((Ql bs i).getD (i + 1) 0) ((Ql bs i).getD (i + 9) 0) ((Ql bs i).getD (i + 14) 0)
      rw [ZS, Ql, ← hn] at this
      exact this
theorem JqN (W s : List Int) (hW : W.length = 64) (hs : s.length = 8) (f : Nat) (l : Nat) (p : Int) (x w e : List PV) (k0 : Nat → Int → List PV → List PV → List PV → List PV → List PV → List PV → Option Res) : ∀ (d i n : Nat), i + d = 64 → d < n →
    Vk f k0 n l p (i : Int) x (pu .u32 kks) w e (pu .u32 W) (pu .u32 (YQ W s i)) = k0 l p x (pu .u32 kks) w e (pu .u32 W) (pu .u32 (YQ W s 64))
  | 0, i, n + 1, h, hn => by
      obtain rfl : i = 64 := by omega
      simp only [Vk, V2]
      exact Jx (by decide)
  | d + 1, i, n + 1, h, hn => by
      have hl := W8 W s hs i
      have h1 : IntKind.i64.wrap ((i : Int) + 1) = ((i + 1 : Nat) : Int) := by rw [wrap_i64 (by omega) (by omega)]; omega
      have hk : (pu .u32 kks).getD i .top = .sc (.int .u32 (kks.getD i 0)) := YJ (by show i < 64; omega)
      have hw : (pu .u32 W).getD i .top = .sc (.int .u32 (W.getD i 0)) := YJ (by omega)
      have c1 : decide ((i : Int) < 64) = true := by simp; omega
      have c2 : decide (0 ≤ (i : Int)) = true := by simp
      have c3 : decide ((i : Int) < zi 64) = true := by simp; omega
      simp only [Vk, V2, Ws, Int.toNat_natCast, h1, hk, hw, c1, c2, c3, WV hl 0 (by omega), WV hl 1 (by omega), WV hl 2 (by omega), WV hl 3 (by omega), WV hl 4 (by omega), WV hl 5 (by omega), WV hl 6 (by omega), WV hl 7 (by omega), PV.isInt, PV.int, decide_true, Bool.and_true, cond_true]
      exact JqN W s hW hs f l p x w e k0 d (i + 1) n (by omega) (by omega)
theorem JqO (t s : List Int) (ht : t.length = 8) (hs : s.length = 8) (f : Nat) (l : Nat) (p : Int) (x y e u : List PV) (k0 : Nat → Int → List PV → List PV → List PV → List PV → List PV → Option Res) : ∀ (d i n : Nat), i + d = 8 → d < n →
    Vl f k0 n l p (i : Int) x y (pu .u32 (Qs (fun j => ww (t.getD j 0 + s.getD j 0)) s i)) e u (pu .u32 t) = k0 l p x y (pu .u32 ((List.range 8).map fun j => ww (t.getD j 0 + s.getD j 0))) e u
  | 0, i, n + 1, h, hn => by
      obtain rfl : i = 8 := by omega
      simp only [Vl, V3]
      refine (Jx (by decide)).trans ?_
      have := QP (fun j => ww (t.getD j 0 + s.getD j 0)) s
      rw [hs] at this; rw [this]
  | d + 1, i, n + 1, h, hn => by
      have hl : (Qs (fun j => ww (t.getD j 0 + s.getD j 0)) s i).length = 8 := by rw [XU _ _ _ (by omega), hs]
      have h1 : IntKind.i64.wrap ((i : Int) + 1) = ((i + 1 : Nat) : Int) := by rw [wrap_i64 (by omega) (by omega)]; omega
      have c1 : decide ((i : Int) < 8) = true := by simp; omega
      have c2 : decide (0 ≤ (i : Int)) = true := by simp
      have c3 : decide ((i : Int) < zi 8) = true := by simp; omega
      have g1 : ((i : Int)).toNat = i := by omega
      simp only [Vl, V3, Ws, g1, h1, c1, c2, c3, WV hl i (by omega), WV ht i (by omega), Gv _ s i (by omega), PV.isInt, PV.int, decide_true, Bool.and_true, cond_true, Wn]
      have := JqO t s ht hs f l p x y e u k0 d (i + 1) n (by omega) (by omega)
      rw [← Qo _ s i (by omega), Int.add_comm (t.getD i 0)] at this
      exact this
theorem Jx2 (s : List Int) (i : Nat) : Yu s (4 * i) = IntKind.u8.wrap (JB .u32 (s.getD i 0) 24) := by
  rw [Yu, show 4 * i / 4 = i from by omega, show 4 * i % 4 = 0 from by omega]; rfl
theorem Jx3 (s : List Int) (i : Nat) : Yu s (4 * i + 1) = IntKind.u8.wrap (JB .u32 (s.getD i 0) 16) := by
  rw [Yu, show (4 * i + 1) / 4 = i from by omega, show (4 * i + 1) % 4 = 1 from by omega]; rfl
theorem Jx4 (s : List Int) (i : Nat) : Yu s (4 * i + 2) = IntKind.u8.wrap (JB .u32 (s.getD i 0) 8) := by
  rw [Yu, show (4 * i + 2) / 4 = i from by omega, show (4 * i + 2) % 4 = 2 from by omega]; rfl
theorem Jx5 (s : List Int) (i : Nat) : Yu s (4 * i + 3) = IntKind.u8.wrap (s.getD i 0) := by
  rw [Yu, show (4 * i + 3) / 4 = i from by omega, show (4 * i + 3) % 4 = 3 from by omega]
  have : JB .u32 (s.getD i 0) (24 - 8 * ((3 : Nat) : Int)) = s.getD i 0 := by
    have h0 : (24 - 8 * ((3 : Nat) : Int)) = 0 := by decide
    rw [h0]; simp [JB]
  rw [this]
theorem JqP (s : List Int) (hs : s.length = 8) (f : Nat) (k0 : List PV → List PV → Option Res) (a : List PV) (t : List Int) (ht : t.length = 32) : ∀ (d i n : Nat), i + d = 8 → d < n →
    Vn f k0 n (i : Int) a (pu .u32 s) (pu .u8 (Qs (Yu s) t (4 * i))) = k0 a (pu .u8 (Jjy s))
  | 0, i, n + 1, h, hn => by
      obtain rfl : i = 8 := by omega
      simp only [Vn, V5]
      refine (Jx (by decide)).trans ?_
      have := QP (Yu s) t
      rw [ht] at this; rw [show 4 * 8 = 32 from rfl, this]; rfl
  | d + 1, i, n + 1, h, hn => by
      have h1 : IntKind.i64.wrap ((i : Int) + 1) = ((i + 1 : Nat) : Int) := by rw [wrap_i64 (by omega) (by omega)]; omega
      have h4 : IntKind.i64.wrap (4 * (i : Int)) = ((4 * i : Nat) : Int) := by rw [wrap_i64 (by omega) (by omega)]; omega
      have h41 : IntKind.i64.wrap (((4 * i : Nat) : Int) + 1) = ((4 * i + 1 : Nat) : Int) := by rw [wrap_i64 (by omega) (by omega)]; omega
      have h42 : IntKind.i64.wrap (((4 * i : Nat) : Int) + 2) = ((4 * i + 2 : Nat) : Int) := by rw [wrap_i64 (by omega) (by omega)]; omega
      have h43 : IntKind.i64.wrap (((4 * i : Nat) : Int) + 3) = ((4 * i + 3 : Nat) : Int) := by rw [wrap_i64 (by omega) (by omega)]; omega
      have c1 : decide ((i : Int) < 8) = true := by simp; omega
      have c2 : decide (0 ≤ (i : Int)) = true := by simp
      have c3 : decide ((i : Int) < zi 8) = true := by simp; omega
      have b0 : (decide (0 ≤ ((4 * i : Nat) : Int)) && decide (((4 * i : Nat) : Int) < zi 32) && true) = true := by simp; omega
      have b1 : (decide (0 ≤ ((4 * i + 1 : Nat) : Int)) && decide (((4 * i + 1 : Nat) : Int) < zi 32) && true) = true := by simp; omega
      have b2 : (decide (0 ≤ ((4 * i + 2 : Nat) : Int)) && decide (((4 * i + 2 : Nat) : Int) < zi 32) && true) = true := by simp; omega
      have b3 : (decide (0 ≤ ((4 * i + 3 : Nat) : Int)) && decide (((4 * i + 3 : Nat) : Int) < zi 32) && true) = true := by simp; omega
      have g1 : ((i : Int)).toNat = i := by omega
      have g2 : (((4 * i : Nat) : Int)).toNat = 4 * i := by omega
      have g3 : (((4 * i + 1 : Nat) : Int)).toNat = 4 * i + 1 := by omega
      have g4 : (((4 * i + 2 : Nat) : Int)).toNat = 4 * i + 2 := by omega
      have g5 : (((4 * i + 3 : Nat) : Int)).toNat = 4 * i + 3 := by omega
      simp only [Vn, V5, h1, h4, h41, h42, h43, b0, b1, b2, b3, g1, g2, g3, g4, g5, Ws, c1, c2, c3, WV hs i (by omega), PV.isInt, PV.int, decide_true, Bool.and_true, cond_true, Wn]
      have := JqP s hs f k0 a t ht d (i + 1) n (by omega) (by omega)
      rw [show 4 * (i + 1) = 4 * i + 3 + 1 from by omega, ← Qo (Yu s) t (4 * i + 3) (by omega), ← Qo (Yu s) t (4 * i + 2) (by omega), ← Qo (Yu s) t (4 * i + 1) (by omega), ← Qo (Yu s) t (4 * i) (by omega), Jx2, Jx3, Jx4, Jx5] at this
      exact this
theorem JqQ (P : List Int) (m : Nat) (hP : P.length = 64 * m) (hb : P.length ≤ 140737488356000) (f : Nat) (hf : 100 ≤ f) (x : List PV) (k0 : List PV → List PV → Option Res) : ∀ (d i n : Nat) (T : List Int), i + d = m → d < n → T.length = 64 →
    Vm f k0 n P.length ((64 * i : Nat) : Int) x (pu .u32 kks) (pu .u32 (Q4 iv P i)) (pu .u8 P) (pu .u32 T) = k0 x (pu .u32 (Q4 iv P m))
  | 0, i, n + 1, T, h, hn, hT => by
      obtain rfl : i = m := by omega
      simp only [Vm, V4]
      exact Jx (by simp [zi]; omega)
  | d + 1, i, n + 1, T, h, hn, hT => by
      have hfl := Ww iv P rfl i
      simp only [Vm, V4]
      refine (Jb (by simp [zi]; omega)).trans ?_
      have e3 := fun kk => JqL P i (by omega) hb T hT f x (pu .u32 kks) (pu .u32 (Q4 iv P i)) kk 16 0 f (by omega) (by omega)
      have e4 := fun kk => JqM ((P.drop (64 * i)).take 64) T hT f P.length ((64 * i : Nat) : Int) x (pu .u32 kks) (pu .u32 (Q4 iv P i)) (pu .u8 P) kk 48 0 f (by omega) (by omega)
      have hW : (Qc ((P.drop (64 * i)).take 64)).length = 64 := JU _ 48
      have e5 := fun kk => JqN (Qc ((P.drop (64 * i)).take 64)) (Q4 iv P i) hW hfl f P.length ((64 * i : Nat) : Int) x (pu .u32 (Q4 iv P i)) (pu .u8 P) kk 64 0 f (by omega) (by omega)
      have e6 := fun kk => JqO (YQ (Qc ((P.drop (64 * i)).take 64)) (Q4 iv P i) 64) (Q4 iv P i) (W8 _ _ hfl 64) hfl f P.length ((64 * i : Nat) : Int) x (pu .u32 kks) (pu .u8 P) (pu .u32 (Qc ((P.drop (64 * i)).take 64))) kk 8 0 f (by omega) (by omega)
      have h0 : Qs (JbL ((P.drop (64 * i)).take 64)) T 16 = ZS ((P.drop (64 * i)).take 64) T 0 := rfl
      rw [Qz] at e6
      simp only [Qz] at e3
      refine (e3 _).trans ?_
      rw [h0]
      refine (e4 _).trans ?_
      refine (e5 _).trans ?_
      refine (e6 _).trans ?_
      have h1 : IntKind.i64.wrap (((64 * i : Nat) : Int) + 64) = ((64 * (i + 1) : Nat) : Int) := by rw [wrap_i64 (by omega) (by omega)]; omega
      rw [h1]
      exact JqQ P m hP hb f hf x k0 d (i + 1) n (Qc ((P.drop (64 * i)).take 64)) (by omega) (by omega) hW
theorem Jte (bs : List Int) (hb : bs.length ≤ 140737488355000) (nl fl : Bool) (k : Res → Option Res) : g28 ((Qt bs).length / 64 + 100) nl fl (pu .u8 bs) k = k ⟨.ar 37 (pu .u8 (Ju bs)), [], []⟩ := by
  rw [Jas]
  have hlen : (Qt bs).length = bs.length + 1 + zs (bs.length + 1) + 8 := by simp [Qt, Jm2]; omega
  have hz : zs (bs.length + 1) < 64 := by unfold zs; omega
  have h64 : (Qt bs).length = 64 * ((Qt bs).length / 64) := G4 bs
  generalize hf : (Qt bs).length / 64 + 100 = f
  refine (Jb (by simp [Jj]; omega)).trans ?_
  refine (Jb (by simp [Jj]; omega)).trans ?_
  have hL : List.take (0 + (pu .u8 bs).length) ([] ++ pu .u8 bs) ++ [PV.sc (Value.int IntKind.u8 128)] = pu .u8 (bs ++ [128]) := by
    rw [List.take_of_length_le (by simp)]; simp
  rw [hL]
  have e0 := fun kk x y w => JqJ f nl fl (pu .u8 bs) x y w kk (zs (bs.length + 1)) f (bs ++ [128]) (by simp) (by omega) (by simp; omega)
  simp only [List.length_append, List.length_cons, List.length_nil, Nat.zero_add] at e0
  have hl1 : 0 + (pu .u8 bs).length + 1 = bs.length + 1 := by simp
  rw [hl1]
  refine (e0 _ _ _ _).trans ?_
  have e1 := fun kk x y w => JqK f (IntKind.u64.wrap (IntKind.u64.wrap (zi (pu .u8 bs).length) * 8)) x y w kk (bs ++ [128] ++ List.replicate (zs (bs.length + 1)) 0) (by simp; omega) 8 0 f (by omega) (by omega)
  have hl2 : (bs ++ [128] ++ List.replicate (zs (bs.length + 1)) 0).length = bs.length + 1 + zs (bs.length + 1) := by simp; omega
  rw [hl2] at e1
  simp only [List.range_zero, List.map_nil, List.append_nil, Nat.add_zero] at e1
  refine (e1 _ _ _ _).trans ?_
  have hPd : bs ++ [128] ++ List.replicate (zs (bs.length + 1)) 0 ++ (List.range 8).map (Jou (IntKind.u64.wrap (IntKind.u64.wrap (zi (pu .u8 bs).length) * 8))) = Qt bs := by
    rw [JG]; rfl
  rw [hPd, ← hlen]
  have e2 := fun kk x => JqQ (Qt bs) ((Qt bs).length / 64) h64 (by omega) f (by omega) x kk ((Qt bs).length / 64) 0 f (List.replicate 64 0) (by omega) (by omega) (by simp)
  refine (e2 _ _).trans ?_
  have hfl := Ww iv (Qt bs) rfl ((Qt bs).length / 64)
  have e7 := fun kk a => JqP (Q4 iv (Qt bs) ((Qt bs).length / 64)) hfl f kk a (List.replicate 32 0) (by simp) 8 0 f (by omega) (by omega)
  simp only [Nat.mul_zero, Qz] at e7
  exact e7 _ _
def Jg6 : List PV → List Ent → (Res → Option Res) → Option Res
  | [.ro 5 nl fl b], [], k => bif Jd .u8 b && decide (b.length ≤ 140737488355000) then k ⟨.ar 37 (pu .u8 (Ju (Jh b))), [], []⟩ else none
  | _, _, _ => none
def Jtf : Sig := { own := [], run := Jg6 }
theorem JqR : Jk tau Try.prog 28 Jtf := Jgn Js Yc Jt JxZ Jx0 (fun n => Jol (Jbv n) (Jbw n) (Jbx n) (Jby n)) [] 0 [] Jg6 (fun n => JAO n) fun xs es k res hr => by
  unfold Jg6 at hr
  split at hr
  · rename_i nl fl l
    obtain ⟨hc, hr⟩ := JL hr
    simp only [Bool.and_eq_true, decide_eq_true_eq] at hc
    refine ⟨rfl, (Qt (Jh l)).length / 64 + 100, 0, (e28 _ _ _ _ _).trans ?_⟩
    have he := Qb hc.1
    have := Jte (Jh l) (by simpa using hc.2) nl fl k
    rw [← he] at this
    rw [this]; exact hr
  · cases hr
noncomputable abbrev z36 : List PV := [PV.sc (.int .u8 0), PV.sc (.int .u8 0), PV.sc (.int .u8 0), PV.sc (.int .u8 0), PV.sc (.int .u8 0), PV.sc (.int .u8 0), PV.sc (.int .u8 0), PV.sc (.int .u8 0), PV.sc (.int .u8 0), PV.sc (.int .u8 0), PV.sc (.int .u8 0), PV.sc (.int .u8 0), PV.sc (.int .u8 0), PV.sc (.int .u8 0), PV.sc (.int .u8 0), PV.sc (.int .u8 0), PV.sc (.int .u8 0), PV.sc (.int .u8 0), PV.sc (.int .u8 0), PV.sc (.int .u8 0), PV.sc (.int .u8 0), PV.sc (.int .u8 0), PV.sc (.int .u8 0), PV.sc (.int .u8 0), PV.sc (.int .u8 0), PV.sc (.int .u8 0), PV.sc (.int .u8 0), PV.sc (.int .u8 0), PV.sc (.int .u8 0), PV.sc (.int .u8 0), PV.sc (.int .u8 0), PV.sc (.int .u8 0), PV.sc (.int .u8 0), PV.sc (.int .u8 0), PV.sc (.int .u8 0), PV.sc (.int .u8 0), PV.sc (.int .u8 0), PV.sc (.int .u8 0), PV.sc (.int .u8 0), PV.sc (.int .u8 0), PV.sc (.int .u8 0), PV.sc (.int .u8 0), PV.sc (.int .u8 0), PV.sc (.int .u8 0), PV.sc (.int .u8 0), PV.sc (.int .u8 0), PV.sc (.int .u8 0), PV.sc (.int .u8 0), PV.sc (.int .u8 0), PV.sc (.int .u8 0), PV.sc (.int .u8 0), PV.sc (.int .u8 0), PV.sc (.int .u8 0), PV.sc (.int .u8 0), PV.sc (.int .u8 0), PV.sc (.int .u8 0), PV.sc (.int .u8 0), PV.sc (.int .u8 0), PV.sc (.int .u8 0), PV.sc (.int .u8 0), PV.sc (.int .u8 0), PV.sc (.int .u8 0), PV.sc (.int .u8 0), PV.sc (.int .u8 0)]
def N36 : Nat := 53
noncomputable def F36 : Fns := JH 28 Jtf (F0)
theorem JlU : JA tau Try.prog F36 := (JJ).add JqR Jx1
noncomputable def JcD : Code := Qy (Try.f36.body.get!) [1, 1, 1, 1, 0, 1, 0, 0]
def Yl : Nm := [(1, .any), (4, .any), (5, .any), (7, .any), (8, .any), (9, .any)]
def Zo : Nm := [(1, .any), (4, .any), (7, .any), (8, .any)]
def Jfv : An := (.seq (.seq .leaf (.cond .leaf .leaf)) (.seq (.block none .leaf) .leaf))
def Jow (r0 : Q6) : An := (.seq .leaf (.seq .leaf (.seq (.seq .leaf (.cond (.seq .leaf .leaf) .leaf)) (.seq .leaf (.seq (.seq .leaf (.block none (.sum Yl N36 r0))) (.seq .leaf (.seq .leaf .leaf)))))))
noncomputable def V6 (f : Nat) (rc : Bool → Bool → List PV → Int → List PV → List PV → List PV → List PV → Option Res) (k0 : Bool → Bool → List PV → List PV → List PV → List PV → Option Res) (v0 : Bool) (v1 : Bool) (v2 : List PV) (v3 : Int) (v4 : List PV) (v5 : List PV) (v6 : List PV) (v7 : List PV) : Option Res := bif decide (v3 < 64) then bif decide (0 ≤ v3) && decide (v3 < zi 64) && true then bif PV.isInt IntKind.u8 (Jn (v5.getD (0 + v3.toNat) PV.top) []) && true then bif decide (0 ≤ v3) && decide (v3 < zi 64) && true then bif PV.isInt IntKind.u8 (Jn (v5.getD (0 + v3.toNat) PV.top) []) && true then bif decide (0 ≤ v3) && decide (v3 < zi 64) && true then bif decide (0 ≤ v3) && decide (v3 < zi 64) && true then rc v0 v1 v2 (IntKind.i64.wrap (v3 + 1)) v4 v5 (v6.set (0 + v3.toNat) (.sc (.int .u8 (JE BinOp.xor IntKind.u8 (Jn (v5.getD (0 + v3.toNat) PV.top) []).int 54)))) (v7.set (0 + v3.toNat) (.sc (.int .u8 (JE BinOp.xor IntKind.u8 (Jn (v5.getD (0 + v3.toNat) PV.top) []).int 92)))) else none else none else none else none else none else none else k0 v0 v1 v2 v4 v6 v7
noncomputable def WW (f : Nat) (k0 : Bool → Bool → List PV → List PV → List PV → List PV → Option Res) : Nat → Bool → Bool → List PV → Int → List PV → List PV → List PV → List PV → Option Res
  | 0, _, _, _, _, _, _, _, _ => none
  | n + 1, v0, v1, v2, v3, v4, v5, v6, v7 => V6 f (WW f k0 n) k0 v0 v1 v2 v3 v4 v5 v6 v7
theorem Jox (f : Nat) (k : Kont) (n : Nat) (v0 : Bool) (v1 : Bool) (v2 : List PV) (v3 : Int) (v4 : List PV) (v5 : List PV) (v6 : List PV) (v7 : List PV) : Jq tau 0 Yl (fun s k => ev tau F36 0 0 JcD (Jfv ) s k) (n + 1) (Je Yl N36 [.ro 5 v0 v1 v2, .ptr 864 [], .ow 5 865 [] 0 64 (some 64), .ow 5 866 [] 0 64 (some 64), .ow 5 867 [] 0 64 (some 64), .sc (.int .i64 v3)] [(864, .box false 37 (PV.ar 37 v4)), (865, .vec false 5 false v5), (866, .vec false 5 false v6), (867, .vec false 5 false v7)]) (Jz tau 0 Zo k) = V6 f (fun v0 v1 v2 v3 v4 v5 v6 v7 => Jq tau 0 Yl (fun s k => ev tau F36 0 0 JcD (Jfv ) s k) n (Je Yl N36 [.ro 5 v0 v1 v2, .ptr 864 [], .ow 5 865 [] 0 64 (some 64), .ow 5 866 [] 0 64 (some 64), .ow 5 867 [] 0 64 (some 64), .sc (.int .i64 v3)] [(864, .box false 37 (PV.ar 37 v4)), (865, .vec false 5 false v5), (866, .vec false 5 false v6), (867, .vec false 5 false v7)]) (Jz tau 0 Zo k)) (fun x0 x1 x2 x3 x4 x5 => k (Ex.exit 0) (Je Zo N36 [.ro 5 x0 x1 x2, .ptr 864 [], .ow 5 865 [] 0 64 (some 64), .ow 5 866 [] 0 64 (some 64)] [(864, .box false 37 (PV.ar 37 x3)), (865, .vec false 5 false x4), (866, .vec false 5 false x5)])) v0 v1 v2 v3 v4 v5 v6 v7 := by kernel_rfl
theorem JiX (f : Nat) (k : Kont) : ∀ (n : Nat) (v0 : Bool) (v1 : Bool) (v2 : List PV) (v3 : Int) (v4 : List PV) (v5 : List PV) (v6 : List PV) (v7 : List PV), Jq tau 0 Yl (fun s k => ev tau F36 0 0 JcD (Jfv ) s k) n (Je Yl N36 [.ro 5 v0 v1 v2, .ptr 864 [], .ow 5 865 [] 0 64 (some 64), .ow 5 866 [] 0 64 (some 64), .ow 5 867 [] 0 64 (some 64), .sc (.int .i64 v3)] [(864, .box false 37 (PV.ar 37 v4)), (865, .vec false 5 false v5), (866, .vec false 5 false v6), (867, .vec false 5 false v7)]) (Jz tau 0 Zo k) = WW f (fun x0 x1 x2 x3 x4 x5 => k (Ex.exit 0) (Je Zo N36 [.ro 5 x0 x1 x2, .ptr 864 [], .ow 5 865 [] 0 64 (some 64), .ow 5 866 [] 0 64 (some 64)] [(864, .box false 37 (PV.ar 37 x3)), (865, .vec false 5 false x4), (866, .vec false 5 false x5)])) n v0 v1 v2 v3 v4 v5 v6 v7 | 0, _, _, _, _, _, _, _, _ => rfl | n + 1, v0, v1, v2, v3, v4, v5, v6, v7 => (Jox f k n v0 v1 v2 v3 v4 v5 v6 v7).trans (congrArg (fun r => V6 f r (fun x0 x1 x2 x3 x4 x5 => k (Ex.exit 0) (Je Zo N36 [.ro 5 x0 x1 x2, .ptr 864 [], .ow 5 865 [] 0 64 (some 64), .ow 5 866 [] 0 64 (some 64)] [(864, .box false 37 (PV.ar 37 x3)), (865, .vec false 5 false x4), (866, .vec false 5 false x5)])) v0 v1 v2 v3 v4 v5 v6 v7) (by funext v0 v1 v2 v3 v4 v5 v6 v7; exact JiX f k n v0 v1 v2 v3 v4 v5 v6 v7))
noncomputable def Jbz (f : Nat) : List PV → List (Nat × Ent) → Kont → Option Res
  | [.ro 5 v0 v1 v2, .ptr 864 [], .ow 5 865 [] 0 64 (some 64), .ow 5 866 [] 0 64 (some 64), .ow 5 867 [] 0 64 (some 64),
  PV.sc
    (Value.int IntKind.i64
      v3)], [(864, .box false 37 (PV.ar 37 v4)), (865, .vec false 5 false v5), (866, .vec false 5 false v6),
  (867,
    Ent.vec false 5 false
      v7)], k => WW f (fun x0 x1 x2 x3 x4 x5 => k (Ex.exit
  0) (Je Zo N36 [.ro 5 x0 x1 x2, .ptr 864 [], .ow 5 865 [] 0 64 (some 64),
  PV.ow 5 866 [] 0 64 (some 64)] [(864, .box false 37 (PV.ar 37 x3)), (865, .vec false 5 false x4), (866, .vec false 5 false x5)])) f v0 v1 v2 v3 v4 v5 v6 v7
  | _, _, _ => none
theorem Jtg (f : Nat) : Ji JcD Jfv = [] := by kernel_rfl
theorem Jx6 (f : Nat) : (Item.l JcD Yl N36 (Jbz f)).Ok tau Try.prog 0 := JM Js JlU Jt (x := Jfv) (nm2 := Zo) (Jr _ _ (by rw [Jtg f]; intro q hq; cases hq)) fun vs hp k res hr => by
  unfold Jbz at hr
  split at hr
  · exact ⟨f, 0, (JiX f _ f _ _ _ _ _ _ _ _ ).trans hr⟩
  · cases hr
noncomputable def g36 (f : Nat) (key_z : Bool) (key_f : Bool) (key : List PV) (text_z : Bool) (text_f : Bool) (text : List PV) (k : Res → Option Res) : Option Res := bif decide (zi key.length > 64) then bif Jd IntKind.u8 key && decide (key.length ≤ 140737488355000) then WW f (fun x0_0 x1_0 x2_0 x3_0 x4_0 x5_0 => bif Jj (64 + x2_0.length) 1 && true then bif Jd IntKind.u8 (List.take (64 + x2_0.length) (List.take 64 x4_0 ++ x2_0)) && decide ((List.take (64 + x2_0.length) (List.take 64 x4_0 ++ x2_0)).length ≤ 140737488355000) then bif Jj (64 + (List.take 32 (pu IntKind.u8 (Ju (Jh (List.take (64 + x2_0.length) (List.take 64 x4_0 ++ x2_0)))))).length) 1 && true then bif Jd IntKind.u8 (List.take (64 + (List.take 32 (pu IntKind.u8 (Ju (Jh (List.take (64 + x2_0.length) (List.take 64 x4_0 ++ x2_0)))))).length) (List.take 64 x5_0 ++ List.take 32 (pu IntKind.u8 (Ju (Jh (List.take (64 + x2_0.length) (List.take 64 x4_0 ++ x2_0))))))) && decide ((List.take (64 + (List.take 32 (pu IntKind.u8 (Ju (Jh (List.take (64 + x2_0.length) (List.take 64 x4_0 ++ x2_0)))))).length) (List.take 64 x5_0 ++ List.take 32 (pu IntKind.u8 (Ju (Jh (List.take (64 + x2_0.length) (List.take 64 x4_0 ++ x2_0))))))).length ≤ 140737488355000) then k (Res.mk (.ar 37 (pu IntKind.u8 (Ju (Jh (List.take (64 + (List.take 32 (pu IntKind.u8 (Ju (Jh (List.take (64 + x2_0.length) (List.take 64 x4_0 ++ x2_0)))))).length) (List.take 64 x5_0 ++ List.take 32 (pu IntKind.u8 (Ju (Jh (List.take (64 + x2_0.length) (List.take 64 x4_0 ++ x2_0))))))))))) [] []) else none else none else none else none) f text_z text_f text (0) ([.sc (.int .u8 0), .sc (.int .u8 0), .sc (.int .u8 0), .sc (.int .u8 0), .sc (.int .u8 0), .sc (.int .u8 0), .sc (.int .u8 0), .sc (.int .u8 0), .sc (.int .u8 0), .sc (.int .u8 0), .sc (.int .u8 0), .sc (.int .u8 0), .sc (.int .u8 0), .sc (.int .u8 0), .sc (.int .u8 0), .sc (.int .u8 0), .sc (.int .u8 0), .sc (.int .u8 0), .sc (.int .u8 0), .sc (.int .u8 0), .sc (.int .u8 0), .sc (.int .u8 0), .sc (.int .u8 0), .sc (.int .u8 0), .sc (.int .u8 0), .sc (.int .u8 0), .sc (.int .u8 0), .sc (.int .u8 0), .sc (.int .u8 0), .sc (.int .u8 0), .sc (.int .u8 0), .sc (.int .u8 0)]) (List.take 64 (List.take 32 (pu IntKind.u8 (Ju (Jh key)))) ++ List.drop (0 + min (List.take 32 (pu IntKind.u8 (Ju (Jh key)))).length 64) z36) (z36) (z36) else none else WW f (fun x0_1 x1_1 x2_1 x3_1 x4_1 x5_1 => bif Jj (64 + x2_1.length) 1 && true then bif Jd IntKind.u8 (List.take (64 + x2_1.length) (List.take 64 x4_1 ++ x2_1)) && decide ((List.take (64 + x2_1.length) (List.take 64 x4_1 ++ x2_1)).length ≤ 140737488355000) then bif Jj (64 + (List.take 32 (pu IntKind.u8 (Ju (Jh (List.take (64 + x2_1.length) (List.take 64 x4_1 ++ x2_1)))))).length) 1 && true then bif Jd IntKind.u8 (List.take (64 + (List.take 32 (pu IntKind.u8 (Ju (Jh (List.take (64 + x2_1.length) (List.take 64 x4_1 ++ x2_1)))))).length) (List.take 64 x5_1 ++ List.take 32 (pu IntKind.u8 (Ju (Jh (List.take (64 + x2_1.length) (List.take 64 x4_1 ++ x2_1))))))) && decide ((List.take (64 + (List.take 32 (pu IntKind.u8 (Ju (Jh (List.take (64 + x2_1.length) (List.take 64 x4_1 ++ x2_1)))))).length) (List.take 64 x5_1 ++ List.take 32 (pu IntKind.u8 (Ju (Jh (List.take (64 + x2_1.length) (List.take 64 x4_1 ++ x2_1))))))).length ≤ 140737488355000) then k (Res.mk (.ar 37 (pu IntKind.u8 (Ju (Jh (List.take (64 + (List.take 32 (pu IntKind.u8 (Ju (Jh (List.take (64 + x2_1.length) (List.take 64 x4_1 ++ x2_1)))))).length) (List.take 64 x5_1 ++ List.take 32 (pu IntKind.u8 (Ju (Jh (List.take (64 + x2_1.length) (List.take 64 x4_1 ++ x2_1))))))))))) [] []) else none else none else none else none) f text_z text_f text (0) ([.sc (.int .u8 0), .sc (.int .u8 0), .sc (.int .u8 0), .sc (.int .u8 0), .sc (.int .u8 0), .sc (.int .u8 0), .sc (.int .u8 0), .sc (.int .u8 0), .sc (.int .u8 0), .sc (.int .u8 0), .sc (.int .u8 0), .sc (.int .u8 0), .sc (.int .u8 0), .sc (.int .u8 0), .sc (.int .u8 0), .sc (.int .u8 0), .sc (.int .u8 0), .sc (.int .u8 0), .sc (.int .u8 0), .sc (.int .u8 0), .sc (.int .u8 0), .sc (.int .u8 0), .sc (.int .u8 0), .sc (.int .u8 0), .sc (.int .u8 0), .sc (.int .u8 0), .sc (.int .u8 0), .sc (.int .u8 0), .sc (.int .u8 0), .sc (.int .u8 0), .sc (.int .u8 0), .sc (.int .u8 0)]) (List.take 64 key ++ List.drop (0 + min key.length 64) z36) (z36) (z36)
theorem e36 (f : Nat) (key_z : Bool) (key_f : Bool) (key : List PV) (text_z : Bool) (text_f : Bool) (text : List PV) (k : Res → Option Res) : JN tau F36 Try.f36 (Try.f36.body.get!) (Jow (Jbz f)) [.ro] 0 [.ro 5 key_z key_f key, .ro 5 text_z text_f text] [] k = g36 f key_z key_f key text_z text_f text k := by kernel_rfl
theorem JAP (f : Nat) : Ji (Try.f36.body.get!) (Jow (Jbz f)) = [.l JcD Yl N36 (Jbz f)] := by kernel_rfl
theorem JAQ (f : Nat) : ∀ q ∈ Ji (Try.f36.body.get!) (Jow (Jbz f)), q.Ok tau Try.prog 0 := by
  rw [JAP f]; simp only [List.forall_mem_cons, List.not_mem_nil, false_implies, implies_true, and_true]; exact Jx6 f
theorem Jx7 : Try.prog.funcs[36]? = some Try.f36 := by kernel_rfl
theorem Jx8 : Try.f36.body = some (Try.f36.body.get!) := by kernel_rfl
theorem Jx9 : Enters Try.prog 36 := enters_of Jx7 (by kernel_rfl) Jx8
-- FN ref3.Mac
theorem JcE (K : List Int) (hK : K.length = 64) (x : Int) : (List.range 64).map (fun j => JE .xor .u8 (K.getD j 0) x) = JT K x := by
  rw [← Jfb K hK x]
  apply List.map_congr_left
  intro j _
  exact ZR _ _ _
theorem JqS (K : List Int) (hK : K.length = 64) (f : Nat) (k0 : Bool → Bool → List PV → List PV → List PV → List PV → Option Res) (tz tf : Bool) (text h : List PV) : ∀ (d i n : Nat), i + d = 64 → d < n →
    WW f k0 n tz tf text (i : Int) h (pu .u8 K) (pu .u8 (Qs (fun j => JE .xor .u8 (K.getD j 0) 54) (List.replicate 64 0) i)) (pu .u8 (Qs (fun j => JE .xor .u8 (K.getD j 0) 92) (List.replicate 64 0) i)) = k0 tz tf text h (pu .u8 (JT K 54)) (pu .u8 (JT K 92))
  | 0, i, n + 1, hh, hn => by
      obtain rfl : i = 64 := by omega
      simp only [WW, V6]
      refine (Jx (by decide)).trans ?_
      have h1 := QP (fun j => JE .xor .u8 (K.getD j 0) 54) (List.replicate 64 0)
      have h2 := QP (fun j => JE .xor .u8 (K.getD j 0) 92) (List.replicate 64 0)
      rw [List.length_replicate] at h1 h2
      rw [h1, h2, JcE K hK, JcE K hK]
  | d + 1, i, n + 1, hh, hn => by
      have g1 : ((i : Int)).toNat = i := by omega
      have h1 : IntKind.i64.wrap ((i : Int) + 1) = ((i + 1 : Nat) : Int) := by rw [wrap_i64 (by omega) (by omega)]; omega
      have c0 : (decide (0 ≤ (i : Int)) && decide ((i : Int) < zi 64) && true) = true := by simp; omega
      simp only [WW, V6, g1, h1, Nat.zero_add, Jn]
      rw [JY (by omega), Qn (by omega), Wn, Wn]
      refine (Jb (by simp; omega)).trans ((Jb c0).trans ((Jb rfl).trans ((Jb c0).trans ((Jb rfl).trans ((Jb c0).trans ((Jb c0).trans ?_))))))
      have := JqS K hK f k0 tz tf text h d (i + 1) n (by omega) (by omega)
      rw [← Qo _ _ i (by simp; omega), ← Qo _ _ i (by simp; omega)] at this
      exact this
def ZI (a b text : List PV) (k : Res → Option Res) : Option Res :=
  bif Jj (64 + text.length) 1 && true then
    bif Jd .u8 (List.take (64 + text.length) (List.take 64 a ++ text)) && decide ((List.take (64 + text.length) (List.take 64 a ++ text)).length ≤ 140737488355000) then
      bif Jj (64 + (List.take 32 (pu .u8 (Ju (Jh (List.take (64 + text.length) (List.take 64 a ++ text)))))).length) 1 && true then
        bif Jd .u8 (List.take (64 + (List.take 32 (pu .u8 (Ju (Jh (List.take (64 + text.length) (List.take 64 a ++ text)))))).length) (List.take 64 b ++ List.take 32 (pu .u8 (Ju (Jh (List.take (64 + text.length) (List.take 64 a ++ text)))))))
            && decide ((List.take (64 + (List.take 32 (pu .u8 (Ju (Jh (List.take (64 + text.length) (List.take 64 a ++ text)))))).length) (List.take 64 b ++ List.take 32 (pu .u8 (Ju (Jh (List.take (64 + text.length) (List.take 64 a ++ text))))))).length ≤ 140737488355000) then
          k ⟨.ar 37 (pu .u8 (Ju (Jh (List.take (64 + (List.take 32 (pu .u8 (Ju (Jh (List.take (64 + text.length) (List.take 64 a ++ text)))))).length) (List.take 64 b ++ List.take 32 (pu .u8 (Ju (Jh (List.take (64 + text.length) (List.take 64 a ++ text)))))))))), [], []⟩
        else none
      else none
    else none
  else none
theorem JlV (f : Nat) (kz kf : Bool) (key : List PV) (tz tf : Bool) (text : List PV) (k : Res → Option Res) : g36 f kz kf key tz tf text k =
    (bif decide (zi key.length > 64) then
      bif Jd .u8 key && decide (key.length ≤ 140737488355000) then
        WW f (fun _ _ t _ a b => ZI a b t k) f tz tf text 0 (pu .u8 (List.replicate 32 0)) (kbG (List.take 32 (pu .u8 (Ju (Jh key))))) (pu .u8 (List.replicate 64 0)) (pu .u8 (List.replicate 64 0))
      else none
    else WW f (fun _ _ t _ a b => ZI a b t k) f tz tf text 0 (pu .u8 (List.replicate 32 0)) (kbG key) (pu .u8 (List.replicate 64 0)) (pu .u8 (List.replicate 64 0))) := by kernel_rfl
theorem Jg7 (K T : List Int) (hK : K.length = 64) (hT : T.length ≤ 1000000000) (k : Res → Option Res) :
    ZI (pu .u8 (JT K 54)) (pu .u8 (JT K 92)) (pu .u8 T) k = k ⟨.ar 37 (pu .u8 (Ju (JT K 92 ++ Ju (JT K 54 ++ T)))), [], []⟩ := by
  have e1 : List.take (64 + (pu .u8 T).length) (List.take 64 (pu .u8 (JT K 54)) ++ pu .u8 T) = pu .u8 (JT K 54 ++ T) := by
    rw [List.take_of_length_le (i := 64) (by simp [hK]), List.take_of_length_le (by simp [hK]), ← JR]
  have e2 : ∀ l : List Int, List.take 32 (pu .u8 (Ju l)) = pu .u8 (Ju l) := fun l => List.take_of_length_le (by simp [JZ])
  have e3 : ∀ l : List Int, List.take (64 + (pu .u8 (Ju l)).length) (List.take 64 (pu .u8 (JT K 92)) ++ pu .u8 (Ju l)) = pu .u8 (JT K 92 ++ Ju l) := fun l => by
    rw [List.take_of_length_le (i := 64) (by simp [hK]), List.take_of_length_le (by simp [hK]), ← JR]
  unfold ZI
  rw [e1, e2, e3, Jb (by simp [Jj]; omega), Jb (by rw [JF, JG]; simp [hK]; omega), Jb (by simp [Jj, JZ]), Jb (by rw [JF, JG]; simp [hK, JZ])]
  simp only [Qf]
noncomputable def Jg8 : List PV → List Ent → (Res → Option Res) → Option Res
  | [.ro 5 kz kf key, .ro 5 tz tf text], [], k =>
    bif (Jd .u8 key && decide (key.length ≤ 1000000000)) && (Jd .u8 text && decide (text.length ≤ 1000000000)) then
      k ⟨.ar 37 (pu .u8 (QQ (Jh key) (Jh text))), [], []⟩ else none
  | _, _, _ => none
noncomputable def Jth : Sig := { own := [], run := Jg8 }
theorem Jti (kz kf : Bool) (key : List PV) (tz tf : Bool) (text : List PV) (k : Res → Option Res) (a1 : Jd .u8 key = true) (a2 : key.length ≤ 1000000000) (h3 : Jd .u8 text = true) (h4 : text.length ≤ 1000000000) :
    g36 70 kz kf key tz tf text k = k ⟨.ar 37 (pu .u8 (QQ (Jh key) (Jh text))), [], []⟩ := by
  rw [JlV, Jau, Jfc]
  have hi := Qb a1
  have ht := Qb h3
  have hL : ∀ K : List Int, K.length = 64 → WW 70 (fun _ _ t _ a b => ZI a b t k) 70 tz tf text 0 (pu .u8 (List.replicate 32 0)) (pu .u8 K) (pu .u8 (List.replicate 64 0)) (pu .u8 (List.replicate 64 0)) = k ⟨.ar 37 (pu .u8 (Ju (JT K 92 ++ Ju (JT K 54 ++ Jh text)))), [], []⟩ := by
    intro K hK
    have := JqS K hK 70 (fun _ _ t _ a b => ZI a b t k) tz tf text (pu .u8 (List.replicate 32 0)) 64 0 70 (by omega) (by omega)
    rw [Qz, Qz] at this
    refine this.trans ?_
    have hm := Jg7 K (Jh text) hK (by simpa using h4) k
    rw [← ht] at hm
    exact hm
  by_cases hc : key.length > 64
  · rw [Jb (by simp [zi]; omega), Jb (by simp [a1]; omega), List.take_of_length_le (by simp [JZ]), Jdu _ (by rw [JZ]; omega),
      hL _ (by rw [← Xb (Jh key), VP, if_pos (by simpa using hc)]), VP, if_pos (by simpa using hc)]
  · have hl : (Jh key).length ≤ 64 := by simp; omega
    rw [Jx (by simp [zi]; omega), hi, Jdu _ hl, Qf, hL _ (by rw [← Xb (Jh key), VP, if_neg (by omega)]), VP, if_neg (by omega)]
theorem JqT : Jk tau Try.prog 36 Jth := Jk.mk' fun xs es k res hl hr => by
  change Jg8 xs es k = some res at hr
  unfold Jg8 at hr
  split at hr
  · rename_i kz kf key tz tf text
    obtain ⟨hc, hr⟩ := JL hr
    simp only [Bool.and_eq_true, decide_eq_true_eq] at hc
    obtain ⟨⟨a1, a2⟩, h3, h4⟩ := hc
    exact Qp Js JlU Jt Jx7 Jx8 (Jow (Jbz 70)) [.ro] 0 0 (JAQ 70) hl rfl ((e36 70 kz kf key tz tf text k).trans ((Jti kz kf key tz tf text k a1 a2 h3 h4).trans hr))
  · cases hr


noncomputable def F62 : Fns := JH 59 JlA (JH 28 Jtf (F0))
theorem Jtj : JA tau Try.prog F62 := ((JJ).add JqR Jx1).add JiA JnX
def Joy : An := (.seq .leaf (.seq .leaf .leaf))
noncomputable def g62 (f : Nat) (prev : List PV) (e_S_Body_z : Bool) (e_S_Body_f : Bool) (e_S_Body : List PV) (e_S_Mac : List PV) (e_At : Int) (e_Op_z : Bool) (e_Op_f : Bool) (e_Op : List PV) (e_Hash : List PV) (e_Mac : List PV) (k : Res → Option Res) : Option Res := bif Jj (0 + (List.take 32 prev).length) 1 && true then bif eOk (EV.mk e_S_Body e_S_Mac e_At e_Op) then bif Jj (0 + (List.take 32 prev).length + (List.take (Jg (EV.mk e_S_Body e_S_Mac e_At e_Op)).length (pu IntKind.u8 (Jg (EV.mk e_S_Body e_S_Mac e_At e_Op)))).length) 1 && true then bif Jd IntKind.u8 (List.take (0 + (List.take 32 prev).length + (List.take (Jg (EV.mk e_S_Body e_S_Mac e_At e_Op)).length (pu IntKind.u8 (Jg (EV.mk e_S_Body e_S_Mac e_At e_Op)))).length) (List.take (0 + (List.take 32 prev).length) (List.take 32 prev) ++ List.take (Jg (EV.mk e_S_Body e_S_Mac e_At e_Op)).length (pu IntKind.u8 (Jg (EV.mk e_S_Body e_S_Mac e_At e_Op))))) && decide ((List.take (0 + (List.take 32 prev).length + (List.take (Jg (EV.mk e_S_Body e_S_Mac e_At e_Op)).length (pu IntKind.u8 (Jg (EV.mk e_S_Body e_S_Mac e_At e_Op)))).length) (List.take (0 + (List.take 32 prev).length) (List.take 32 prev) ++ List.take (Jg (EV.mk e_S_Body e_S_Mac e_At e_Op)).length (pu IntKind.u8 (Jg (EV.mk e_S_Body e_S_Mac e_At e_Op))))).length ≤ 140737488355000) then k (Res.mk (.ar 37 (pu IntKind.u8 (Ju (Jh (List.take (0 + (List.take 32 prev).length + (List.take (Jg (EV.mk e_S_Body e_S_Mac e_At e_Op)).length (pu IntKind.u8 (Jg (EV.mk e_S_Body e_S_Mac e_At e_Op)))).length) (List.take (0 + (List.take 32 prev).length) (List.take 32 prev) ++ List.take (Jg (EV.mk e_S_Body e_S_Mac e_At e_Op)).length (pu IntKind.u8 (Jg (EV.mk e_S_Body e_S_Mac e_At e_Op))))))))) [] []) else none else none else none else none
theorem e62 (f : Nat) (prev : List PV) (e_S_Body_z : Bool) (e_S_Body_f : Bool) (e_S_Body : List PV) (e_S_Mac : List PV) (e_At : Int) (e_Op_z : Bool) (e_Op_f : Bool) (e_Op : List PV) (e_Hash : List PV) (e_Mac : List PV) (k : Res → Option Res) : JN tau F62 Try.f62 (Try.f62.body.get!) Joy [.ro] 0 [.ar 37 prev, .st 93 [.st 77 [.ro 5 e_S_Body_z e_S_Body_f e_S_Body, .ar 37 e_S_Mac], .sc (.int .i64 e_At), .ro 99 e_Op_z e_Op_f e_Op, .ar 37 e_Hash, .ar 37 e_Mac]] [] k = g62 f prev e_S_Body_z e_S_Body_f e_S_Body e_S_Mac e_At e_Op_z e_Op_f e_Op e_Hash e_Mac k := by kernel_rfl
theorem JAR (f : Nat) : Ji (Try.f62.body.get!) Joy = [] := by kernel_rfl
theorem JAS (f : Nat) : ∀ q ∈ Ji (Try.f62.body.get!) Joy, q.Ok tau Try.prog 0 := by
  rw [JAR f]; intro q hq; cases hq
theorem Jya : Try.prog.funcs[62]? = some Try.f62 := by kernel_rfl
theorem Jyb : Try.f62.body = some (Try.f62.body.get!) := by kernel_rfl
theorem JAT : Enters Try.prog 62 := enters_of Jya (by kernel_rfl) Jyb
noncomputable def JlW : List PV → List Ent → (Res → Option Res) → Option Res
  | [.ar 37 prev, .st 93 [.st 77 [.ro 5 e_S_Body_z e_S_Body_f e_S_Body, .ar 37 e_S_Mac], .sc (.int .i64 e_At), .ro 99 e_Op_z e_Op_f e_Op, .ar 37 e_Hash, .ar 37 e_Mac]], [], k => g62 0 prev e_S_Body_z e_S_Body_f e_S_Body e_S_Mac e_At e_Op_z e_Op_f e_Op e_Hash e_Mac k
  | _, _, _ => none
noncomputable def s62 : Sig := { own := [], run := JlW }
theorem JAU : Jk tau Try.prog 62 s62 := JV Js Jtj Jt Jya Jyb Joy [.ro] 0 [] JlW (JAS 0) fun xs es k res hr => by
  unfold JlW at hr
  split at hr
  · exact ⟨rfl, 0, (e62 0 _ _ _ _ _ _ _ _ _ _ _  _).trans hr⟩
  · cases hr
-- FN
theorem EntRep.free_none {τ : Tab} {im : Im} {ow : Own} {i : Nat} {e : Ent} {w : World} (he : EntRep τ im ow i e w) (hf : e.free = true) {l : Loc} {b : Nat} (hl : ow i = some l) (hb : l.blk = some b) : im b = none := by
  obtain ⟨loc, h1, h2⟩ := he
  obtain rfl : loc = l := Option.some.inj (h1.symm.trans hl)
  cases e with
  | dead => cases hf
  | box fz t v =>
    obtain ⟨k1, k2, b', cells, el, fr, pre, mid, post, q1, q2, q3, q4, q5, q6, q7, q8⟩ := h2
    have : fz = false := by cases fz with | true => cases hf | false => rfl
    obtain rfl : b = b' := Option.some.inj (hb.symm.trans q1)
    exact q8.1 this
  | vec fz t nl els =>
    obtain ⟨k1, k2, k3⟩ := h2
    have : fz = false := by cases fz with | true => cases hf | false => rfl
    rcases k3 with k3 | ⟨_, b', cells, el, fr, pre, mid, post, q1, q2, q3, q4, q5, q6, q7, q8⟩
    · rw [k3.1] at hb; cases hb
    · obtain rfl : b = b' := Option.some.inj (hb.symm.trans q1)
      exact q8.1 this
theorem Jk.dead {τ : Tab} {P : Program} {g : FuncId} {sg : Sig} (h : Jk τ P g sg) :
    Jk τ P g { own := sg.own, run := fun xs es k => sg.run xs es fun r => bif r.news.isEmpty && decide (r.pars.length ≤ 15) then k ⟨r.val, r.pars, [.dead]⟩ else none } := by
  intro xs es k res hl hrun
  obtain ⟨r, hk, H⟩ := h xs es _ res hl hrun
  obtain ⟨hn, hk'⟩ := JL hk
  rw [Bool.and_eq_true, decide_eq_true_eq] at hn
  refine ⟨⟨r.val, r.pars, [.dead]⟩, hk', fun im ow w us hx hi => (H im ow w us hx hi).mono fun e w' hp => ?_⟩
  obtain ⟨u, im', ow', h1, h2, G⟩ := hp
  have hn0 : r.news = [] := List.isEmpty_iff.1 hn.1
  rw [hn0] at G
  have e16 : JK r.pars [] 16 = none := rfl
  have d16 : JK r.pars [.dead] 16 = some .dead := rfl
  have same : ∀ i, i ≠ 16 → JK r.pars [.dead] i = JK r.pars [] i := by
    intro i hi
    unfold JK
    by_cases h16 : i < 16
    · rw [if_pos h16, if_pos h16]
    · rw [if_neg h16, if_neg h16]
      obtain ⟨m, hm⟩ : ∃ m, i - 16 = m + 1 := ⟨i - 17, by omega⟩
      rw [hm]; rfl
  have o16 : ow' 16 = none := by
    cases ho : ow' 16 with
    | none => rfl
    | some l =>
      obtain ⟨e, he⟩ := G.inv.dom 16 l ho
      rw [e16] at he; cases he
  let ow2 : Own := QD ow' 16 ⟨none, 0, .box 0, 0⟩
  have t16 : ow2 16 = some ⟨none, 0, .box 0, 0⟩ := if_pos rfl
  have tne : ∀ i, i ≠ 16 → ow2 i = ow' i := fun i hi => if_neg hi
  have how : ∀ i l, ow' i = some l → ow2 i = some l := by
    intro i l hil
    by_cases h16 : i = 16
    · subst h16; rw [o16] at hil; cases hil
    · rw [tne i h16]; exact hil
  have live : ∀ i b, Live (JK r.pars [.dead]) ow2 i b → Live (JK r.pars []) ow' i b := by
    rintro i b ⟨e, l, q1, q2, q3, q4⟩
    by_cases h16 : i = 16
    · subst h16; rw [d16] at q1; obtain rfl := Option.some.inj q1; cases q2
    · exact ⟨e, l, by rw [← same i h16]; exact q1, q2, by rw [← tne i h16]; exact q3, q4⟩
  refine ⟨u, im', ow2, h1, Jf.mono (fun _ _ h => h) how _ _ h2, ⟨G.imX, fun i l hil => how i l (G.owX i l hil), ⟨G.inv.imOk, ?_, ?_, ?_⟩, G.size, G.keep, G.newim, fun i b hb => G.newlive i b (live i b hb), G.rest⟩⟩
  · intro i e he
    by_cases h16 : i = 16
    · subst h16; rw [d16] at he; obtain rfl := Option.some.inj he; exact ⟨_, t16, trivial⟩
    · rw [same i h16] at he
      have q := G.inv.ent i e he
      exact EntRep.keep (fun _ _ h => h) how (fun _ _ _ _ _ => rfl) (fun hf l b hl hb => q.free_none hf hl hb) q
  · intro i j b hi hj
    exact G.inv.inj i j b (live i b hi) (live j b hj)
  · intro i l hil
    by_cases h16 : i = 16
    · subst h16; exact ⟨_, d16⟩
    · rw [tne i h16] at hil
      obtain ⟨e, he⟩ := G.inv.dom i l hil
      exact ⟨e, by rw [same i h16]; exact he⟩
noncomputable def Jyc : Sig := { own := s62.own, run := fun xs es k => s62.run xs es fun r => bif r.news.isEmpty && decide (r.pars.length ≤ 15) then k ⟨r.val, r.pars, [.dead]⟩ else none }
theorem Jyd : Jk tau Try.prog 62 Jyc := JAU.dead
noncomputable def F57 : Fns := JH 62 Jyc (JH 59 JlA (JH 36 Jth (F0)))
theorem Jtk : JA tau Try.prog F57 := (((JJ).add JqT Jx9).add JiA JnX).add Jyd JAT
def Joz : An := (.seq .leaf (.seq .leaf (.seq .leaf (.seq .leaf (.seq .leaf .leaf)))))
noncomputable def g57 (f : Nat) (k0_z : Bool) (k0_f : Bool) (k0 : List PV) (k1_z : Bool) (k1_f : Bool) (k1 : List PV) (k2_z : Bool) (k2_f : Bool) (k2 : List PV) (host : Int) (prev : List PV) (s_Body_z : Bool) (s_Body_f : Bool) (s_Body : List PV) (s_Mac : List PV) (at1 : Int) (o_z : Bool) (o_f : Bool) (o : List PV) (k : Res → Option Res) : Option Res := bif Jj (0 + s_Body.length) 1 && true then bif Jj (0 + o.length) 32 && true then bif Jj (0 + (List.take 32 prev).length) 1 && true then bif eOk (EV.mk (List.take (0 + s_Body.length) s_Body) s_Mac at1 (List.take (0 + o.length) o)) then bif Jj (0 + (List.take 32 prev).length + (List.take (Jg (EV.mk (List.take (0 + s_Body.length) s_Body) s_Mac at1 (List.take (0 + o.length) o))).length (pu IntKind.u8 (Jg (EV.mk (List.take (0 + s_Body.length) s_Body) s_Mac at1 (List.take (0 + o.length) o))))).length) 1 && true then bif Jd IntKind.u8 (List.take (0 + (List.take 32 prev).length + (List.take (Jg (EV.mk (List.take (0 + s_Body.length) s_Body) s_Mac at1 (List.take (0 + o.length) o))).length (pu IntKind.u8 (Jg (EV.mk (List.take (0 + s_Body.length) s_Body) s_Mac at1 (List.take (0 + o.length) o))))).length) (List.take (0 + (List.take 32 prev).length) (List.take 32 prev) ++ List.take (Jg (EV.mk (List.take (0 + s_Body.length) s_Body) s_Mac at1 (List.take (0 + o.length) o))).length (pu IntKind.u8 (Jg (EV.mk (List.take (0 + s_Body.length) s_Body) s_Mac at1 (List.take (0 + o.length) o)))))) && decide ((List.take (0 + (List.take 32 prev).length + (List.take (Jg (EV.mk (List.take (0 + s_Body.length) s_Body) s_Mac at1 (List.take (0 + o.length) o))).length (pu IntKind.u8 (Jg (EV.mk (List.take (0 + s_Body.length) s_Body) s_Mac at1 (List.take (0 + o.length) o))))).length) (List.take (0 + (List.take 32 prev).length) (List.take 32 prev) ++ List.take (Jg (EV.mk (List.take (0 + s_Body.length) s_Body) s_Mac at1 (List.take (0 + o.length) o))).length (pu IntKind.u8 (Jg (EV.mk (List.take (0 + s_Body.length) s_Body) s_Mac at1 (List.take (0 + o.length) o)))))).length ≤ 140737488355000) then bif decide (0 ≤ host) && decide (host < zi 3) && true then bif PV.isRo 5 (Jn (PV.st 31 [.ro 5 k0_z k0_f k0, .ro 5 k1_z k1_f k1, .ro 5 k2_z k2_f k2]) [host.toNat]) && true then bif eOk (EV.mk (List.take (0 + s_Body.length) s_Body) s_Mac at1 (List.take (0 + o.length) o)) then bif Jj ((Jg (EV.mk (List.take (0 + s_Body.length) s_Body) s_Mac at1 (List.take (0 + o.length) o))).length + (List.take 32 (pu IntKind.u8 (Ju (Jh (List.take (0 + (List.take 32 prev).length + (List.take (Jg (EV.mk (List.take (0 + s_Body.length) s_Body) s_Mac at1 (List.take (0 + o.length) o))).length (pu IntKind.u8 (Jg (EV.mk (List.take (0 + s_Body.length) s_Body) s_Mac at1 (List.take (0 + o.length) o))))).length) (List.take (0 + (List.take 32 prev).length) (List.take 32 prev) ++ List.take (Jg (EV.mk (List.take (0 + s_Body.length) s_Body) s_Mac at1 (List.take (0 + o.length) o))).length (pu IntKind.u8 (Jg (EV.mk (List.take (0 + s_Body.length) s_Body) s_Mac at1 (List.take (0 + o.length) o)))))))))).length) 1 && true then bif Jd IntKind.u8 (Jn (PV.st 31 [.ro 5 k0_z k0_f k0, .ro 5 k1_z k1_f k1, .ro 5 k2_z k2_f k2]) [host.toNat]).els && decide ((Jn (PV.st 31 [.ro 5 k0_z k0_f k0, .ro 5 k1_z k1_f k1, .ro 5 k2_z k2_f k2]) [host.toNat]).els.length ≤ 1000000000) && (Jd IntKind.u8 (List.take ((Jg (EV.mk (List.take (0 + s_Body.length) s_Body) s_Mac at1 (List.take (0 + o.length) o))).length + (List.take 32 (pu IntKind.u8 (Ju (Jh (List.take (0 + (List.take 32 prev).length + (List.take (Jg (EV.mk (List.take (0 + s_Body.length) s_Body) s_Mac at1 (List.take (0 + o.length) o))).length (pu IntKind.u8 (Jg (EV.mk (List.take (0 + s_Body.length) s_Body) s_Mac at1 (List.take (0 + o.length) o))))).length) (List.take (0 + (List.take 32 prev).length) (List.take 32 prev) ++ List.take (Jg (EV.mk (List.take (0 + s_Body.length) s_Body) s_Mac at1 (List.take (0 + o.length) o))).length (pu IntKind.u8 (Jg (EV.mk (List.take (0 + s_Body.length) s_Body) s_Mac at1 (List.take (0 + o.length) o)))))))))).length) (List.take (Jg (EV.mk (List.take (0 + s_Body.length) s_Body) s_Mac at1 (List.take (0 + o.length) o))).length (pu IntKind.u8 (Jg (EV.mk (List.take (0 + s_Body.length) s_Body) s_Mac at1 (List.take (0 + o.length) o)))) ++ List.take 32 (pu IntKind.u8 (Ju (Jh (List.take (0 + (List.take 32 prev).length + (List.take (Jg (EV.mk (List.take (0 + s_Body.length) s_Body) s_Mac at1 (List.take (0 + o.length) o))).length (pu IntKind.u8 (Jg (EV.mk (List.take (0 + s_Body.length) s_Body) s_Mac at1 (List.take (0 + o.length) o))))).length) (List.take (0 + (List.take 32 prev).length) (List.take 32 prev) ++ List.take (Jg (EV.mk (List.take (0 + s_Body.length) s_Body) s_Mac at1 (List.take (0 + o.length) o))).length (pu IntKind.u8 (Jg (EV.mk (List.take (0 + s_Body.length) s_Body) s_Mac at1 (List.take (0 + o.length) o))))))))))) && decide ((List.take ((Jg (EV.mk (List.take (0 + s_Body.length) s_Body) s_Mac at1 (List.take (0 + o.length) o))).length + (List.take 32 (pu IntKind.u8 (Ju (Jh (List.take (0 + (List.take 32 prev).length + (List.take (Jg (EV.mk (List.take (0 + s_Body.length) s_Body) s_Mac at1 (List.take (0 + o.length) o))).length (pu IntKind.u8 (Jg (EV.mk (List.take (0 + s_Body.length) s_Body) s_Mac at1 (List.take (0 + o.length) o))))).length) (List.take (0 + (List.take 32 prev).length) (List.take 32 prev) ++ List.take (Jg (EV.mk (List.take (0 + s_Body.length) s_Body) s_Mac at1 (List.take (0 + o.length) o))).length (pu IntKind.u8 (Jg (EV.mk (List.take (0 + s_Body.length) s_Body) s_Mac at1 (List.take (0 + o.length) o)))))))))).length) (List.take (Jg (EV.mk (List.take (0 + s_Body.length) s_Body) s_Mac at1 (List.take (0 + o.length) o))).length (pu IntKind.u8 (Jg (EV.mk (List.take (0 + s_Body.length) s_Body) s_Mac at1 (List.take (0 + o.length) o)))) ++ List.take 32 (pu IntKind.u8 (Ju (Jh (List.take (0 + (List.take 32 prev).length + (List.take (Jg (EV.mk (List.take (0 + s_Body.length) s_Body) s_Mac at1 (List.take (0 + o.length) o))).length (pu IntKind.u8 (Jg (EV.mk (List.take (0 + s_Body.length) s_Body) s_Mac at1 (List.take (0 + o.length) o))))).length) (List.take (0 + (List.take 32 prev).length) (List.take 32 prev) ++ List.take (Jg (EV.mk (List.take (0 + s_Body.length) s_Body) s_Mac at1 (List.take (0 + o.length) o))).length (pu IntKind.u8 (Jg (EV.mk (List.take (0 + s_Body.length) s_Body) s_Mac at1 (List.take (0 + o.length) o))))))))))).length ≤ 1000000000)) then k (Res.mk (.st 93 [.st 77 [.ro 5 false false (List.take (0 + s_Body.length) s_Body), .ar 37 s_Mac], .sc (.int .i64 at1), .ro 99 false false (List.take (0 + o.length) o), .ar 37 (pu IntKind.u8 (Ju (Jh (List.take (0 + (List.take 32 prev).length + (List.take (Jg (EV.mk (List.take (0 + s_Body.length) s_Body) s_Mac at1 (List.take (0 + o.length) o))).length (pu IntKind.u8 (Jg (EV.mk (List.take (0 + s_Body.length) s_Body) s_Mac at1 (List.take (0 + o.length) o))))).length) (List.take (0 + (List.take 32 prev).length) (List.take 32 prev) ++ List.take (Jg (EV.mk (List.take (0 + s_Body.length) s_Body) s_Mac at1 (List.take (0 + o.length) o))).length (pu IntKind.u8 (Jg (EV.mk (List.take (0 + s_Body.length) s_Body) s_Mac at1 (List.take (0 + o.length) o))))))))), .ar 37 (pu IntKind.u8 (QQ (Jh (Jn (PV.st 31 [.ro 5 k0_z k0_f k0, .ro 5 k1_z k1_f k1, .ro 5 k2_z k2_f k2]) [host.toNat]).els) (Jh (List.take ((Jg (EV.mk (List.take (0 + s_Body.length) s_Body) s_Mac at1 (List.take (0 + o.length) o))).length + (List.take 32 (pu IntKind.u8 (Ju (Jh (List.take (0 + (List.take 32 prev).length + (List.take (Jg (EV.mk (List.take (0 + s_Body.length) s_Body) s_Mac at1 (List.take (0 + o.length) o))).length (pu IntKind.u8 (Jg (EV.mk (List.take (0 + s_Body.length) s_Body) s_Mac at1 (List.take (0 + o.length) o))))).length) (List.take (0 + (List.take 32 prev).length) (List.take 32 prev) ++ List.take (Jg (EV.mk (List.take (0 + s_Body.length) s_Body) s_Mac at1 (List.take (0 + o.length) o))).length (pu IntKind.u8 (Jg (EV.mk (List.take (0 + s_Body.length) s_Body) s_Mac at1 (List.take (0 + o.length) o)))))))))).length) (List.take (Jg (EV.mk (List.take (0 + s_Body.length) s_Body) s_Mac at1 (List.take (0 + o.length) o))).length (pu IntKind.u8 (Jg (EV.mk (List.take (0 + s_Body.length) s_Body) s_Mac at1 (List.take (0 + o.length) o)))) ++ List.take 32 (pu IntKind.u8 (Ju (Jh (List.take (0 + (List.take 32 prev).length + (List.take (Jg (EV.mk (List.take (0 + s_Body.length) s_Body) s_Mac at1 (List.take (0 + o.length) o))).length (pu IntKind.u8 (Jg (EV.mk (List.take (0 + s_Body.length) s_Body) s_Mac at1 (List.take (0 + o.length) o))))).length) (List.take (0 + (List.take 32 prev).length) (List.take 32 prev) ++ List.take (Jg (EV.mk (List.take (0 + s_Body.length) s_Body) s_Mac at1 (List.take (0 + o.length) o))).length (pu IntKind.u8 (Jg (EV.mk (List.take (0 + s_Body.length) s_Body) s_Mac at1 (List.take (0 + o.length) o))))))))))))))]) [] []) else none else none else none else none else none else none else none else none else none else none else none
theorem e57 (f : Nat) (k0_z : Bool) (k0_f : Bool) (k0 : List PV) (k1_z : Bool) (k1_f : Bool) (k1 : List PV) (k2_z : Bool) (k2_f : Bool) (k2 : List PV) (host : Int) (prev : List PV) (s_Body_z : Bool) (s_Body_f : Bool) (s_Body : List PV) (s_Mac : List PV) (at1 : Int) (o_z : Bool) (o_f : Bool) (o : List PV) (k : Res → Option Res) : JN tau F57 Try.f57 (Try.f57.body.get!) Joz [.ro] 0 [.st 31 [.ro 5 k0_z k0_f k0, .ro 5 k1_z k1_f k1, .ro 5 k2_z k2_f k2], .sc (.int .i64 host), .ar 37 prev, .st 77 [.ro 5 s_Body_z s_Body_f s_Body, .ar 37 s_Mac], .sc (.int .i64 at1), .ro 99 o_z o_f o] [] k = g57 f k0_z k0_f k0 k1_z k1_f k1 k2_z k2_f k2 host prev s_Body_z s_Body_f s_Body s_Mac at1 o_z o_f o k := by kernel_rfl
theorem JAV (f : Nat) : Ji (Try.f57.body.get!) Joz = [] := by kernel_rfl
theorem JAW (f : Nat) : ∀ q ∈ Ji (Try.f57.body.get!) Joz, q.Ok tau Try.prog 0 := by
  rw [JAV f]; intro q hq; cases hq
theorem Jye : Try.prog.funcs[57]? = some Try.f57 := by kernel_rfl
theorem Jyf : Try.f57.body = some (Try.f57.body.get!) := by kernel_rfl
theorem JAX : Enters Try.prog 57 := enters_of Jye (by kernel_rfl) Jyf
noncomputable def JlX : List PV → List Ent → (Res → Option Res) → Option Res
  | [.st 31 [.ro 5 k0_z k0_f k0, .ro 5 k1_z k1_f k1, .ro 5 k2_z k2_f k2], .sc (.int .i64 host), .ar 37 prev, .st 77 [.ro 5 s_Body_z s_Body_f s_Body, .ar 37 s_Mac], .sc (.int .i64 at1), .ro 99 o_z o_f o], [], k => g57 0 k0_z k0_f k0 k1_z k1_f k1 k2_z k2_f k2 host prev s_Body_z s_Body_f s_Body s_Mac at1 o_z o_f o k
  | _, _, _ => none
noncomputable def s57 : Sig := { own := [], run := JlX }
theorem JAY : Jk tau Try.prog 57 s57 := JV Js Jtk Jt Jye Jyf Joz [.ro] 0 [] JlX (JAW 0) fun xs es k res hr => by
  unfold JlX at hr
  split at hr
  · exact ⟨rfl, 0, (e57 0 _ _ _ _ _ _ _ _ _ _ _ _ _ _ _ _ _ _ _  _).trans hr⟩
  · cases hr
noncomputable def F61 : Fns := JH 59 JlA (JH 36 Jth (F0))
theorem Jtl : JA tau Try.prog F61 := ((JJ).add JqT Jx9).add JiA JnX
def JoA : An := (.seq .leaf (.seq (.seq .leaf (.cond (.seq .leaf .leaf) .leaf)) (.seq .leaf .leaf)))
noncomputable def g61 (f : Nat) (k0_z : Bool) (k0_f : Bool) (k0 : List PV) (k1_z : Bool) (k1_f : Bool) (k1 : List PV) (k2_z : Bool) (k2_f : Bool) (k2 : List PV) (host : Int) (e_S_Body_z : Bool) (e_S_Body_f : Bool) (e_S_Body : List PV) (e_S_Mac : List PV) (e_At : Int) (e_Op_z : Bool) (e_Op_f : Bool) (e_Op : List PV) (e_Hash : List PV) (e_Mac : List PV) (k : Res → Option Res) : Option Res := bif decide (host < 0) then k (Res.mk (.sc (.bool false)) [] []) else bif decide (host ≥ 3) then k (Res.mk (.sc (.bool false)) [] []) else bif decide (0 ≤ host) && decide (host < zi 3) && true then bif PV.isRo 5 (Jn (PV.st 31 [.ro 5 k0_z k0_f k0, .ro 5 k1_z k1_f k1, .ro 5 k2_z k2_f k2]) [host.toNat]) && true then bif eOk (EV.mk e_S_Body e_S_Mac e_At e_Op) then bif Jj ((Jg (EV.mk e_S_Body e_S_Mac e_At e_Op)).length + (List.take 32 e_Hash).length) 1 && true then bif Jd IntKind.u8 (Jn (PV.st 31 [.ro 5 k0_z k0_f k0, .ro 5 k1_z k1_f k1, .ro 5 k2_z k2_f k2]) [host.toNat]).els && decide ((Jn (PV.st 31 [.ro 5 k0_z k0_f k0, .ro 5 k1_z k1_f k1, .ro 5 k2_z k2_f k2]) [host.toNat]).els.length ≤ 1000000000) && (Jd IntKind.u8 (List.take ((Jg (EV.mk e_S_Body e_S_Mac e_At e_Op)).length + (List.take 32 e_Hash).length) (List.take (Jg (EV.mk e_S_Body e_S_Mac e_At e_Op)).length (pu IntKind.u8 (Jg (EV.mk e_S_Body e_S_Mac e_At e_Op))) ++ List.take 32 e_Hash)) && decide ((List.take ((Jg (EV.mk e_S_Body e_S_Mac e_At e_Op)).length + (List.take 32 e_Hash).length) (List.take (Jg (EV.mk e_S_Body e_S_Mac e_At e_Op)).length (pu IntKind.u8 (Jg (EV.mk e_S_Body e_S_Mac e_At e_Op))) ++ List.take 32 e_Hash)).length ≤ 1000000000)) then bif decide (e_Mac.length = 32) && decide ((pu IntKind.u8 (QQ (Jh (Jn (PV.st 31 [.ro 5 k0_z k0_f k0, .ro 5 k1_z k1_f k1, .ro 5 k2_z k2_f k2]) [host.toNat]).els) (Jh (List.take ((Jg (EV.mk e_S_Body e_S_Mac e_At e_Op)).length + (List.take 32 e_Hash).length) (List.take (Jg (EV.mk e_S_Body e_S_Mac e_At e_Op)).length (pu IntKind.u8 (Jg (EV.mk e_S_Body e_S_Mac e_At e_Op))) ++ List.take 32 e_Hash))))).length = 32) && Jd IntKind.u8 e_Mac && Jd IntKind.u8 (pu IntKind.u8 (QQ (Jh (Jn (PV.st 31 [.ro 5 k0_z k0_f k0, .ro 5 k1_z k1_f k1, .ro 5 k2_z k2_f k2]) [host.toNat]).els) (Jh (List.take ((Jg (EV.mk e_S_Body e_S_Mac e_At e_Op)).length + (List.take 32 e_Hash).length) (List.take (Jg (EV.mk e_S_Body e_S_Mac e_At e_Op)).length (pu IntKind.u8 (Jg (EV.mk e_S_Body e_S_Mac e_At e_Op))) ++ List.take 32 e_Hash))))) && true then k (Res.mk (.sc (.bool (J6 e_Mac (pu IntKind.u8 (QQ (Jh (Jn (PV.st 31 [.ro 5 k0_z k0_f k0, .ro 5 k1_z k1_f k1, .ro 5 k2_z k2_f k2]) [host.toNat]).els) (Jh (List.take ((Jg (EV.mk e_S_Body e_S_Mac e_At e_Op)).length + (List.take 32 e_Hash).length) (List.take (Jg (EV.mk e_S_Body e_S_Mac e_At e_Op)).length (pu IntKind.u8 (Jg (EV.mk e_S_Body e_S_Mac e_At e_Op))) ++ List.take 32 e_Hash)))))))) [] []) else none else none else none else none else none else none
theorem e61 (f : Nat) (k0_z : Bool) (k0_f : Bool) (k0 : List PV) (k1_z : Bool) (k1_f : Bool) (k1 : List PV) (k2_z : Bool) (k2_f : Bool) (k2 : List PV) (host : Int) (e_S_Body_z : Bool) (e_S_Body_f : Bool) (e_S_Body : List PV) (e_S_Mac : List PV) (e_At : Int) (e_Op_z : Bool) (e_Op_f : Bool) (e_Op : List PV) (e_Hash : List PV) (e_Mac : List PV) (k : Res → Option Res) : JN tau F61 Try.f61 (Try.f61.body.get!) JoA [.ro] 0 [.st 31 [.ro 5 k0_z k0_f k0, .ro 5 k1_z k1_f k1, .ro 5 k2_z k2_f k2], .sc (.int .i64 host), .st 93 [.st 77 [.ro 5 e_S_Body_z e_S_Body_f e_S_Body, .ar 37 e_S_Mac], .sc (.int .i64 e_At), .ro 99 e_Op_z e_Op_f e_Op, .ar 37 e_Hash, .ar 37 e_Mac]] [] k = g61 f k0_z k0_f k0 k1_z k1_f k1 k2_z k2_f k2 host e_S_Body_z e_S_Body_f e_S_Body e_S_Mac e_At e_Op_z e_Op_f e_Op e_Hash e_Mac k := by kernel_rfl
theorem JAZ (f : Nat) : Ji (Try.f61.body.get!) JoA = [] := by kernel_rfl
theorem JA0 (f : Nat) : ∀ q ∈ Ji (Try.f61.body.get!) JoA, q.Ok tau Try.prog 0 := by
  rw [JAZ f]; intro q hq; cases hq
theorem Jyg : Try.prog.funcs[61]? = some Try.f61 := by kernel_rfl
theorem Jyh : Try.f61.body = some (Try.f61.body.get!) := by kernel_rfl
theorem JA1 : Enters Try.prog 61 := enters_of Jyg (by kernel_rfl) Jyh
noncomputable def JlY : List PV → List Ent → (Res → Option Res) → Option Res
  | [.st 31 [.ro 5 k0_z k0_f k0, .ro 5 k1_z k1_f k1, .ro 5 k2_z k2_f k2], .sc (.int .i64 host), .st 93 [.st 77 [.ro 5 e_S_Body_z e_S_Body_f e_S_Body, .ar 37 e_S_Mac], .sc (.int .i64 e_At), .ro 99 e_Op_z e_Op_f e_Op, .ar 37 e_Hash, .ar 37 e_Mac]], [], k => g61 0 k0_z k0_f k0 k1_z k1_f k1 k2_z k2_f k2 host e_S_Body_z e_S_Body_f e_S_Body e_S_Mac e_At e_Op_z e_Op_f e_Op e_Hash e_Mac k
  | _, _, _ => none
noncomputable def s61 : Sig := { own := [], run := JlY }
theorem JA2 : Jk tau Try.prog 61 s61 := JV Js Jtl Jt Jyg Jyh JoA [.ro] 0 [] JlY (JA0 0) fun xs es k res hr => by
  unfold JlY at hr
  split at hr
  · exact ⟨rfl, 0, (e61 0 _ _ _ _ _ _ _ _ _ _ _ _ _ _ _ _ _ _ _ _  _).trans hr⟩
  · cases hr
-- FN sign.Delta | sign.Open | sign.Entry | sign.Check | ref9.Delta | ref9.Open | ref9.Next | ref9.Entry | ref9.Check
noncomputable def h32 : List PV → Bool := hid fun h => Jd .u8 h && decide (h.length = 32)
theorem h32_iff {h : List PV} : h32 h = true ↔ Jd .u8 h = true ∧ h.length = 32 := by rw [h32, hid_eq, Bool.and_eq_true, decide_eq_true_eq]
noncomputable def kO3 : List PV → Bool := hid fun l => l.all fun p => kOk p.els
theorem Jd3 {z0 f0 z1 f1 z2 f2 : Bool} {k0 k1 k2 : List PV} : kO3 [.ro 5 z0 f0 k0, .ro 5 z1 f1 k1, .ro 5 z2 f2 k2] = true ↔ kOk k0 = true ∧ kOk k1 = true ∧ kOk k2 = true := by
  rw [kO3, hid_eq]; simp [PV.els]
structure MK where
  (l : List PV) (d : Int) (t : List Int)
noncomputable def mcK : MK → List Int := hid fun m => QQ (Jh (Qv ⟨m.l, m.d⟩)) m.t
theorem Zp (m : MK) : mcK m = QQ (Jh (Qv ⟨m.l, m.d⟩)) m.t := by rw [mcK, hid_eq]
theorem JbA (m : MK) : (mcK m).length = 32 := by rw [Zp]; exact G8 _ _
structure NX where
  (p : List PV) (e : EV)
noncomputable def nxP : NX → List Int := hid fun x => Ju (Jh x.p ++ Jg x.e)
theorem Jg9 (x : NX) : nxP x = Ju (Jh x.p ++ Jg x.e) := by rw [nxP, hid_eq]
theorem Ym (x : NX) : (nxP x).length = 32 := by rw [Jg9]; exact JZ _
structure EM where
  (l : List PV) (d : Int) (e : EV) (h : List PV)
noncomputable def emP : EM → List Int := hid fun x => mcK ⟨x.l, x.d, Jg x.e ++ Jh x.h⟩
theorem GH (x : EM) : emP x = mcK ⟨x.l, x.d, Jg x.e ++ Jh x.h⟩ := by rw [emP, hid_eq]
theorem Yn (x : EM) : (emP x).length = 32 := by rw [GH]; exact JbA _
structure EC where
  (l : List PV) (d : Int) (e : EV) (h m : List PV)
noncomputable def emC : EC → Bool := hid fun x => kIn x.d && (emP ⟨x.l, x.d, x.e, x.h⟩ == Jh x.m)
theorem Jd4 (x : EC) : emC x = (kIn x.d && (emP ⟨x.l, x.d, x.e, x.h⟩ == Jh x.m)) := by rw [emC, hid_eq]
structure SO where
  (l b m : List PV)
noncomputable def Vo (x : SO) : Int := bif dE x.b == 0 then (bif kIn (dF 0 x.b) && (mcK ⟨x.l, dF 0 x.b, Jh x.b⟩ == Jh x.m) then 0 else 14) else dE x.b
noncomputable def soE : SO → Int := hid Vo
noncomputable def soF : Nat → SO → Int := hid fun i x => bif Vo x == 0 then dF i x.b else 0
noncomputable def soH : SO → List Int := hid fun x => bif Vo x == 0 then dH x.b else List.replicate 32 0
noncomputable def soO : SO → List PV := hid fun x => bif Vo x == 0 then dO x.b else []
theorem Jha (x : SO) : soE x = Vo x := by rw [soE, hid_eq]
theorem Jhb (i : Nat) (x : SO) : soF i x = bif Vo x == 0 then dF i x.b else 0 := by rw [soF, hid_eq]
theorem JlZ (x : SO) : soH x = bif Vo x == 0 then dH x.b else List.replicate 32 0 := by rw [soH, hid_eq]
theorem Jl0 (x : SO) : soO x = bif Vo x == 0 then dO x.b else [] := by rw [soO, hid_eq]
noncomputable def soP (x : SO) : PV := .tup [.st 73 [.st 45 [.sc (.int .i64 (soF 0 x)), .sc (.int .i64 (soF 1 x))], .sc (.int .i64 (soF 2 x)), .sc (.int .i64 (soF 3 x)), .ar 37 (pu .u8 (soH x)), .sc (.int .i64 (soF 4 x)), .ro 99 (soO x).isEmpty (soO x).isEmpty (soO x), .st 45 [.sc (.int .i64 (soF 5 x)), .sc (.int .i64 (soF 6 x))]], .sc (.int .i64 (soE x))]
theorem JiY {x : SO} {e : Int} (h : Vo x = e) (h0 : (e == 0) = false) : soP x = JiN e := by
  simp only [soP, JiN, Jhb, JlZ, Jl0, Jha, h, h0, cond_false, List.isEmpty_nil]
theorem Jtm {x : SO} (h : Vo x = 0) : soP x = .tup [.st 73 [.st 45 [.sc (.int .i64 (dF 0 x.b)), .sc (.int .i64 (dF 1 x.b))], .sc (.int .i64 (dF 2 x.b)), .sc (.int .i64 (dF 3 x.b)), .ar 37 (pu .u8 (dH x.b)), .sc (.int .i64 (dF 4 x.b)), .ro 99 (dO x.b).isEmpty (dO x.b).isEmpty (dO x.b), .st 45 [.sc (.int .i64 (dF 5 x.b)), .sc (.int .i64 (dF 6 x.b))]], .sc (.int .i64 0)] := by
  simp only [soP, Jhb, JlZ, Jl0, Jha, h, beq_self_eq_true, cond_true]
theorem fl1 (z f : Bool) (l : List PV) : Jo [.ro 5 z f l] = l := by simp [PV.els]
theorem fl2 (z f z' f' : Bool) (l l' : List PV) : Jo [.ro 5 z f l, .ro 5 z' f' l'] = l ++ l' := by simp [PV.els]
theorem Qq {a b : List PV} (h : Jd .u8 a = true) (h' : Jd .u8 b = true) : Jd .u8 (a ++ b) = true := by
  induction a with
  | nil => exact h'
  | cons p ps ih =>
    have e : ∀ l : List PV, Jd .u8 (p :: l) = (p.isInt .u8 && Jd .u8 l) := fun l => rfl
    rw [e, Bool.and_eq_true] at h
    rw [List.cons_append, e, Bool.and_eq_true]; exact ⟨h.1, ih h.2⟩
theorem XD (a b : List PV) : Jh (a ++ b) = Jh a ++ Jh b := by simp [Jh]
theorem Jl1 {z0 f0 z1 f1 z2 f2 : Bool} {k0 k1 k2 : List PV} (h : kO3 [.ro 5 z0 f0 k0, .ro 5 z1 f1 k1, .ro 5 z2 f2 k2] = true) {d : Int} (hd : QB d 2 = true) :
    PV.isRo 5 (Jn (PV.st 31 [.ro 5 z0 f0 k0, .ro 5 z1 f1 k1, .ro 5 z2 f2 k2]) [d.toNat]) = true ∧ (Jn (PV.st 31 [.ro 5 z0 f0 k0, .ro 5 z1 f1 k1, .ro 5 z2 f2 k2]) [d.toNat]).els = Qv ⟨[.ro 5 z0 f0 k0, .ro 5 z1 f1 k1, .ro 5 z2 f2 k2], d⟩ := by
  rw [Jat, WU, hd]
  simp only [QB, Bool.and_eq_true, decide_eq_true_eq] at hd
  have : d = 0 ∨ d = 1 ∨ d = 2 := by omega
  rcases this with rfl | rfl | rfl <;> exact ⟨rfl, rfl⟩
theorem GI {z0 f0 z1 f1 z2 f2 : Bool} {k0 k1 k2 : List PV} (h : kO3 [.ro 5 z0 f0 k0, .ro 5 z1 f1 k1, .ro 5 z2 f2 k2] = true) (d : Int) : Jd .u8 (Qv ⟨[.ro 5 z0 f0 k0, .ro 5 z1 f1 k1, .ro 5 z2 f2 k2], d⟩) = true ∧ (Qv ⟨[.ro 5 z0 f0 k0, .ro 5 z1 f1 k1, .ro 5 z2 f2 k2], d⟩).length ≤ 1000000000 := by
  obtain ⟨a, b, c⟩ := Jd3.1 h
  have := Jnu (z0 := z0) (f0 := f0) (z1 := z1) (f1 := f1) (z2 := z2) (f2 := f2) a b c d
  rw [kOk, Bool.and_eq_true, decide_eq_true_eq] at this; exact this
theorem JcF {d : DV} (h : dOk d = true) : (dlB d).length ≤ 65618 := by rw [Jbs h]; have := (Ya.1 h).2.2.2; omega
theorem Xi {e : EV} (h : eOk e = true) : (Jg e).length ≤ 131114 := by rw [X9 h]; have := WE.1 h; omega
theorem Jyi {b : List PV} (h : dE b = 0) : QB (dF 0 b) 2 = true := by
  rw [Jfm] at h
  rw [JiM, h]
  show QB (dv b).ad 2 = true
  have hq := h
  unfold dE0 at hq
  cases he : ((d9 b).e == 0) with
  | false => rw [he, cond_false] at hq; rw [hq] at he; cases he
  | true =>
    rw [he, cond_true] at hq
    cases h9 : decide ((d9 b).b.length > 0) with
    | true => rw [h9, cond_true] at hq; exact absurd hq (by decide)
    | false =>
      rw [h9, cond_false] at hq
      cases ho : (opE (dt b) == 0) with
      | false => rw [ho, cond_false] at hq; rw [hq] at ho; cases ho
      | true =>
        rw [ho, cond_true, JdX] at hq
        unfold JlI at hq
        cases hi : inZ (dv b).ad 2 with
        | true => exact hi
        | false => rw [hi, Bool.false_and, cond_false] at hq; exact absurd hq (by decide)
/-! sign.Delta, ref9.Delta -/
noncomputable def Jhc : List PV → List Ent → (Res → Option Res) → Option Res
  | [.st 31 [.ro 5 z0 f0 k0, .ro 5 z1 f1 k1, .ro 5 z2 f2 k2], .st 73 [.st 45 [.sc (.int .i64 ad), .sc (.int .i64 au)], .sc (.int .i64 id1), .sc (.int .i64 ve), .ar 37 h, .sc (.int .i64 kd), .ro 99 oz of o, .st 45 [.sc (.int .i64 wd), .sc (.int .i64 wu)]]], [], k =>
    bif dOk ⟨ad, au, id1, ve, h, kd, o, wd, wu⟩ && kO3 [.ro 5 z0 f0 k0, .ro 5 z1 f1 k1, .ro 5 z2 f2 k2] then
      k ⟨.st 77 [.ro 5 false false (pu .u8 (dlB ⟨ad, au, id1, ve, h, kd, o, wd, wu⟩)), .ar 37 (pu .u8 (mcK ⟨[.ro 5 z0 f0 k0, .ro 5 z1 f1 k1, .ro 5 z2 f2 k2], ad, dlB ⟨ad, au, id1, ve, h, kd, o, wd, wu⟩⟩))], [], []⟩ else none
  | _, _, _ => none
noncomputable def Jyj : Sig := { own := [], run := Jhc }
theorem Jyk : Jk tau Try.prog 46 Jyj := JAo.of fun xs es k res hr => by
  change Jhc xs es k = some res at hr
  unfold Jhc at hr
  split at hr
  · rename_i z0 f0 k0 z1 f1 k1 z2 f2 k2 ad au id1 ve h kd oz of o wd wu
    obtain ⟨hc, hr⟩ := JL hr
    rw [Bool.and_eq_true] at hc
    have hK := GI hc.2 ad
    have hs := JcF hc.1
    refine Eq.trans ?_ hr
    show g46 0 z0 f0 k0 z1 f1 k1 z2 f2 k2 ad au id1 ve h kd oz of o wd wu k = _
    unfold g46
    simp only [fl1, JF, Qf, JG]
    refine (Jb hc.1).trans ((Jb (by rw [hK.1]; simp; omega)).trans ?_)
    rw [Zp]
  · cases hr
/-! sign.Open, ref9.Open -/
noncomputable def Jhd : List PV → List Ent → (Res → Option Res) → Option Res
  | [.st 31 [.ro 5 z0 f0 k0, .ro 5 z1 f1 k1, .ro 5 z2 f2 k2], .st 77 [.ro 5 z f b, .ar 37 m]], [], k =>
    bif (slB z b && byB b) && (h32 m && kO3 [.ro 5 z0 f0 k0, .ro 5 z1 f1 k1, .ro 5 z2 f2 k2]) then
      k ⟨soP ⟨[.ro 5 z0 f0 k0, .ro 5 z1 f1 k1, .ro 5 z2 f2 k2], b, m⟩, [], []⟩ else none
  | _, _, _ => none
noncomputable def Jyl : Sig := { own := [], run := Jhd }
theorem Jym : Jk tau Try.prog 49 Jyl := JAA.of fun xs es k res hr => by
  change Jhd xs es k = some res at hr
  unfold Jhd at hr
  split at hr
  · rename_i z0 f0 k0 z1 f1 k1 z2 f2 k2 z f b m
    obtain ⟨hc, hr⟩ := JL hr
    simp only [Bool.and_eq_true] at hc
    have hK := GI hc.2.2 (dF 0 b)
    obtain ⟨m1, m2⟩ := h32_iff.1 hc.2.1
    have hsl := (Q3.1 hc.1.1).2
    have hab := (QK.1 hc.1.2).1
    refine Eq.trans ?_ hr
    show g49 0 z0 f0 k0 z1 f1 k1 z2 f2 k2 z f b m k = _
    generalize hx : SO.mk [.ro 5 z0 f0 k0, .ro 5 z1 f1 k1, .ro 5 z2 f2 k2] b m = x
    have hxb : x.b = b := by rw [← hx]
    have hE : Vo x = Vo x := rfl
    conv at hE => rhs; unfold Vo
    rw [hxb] at hE
    unfold g49
    simp only [fl1]
    refine (Jb (by rw [hc.1.1, hc.1.2]; rfl)).trans ?_
    cases he : (dE b == 0) with
    | false =>
      rw [he, cond_false] at hE
      rw [JiY hE he]
      exact Jb (by rw [bne, he]; rfl)
    | true =>
      rw [he, cond_true] at hE
      have hi := Jyi (show dE b = 0 by simpa using he)
      have hk : kIn (dF 0 b) = true := by rw [GE]; exact hi
      rw [hk, Bool.true_and] at hE
      refine (Jx (by rw [bne, he]; rfl)).trans ((Jx (by rw [hk]; rfl)).trans ((Jb (by rw [hK.1, hab]; simp; omega)).trans ((Jb (by rw [JF, m1]; simp [G8, m2])).trans ?_)))
      have hmm : mcK ⟨x.l, dF 0 b, Jh b⟩ = QQ (Jh (Qv ⟨[.ro 5 z0 f0 k0, .ro 5 z1 f1 k1, .ro 5 z2 f2 k2], dF 0 b⟩)) (Jh b) := by rw [Zp, ← hx]
      have hxm : x.m = m := by rw [← hx]
      rw [hxm, hmm] at hE
      have hq : J6 (pu .u8 (QQ (Jh (Qv ⟨[.ro 5 z0 f0 k0, .ro 5 z1 f1 k1, .ro 5 z2 f2 k2], dF 0 b⟩)) (Jh b))) m = (QQ (Jh (Qv ⟨[.ro 5 z0 f0 k0, .ro 5 z1 f1 k1, .ro 5 z2 f2 k2], dF 0 b⟩)) (Jh b) == Jh m) := by
        conv => lhs; rw [show m = pu .u8 (Jh m) from (Qb m1)]
        exact WK _ _ _
      rw [hq]
      cases hm : (QQ (Jh (Qv ⟨[.ro 5 z0 f0 k0, .ro 5 z1 f1 k1, .ro 5 z2 f2 k2], dF 0 b⟩)) (Jh b) == Jh m) with
      | false =>
        rw [hm, cond_false] at hE
        rw [JiY hE (by decide)]
        rfl
      | true =>
        rw [hm, cond_true] at hE
        rw [Jtm hE, hxb]
        rfl
  · cases hr
/-! entries -/
noncomputable def Jhe : List PV → List Ent → (Res → Option Res) → Option Res
  | [.st 31 [.ro 5 z0 f0 k0, .ro 5 z1 f1 k1, .ro 5 z2 f2 k2], .sc (.int .i64 ho), .ar 37 pr, .st 77 [.ro 5 z f b, .ar 37 m], .sc (.int .i64 at1), .ro 99 oz of o], [], k =>
    bif (slB z b && eOk ⟨b, m, at1, o⟩) && (h32 pr && kO3 [.ro 5 z0 f0 k0, .ro 5 z1 f1 k1, .ro 5 z2 f2 k2]) then
      k ⟨.st 93 [.st 77 [.ro 5 z z b, .ar 37 m], .sc (.int .i64 at1), .ro 99 o.isEmpty false o, .ar 37 (pu .u8 (nxP ⟨pr, ⟨b, m, at1, o⟩⟩)), .ar 37 (pu .u8 (emP ⟨[.ro 5 z0 f0 k0, .ro 5 z1 f1 k1, .ro 5 z2 f2 k2], ho, ⟨b, m, at1, o⟩, pu .u8 (nxP ⟨pr, ⟨b, m, at1, o⟩⟩)⟩))], [], []⟩ else none
  | _, _, _ => none
noncomputable def Jyn : Sig := { own := [], run := Jhe }
theorem Jyo : Jk tau Try.prog 55 Jyn := JAF.of fun xs es k res hr => by
  change Jhe xs es k = some res at hr
  unfold Jhe at hr
  split at hr
  · rename_i z0 f0 k0 z1 f1 k1 z2 f2 k2 ho pr z f b m at1 oz of o
    obtain ⟨hc, hr⟩ := JL hr
    simp only [Bool.and_eq_true] at hc
    have hK := GI hc.2.2 ho
    obtain ⟨p1, p2⟩ := h32_iff.1 hc.2.1
    obtain ⟨s1, s2⟩ := Q3.1 hc.1.1
    have hcl := Xi hc.1.2
    have heo := WE.1 hc.1.2
    have hol : o.length ≤ 1000 := (Xf.1 heo.2.2.2.2.1).2.2
    have hnl := Ym ⟨pr, ⟨b, m, at1, o⟩⟩
    have htp : List.take 32 pr = pr := List.take_of_length_le (by omega)
    have hth : List.take 32 (pu .u8 (nxP ⟨pr, ⟨b, m, at1, o⟩⟩)) = pu .u8 (nxP ⟨pr, ⟨b, m, at1, o⟩⟩) := List.take_of_length_le (by rw [JG]; omega)
    have hnx : Ju (Jh pr ++ Jg ⟨b, m, at1, o⟩) = nxP ⟨pr, ⟨b, m, at1, o⟩⟩ := by rw [Jg9]
    have hem : QQ (Jh (Qv ⟨[.ro 5 z0 f0 k0, .ro 5 z1 f1 k1, .ro 5 z2 f2 k2], ho⟩)) (Jg ⟨b, m, at1, o⟩ ++ nxP ⟨pr, ⟨b, m, at1, o⟩⟩) = emP ⟨[.ro 5 z0 f0 k0, .ro 5 z1 f1 k1, .ro 5 z2 f2 k2], ho, ⟨b, m, at1, o⟩, pu .u8 (nxP ⟨pr, ⟨b, m, at1, o⟩⟩)⟩ := by rw [GH, Zp, Qf]
    have hnil : (Ent.vec true 99 o.isEmpty o).nil = o.isEmpty := by simp [Ent.nil]
    refine Eq.trans ?_ hr
    show g55 0 z0 f0 k0 z1 f1 k1 z2 f2 k2 ho pr z f b m at1 oz of o k = _
    unfold g55
    cases z with
    | true =>
      obtain rfl := s1 rfl
      simp only [List.take_length, Nat.zero_add, fl2, htp, XD, Qf, hnx, hth, hem, hnil]
      refine (Jb rfl).trans ((Jb (by simp [Jj]; omega)).trans ((Jb hc.1.2).trans ((Jb (by rw [Qq p1 (JF _ _)]; simp; omega)).trans ((Jb (by rw [hK.1, Qq (JF _ _) (JF _ _)]; simp; omega)).trans ?_))))
      rfl
    | false =>
      simp only [List.take_length, Nat.zero_add, fl2, htp, XD, Qf, hnx, hth, hem, hnil]
      refine (Jx rfl).trans ((Jb (by simp [Jj]; omega)).trans ((Jb (by simp [Jj]; omega)).trans ((Jb hc.1.2).trans ((Jb (by rw [Qq p1 (JF _ _)]; simp; omega)).trans ((Jb (by rw [hK.1, Qq (JF _ _) (JF _ _)]; simp; omega)).trans ?_)))))
      rfl
  · cases hr
noncomputable def Jhf : List PV → List Ent → (Res → Option Res) → Option Res
  | [.st 31 [.ro 5 z0 f0 k0, .ro 5 z1 f1 k1, .ro 5 z2 f2 k2], .sc (.int .i64 ho), .ar 37 pr, .st 77 [.ro 5 z f b, .ar 37 m], .sc (.int .i64 at1), .ro 99 oz of o], [], k =>
    bif (kIn ho && eOk ⟨b, m, at1, o⟩) && (h32 pr && kO3 [.ro 5 z0 f0 k0, .ro 5 z1 f1 k1, .ro 5 z2 f2 k2]) then
      k ⟨.st 93 [.st 77 [.ro 5 false false b, .ar 37 m], .sc (.int .i64 at1), .ro 99 false false o, .ar 37 (pu .u8 (nxP ⟨pr, ⟨b, m, at1, o⟩⟩)), .ar 37 (pu .u8 (emP ⟨[.ro 5 z0 f0 k0, .ro 5 z1 f1 k1, .ro 5 z2 f2 k2], ho, ⟨b, m, at1, o⟩, pu .u8 (nxP ⟨pr, ⟨b, m, at1, o⟩⟩)⟩))], [], []⟩ else none
  | _, _, _ => none
noncomputable def Jyp : Sig := { own := [], run := Jhf }
theorem Jyq : Jk tau Try.prog 57 Jyp := JAY.of fun xs es k res hr => by
  change Jhf xs es k = some res at hr
  unfold Jhf at hr
  split at hr
  · rename_i z0 f0 k0 z1 f1 k1 z2 f2 k2 ho pr z f b m at1 oz of o
    obtain ⟨hc, hr⟩ := JL hr
    simp only [Bool.and_eq_true] at hc
    have hK := GI hc.2.2 ho
    have hin := hc.1.1
    rw [GE] at hin
    obtain ⟨q1, q2⟩ := Jl1 hc.2.2 hin
    simp only [QB, Bool.and_eq_true, decide_eq_true_eq] at hin
    obtain ⟨p1, p2⟩ := h32_iff.1 hc.2.1
    have hcl := Xi hc.1.2
    have heo := WE.1 hc.1.2
    have hbl : b.length ≤ 65535 := heo.2.1
    have hol : o.length ≤ 1000 := (Xf.1 heo.2.2.2.2.1).2.2
    have hnl := Ym ⟨pr, ⟨b, m, at1, o⟩⟩
    have htp : List.take 32 pr = pr := List.take_of_length_le (by omega)
    have htc : List.take (Jg ⟨b, m, at1, o⟩).length (pu .u8 (Jg ⟨b, m, at1, o⟩)) = pu .u8 (Jg ⟨b, m, at1, o⟩) := List.take_of_length_le (by simp)
    have htn : List.take (pr.length + (Jg ⟨b, m, at1, o⟩).length) (pr ++ pu .u8 (Jg ⟨b, m, at1, o⟩)) = pr ++ pu .u8 (Jg ⟨b, m, at1, o⟩) := List.take_of_length_le (by simp)
    have hth : List.take 32 (pu .u8 (nxP ⟨pr, ⟨b, m, at1, o⟩⟩)) = pu .u8 (nxP ⟨pr, ⟨b, m, at1, o⟩⟩) := List.take_of_length_le (by rw [JG]; omega)
    have hte : List.take ((Jg ⟨b, m, at1, o⟩).length + (nxP ⟨pr, ⟨b, m, at1, o⟩⟩).length) (pu .u8 (Jg ⟨b, m, at1, o⟩) ++ pu .u8 (nxP ⟨pr, ⟨b, m, at1, o⟩⟩)) = pu .u8 (Jg ⟨b, m, at1, o⟩) ++ pu .u8 (nxP ⟨pr, ⟨b, m, at1, o⟩⟩) := List.take_of_length_le (by simp)
    have hnx : Ju (Jh pr ++ Jg ⟨b, m, at1, o⟩) = nxP ⟨pr, ⟨b, m, at1, o⟩⟩ := by rw [Jg9]
    have hem : QQ (Jh (Qv ⟨[.ro 5 z0 f0 k0, .ro 5 z1 f1 k1, .ro 5 z2 f2 k2], ho⟩)) (Jg ⟨b, m, at1, o⟩ ++ nxP ⟨pr, ⟨b, m, at1, o⟩⟩) = emP ⟨[.ro 5 z0 f0 k0, .ro 5 z1 f1 k1, .ro 5 z2 f2 k2], ho, ⟨b, m, at1, o⟩, pu .u8 (nxP ⟨pr, ⟨b, m, at1, o⟩⟩)⟩ := by rw [GH, Zp, Qf]
    refine Eq.trans ?_ hr
    show g57 0 z0 f0 k0 z1 f1 k1 z2 f2 k2 ho pr z f b m at1 oz of o k = _
    unfold g57
    simp only [List.take_length, Nat.zero_add, htp, htc, JG, htn, XD, Qf, hnx, hth, hte, q2, hem]
    refine (Jb (by simp [Jj]; omega)).trans ((Jb (by simp [Jj]; omega)).trans ((Jb (by simp [Jj]; omega)).trans ((Jb hc.1.2).trans ((Jb (by simp [Jj]; omega)).trans ((Jb (by rw [Qq p1 (JF _ _)]; simp; omega)).trans ((Jb (by simp [zi]; omega)).trans ((Jb (by rw [q1]; rfl)).trans ((Jb hc.1.2).trans ((Jb (by simp [Jj]; omega)).trans ((Jb (by rw [hK.1, Qq (JF _ _) (JF _ _)]; simp; omega)).trans ?_))))))))))
    rfl
  · cases hr
noncomputable def Jhg : List PV → List Ent → (Res → Option Res) → Option Res
  | [.st 31 [.ro 5 z0 f0 k0, .ro 5 z1 f1 k1, .ro 5 z2 f2 k2], .sc (.int .i64 ho), .st 93 [.st 77 [.ro 5 z f b, .ar 37 m], .sc (.int .i64 at1), .ro 99 oz of o, .ar 37 h, .ar 37 mc]], [], k =>
    bif eOk ⟨b, m, at1, o⟩ && (h32 h && (h32 mc && kO3 [.ro 5 z0 f0 k0, .ro 5 z1 f1 k1, .ro 5 z2 f2 k2])) then
      k ⟨.sc (.bool (emC ⟨[.ro 5 z0 f0 k0, .ro 5 z1 f1 k1, .ro 5 z2 f2 k2], ho, ⟨b, m, at1, o⟩, h, mc⟩)), [], []⟩ else none
  | _, _, _ => none
noncomputable def Jtn : Sig := { own := [], run := Jhg }
theorem JqU : Jk tau Try.prog 60 Jtn := JAI.of fun xs es k res hr => by
  change Jhg xs es k = some res at hr
  unfold Jhg at hr
  split at hr
  · rename_i z0 f0 k0 z1 f1 k1 z2 f2 k2 ho z f b m at1 oz of o h mc
    obtain ⟨hc, hr⟩ := JL hr
    simp only [Bool.and_eq_true] at hc
    obtain ⟨c1, c2, c3, c4⟩ := hc
    have hK := GI c4 ho
    obtain ⟨p1, p2⟩ := h32_iff.1 c2
    obtain ⟨m1, m2⟩ := h32_iff.1 c3
    have hcl := Xi c1
    have hth : List.take 32 h = h := List.take_of_length_le (by omega)
    have hem : QQ (Jh (Qv ⟨[.ro 5 z0 f0 k0, .ro 5 z1 f1 k1, .ro 5 z2 f2 k2], ho⟩)) (Jg ⟨b, m, at1, o⟩ ++ Jh h) = emP ⟨[.ro 5 z0 f0 k0, .ro 5 z1 f1 k1, .ro 5 z2 f2 k2], ho, ⟨b, m, at1, o⟩, h⟩ := by rw [GH, Zp]
    have hq : ∀ l : List Int, J6 (pu .u8 l) mc = (l == Jh mc) := fun l => by
      conv => lhs; rw [show mc = pu .u8 (Jh mc) from (Qb m1)]
      exact WK _ _ _
    rw [Jd4] at hr
    refine Eq.trans ?_ hr
    show g60 0 z0 f0 k0 z1 f1 k1 z2 f2 k2 ho z f b m at1 oz of o h mc k = _
    unfold g60
    cases kIn ho with
    | false => rfl
    | true =>
      simp only [fl2, hth, XD, Qf, hem, hq, JF]
      refine (Jb rfl).trans ((Jb c1).trans ((Jb (by rw [hK.1, Qq (JF _ _) p1]; simp; omega)).trans ((Jb (by rw [m1]; simp [Yn, m2])).trans ?_)))
      rfl
  · cases hr
noncomputable def Jhh : List PV → List Ent → (Res → Option Res) → Option Res
  | [.st 31 [.ro 5 z0 f0 k0, .ro 5 z1 f1 k1, .ro 5 z2 f2 k2], .sc (.int .i64 ho), .st 93 [.st 77 [.ro 5 z f b, .ar 37 m], .sc (.int .i64 at1), .ro 99 oz of o, .ar 37 h, .ar 37 mc]], [], k =>
    bif eOk ⟨b, m, at1, o⟩ && (h32 h && (h32 mc && kO3 [.ro 5 z0 f0 k0, .ro 5 z1 f1 k1, .ro 5 z2 f2 k2])) then
      k ⟨.sc (.bool (emC ⟨[.ro 5 z0 f0 k0, .ro 5 z1 f1 k1, .ro 5 z2 f2 k2], ho, ⟨b, m, at1, o⟩, h, mc⟩)), [], []⟩ else none
  | _, _, _ => none
noncomputable def Jyr : Sig := { own := [], run := Jhh }
theorem Jys : Jk tau Try.prog 61 Jyr := JA2.of fun xs es k res hr => by
  change Jhh xs es k = some res at hr
  unfold Jhh at hr
  split at hr
  · rename_i z0 f0 k0 z1 f1 k1 z2 f2 k2 ho z f b m at1 oz of o h mc
    obtain ⟨hc, hr⟩ := JL hr
    simp only [Bool.and_eq_true] at hc
    obtain ⟨c1, c2, c3, c4⟩ := hc
    have hK := GI c4 ho
    obtain ⟨p1, p2⟩ := h32_iff.1 c2
    obtain ⟨m1, m2⟩ := h32_iff.1 c3
    have hcl := Xi c1
    have hth : List.take 32 h = h := List.take_of_length_le (by omega)
    have htc : List.take (Jg ⟨b, m, at1, o⟩).length (pu .u8 (Jg ⟨b, m, at1, o⟩)) = pu .u8 (Jg ⟨b, m, at1, o⟩) := List.take_of_length_le (by simp)
    have hte : List.take ((Jg ⟨b, m, at1, o⟩).length + h.length) (pu .u8 (Jg ⟨b, m, at1, o⟩) ++ h) = pu .u8 (Jg ⟨b, m, at1, o⟩) ++ h := List.take_of_length_le (by simp)
    have hem : QQ (Jh (Qv ⟨[.ro 5 z0 f0 k0, .ro 5 z1 f1 k1, .ro 5 z2 f2 k2], ho⟩)) (Jg ⟨b, m, at1, o⟩ ++ Jh h) = emP ⟨[.ro 5 z0 f0 k0, .ro 5 z1 f1 k1, .ro 5 z2 f2 k2], ho, ⟨b, m, at1, o⟩, h⟩ := by rw [GH, Zp]
    have hq : ∀ l : List Int, J6 mc (pu .u8 l) = (l == Jh mc) := fun l => by
      conv => lhs; rw [show mc = pu .u8 (Jh mc) from (Qb m1)]
      rw [WK]; exact BEq.comm
    rw [Jd4, GE] at hr
    refine Eq.trans ?_ hr
    show g61 0 z0 f0 k0 z1 f1 k1 z2 f2 k2 ho z f b m at1 oz of o h mc k = _
    unfold g61
    cases hin : QB ho 2 with
    | false =>
      by_cases h0 : ho < 0
      · exact Jb (by simpa using h0)
      · refine (Jx (by simpa using h0)).trans (Jb ?_)
        simp only [QB, Bool.and_eq_false_iff, decide_eq_false_iff_not] at hin
        simp; omega
    | true =>
      obtain ⟨q1, q2⟩ := Jl1 c4 hin
      simp only [QB, Bool.and_eq_true, decide_eq_true_eq] at hin
      simp only [hth, htc, hte, q2, XD, Qf, hem, hq, JF]
      refine (Jx (by simp; omega)).trans ((Jx (by simp; omega)).trans ((Jb (by simp [zi]; omega)).trans ((Jb (by rw [q1]; rfl)).trans ((Jb c1).trans ((Jb (by simp [Jj]; omega)).trans ((Jb (by rw [hK.1, Qq (JF _ _) p1]; simp; omega)).trans ((Jb (by rw [m1]; simp [Yn, m2])).trans ?_)))))))
      rfl
  · cases hr
noncomputable def F42 : Fns := JH 60 Jtn (JH 49 Jyl (JH 46 Jyj (JH 21 Jso (F0))))
theorem Jto : JA tau Try.prog F42 := ((((JJ).add JpZ JtV).add Jyk JAn).add Jym JAz).add JqU JxO
def JoB : An := (.seq .leaf (.seq .leaf (.seq .leaf (.seq .leaf (.seq .leaf .leaf)))))
noncomputable def g42 (f : Nat) (k : Res → Option Res) : Option Res := bif dOk (DV.mk 0 0 0 0 [.sc (.int .u8 0), .sc (.int .u8 0), .sc (.int .u8 0), .sc (.int .u8 0), .sc (.int .u8 0), .sc (.int .u8 0), .sc (.int .u8 0), .sc (.int .u8 0), .sc (.int .u8 0), .sc (.int .u8 0), .sc (.int .u8 0), .sc (.int .u8 0), .sc (.int .u8 0), .sc (.int .u8 0), .sc (.int .u8 0), .sc (.int .u8 0), .sc (.int .u8 0), .sc (.int .u8 0), .sc (.int .u8 0), .sc (.int .u8 0), .sc (.int .u8 0), .sc (.int .u8 0), .sc (.int .u8 0), .sc (.int .u8 0), .sc (.int .u8 0), .sc (.int .u8 0), .sc (.int .u8 0), .sc (.int .u8 0), .sc (.int .u8 0), .sc (.int .u8 0), .sc (.int .u8 0), .sc (.int .u8 0)] 2 [] 0 0) && kO3 [.ro 5 false false (kb 0 []), .ro 5 false false (kb 1 []), .ro 5 false false (kb 2 [])] then bif slB false (pu IntKind.u8 (dlB (DV.mk 0 0 0 0 [.sc (.int .u8 0), .sc (.int .u8 0), .sc (.int .u8 0), .sc (.int .u8 0), .sc (.int .u8 0), .sc (.int .u8 0), .sc (.int .u8 0), .sc (.int .u8 0), .sc (.int .u8 0), .sc (.int .u8 0), .sc (.int .u8 0), .sc (.int .u8 0), .sc (.int .u8 0), .sc (.int .u8 0), .sc (.int .u8 0), .sc (.int .u8 0), .sc (.int .u8 0), .sc (.int .u8 0), .sc (.int .u8 0), .sc (.int .u8 0), .sc (.int .u8 0), .sc (.int .u8 0), .sc (.int .u8 0), .sc (.int .u8 0), .sc (.int .u8 0), .sc (.int .u8 0), .sc (.int .u8 0), .sc (.int .u8 0), .sc (.int .u8 0), .sc (.int .u8 0), .sc (.int .u8 0), .sc (.int .u8 0)] 2 [] 0 0))) && byB (pu IntKind.u8 (dlB (DV.mk 0 0 0 0 [.sc (.int .u8 0), .sc (.int .u8 0), .sc (.int .u8 0), .sc (.int .u8 0), .sc (.int .u8 0), .sc (.int .u8 0), .sc (.int .u8 0), .sc (.int .u8 0), .sc (.int .u8 0), .sc (.int .u8 0), .sc (.int .u8 0), .sc (.int .u8 0), .sc (.int .u8 0), .sc (.int .u8 0), .sc (.int .u8 0), .sc (.int .u8 0), .sc (.int .u8 0), .sc (.int .u8 0), .sc (.int .u8 0), .sc (.int .u8 0), .sc (.int .u8 0), .sc (.int .u8 0), .sc (.int .u8 0), .sc (.int .u8 0), .sc (.int .u8 0), .sc (.int .u8 0), .sc (.int .u8 0), .sc (.int .u8 0), .sc (.int .u8 0), .sc (.int .u8 0), .sc (.int .u8 0), .sc (.int .u8 0)] 2 [] 0 0))) && (h32 (pu IntKind.u8 (mcK (MK.mk [.ro 5 false false (kb 0 []), .ro 5 false false (kb 1 []), .ro 5 false false (kb 2 [])] 0 (dlB (DV.mk 0 0 0 0 [.sc (.int .u8 0), .sc (.int .u8 0), .sc (.int .u8 0), .sc (.int .u8 0), .sc (.int .u8 0), .sc (.int .u8 0), .sc (.int .u8 0), .sc (.int .u8 0), .sc (.int .u8 0), .sc (.int .u8 0), .sc (.int .u8 0), .sc (.int .u8 0), .sc (.int .u8 0), .sc (.int .u8 0), .sc (.int .u8 0), .sc (.int .u8 0), .sc (.int .u8 0), .sc (.int .u8 0), .sc (.int .u8 0), .sc (.int .u8 0), .sc (.int .u8 0), .sc (.int .u8 0), .sc (.int .u8 0), .sc (.int .u8 0), .sc (.int .u8 0), .sc (.int .u8 0), .sc (.int .u8 0), .sc (.int .u8 0), .sc (.int .u8 0), .sc (.int .u8 0), .sc (.int .u8 0), .sc (.int .u8 0)] 2 [] 0 0))))) && kO3 [.ro 5 false false (kb 0 []), .ro 5 false false (kb 1 []), .ro 5 false false (kb 2 [])]) then bif soE (SO.mk [.ro 5 false false (kb 0 []), .ro 5 false false (kb 1 []), .ro 5 false false (kb 2 [])] (pu IntKind.u8 (dlB (DV.mk 0 0 0 0 [.sc (.int .u8 0), .sc (.int .u8 0), .sc (.int .u8 0), .sc (.int .u8 0), .sc (.int .u8 0), .sc (.int .u8 0), .sc (.int .u8 0), .sc (.int .u8 0), .sc (.int .u8 0), .sc (.int .u8 0), .sc (.int .u8 0), .sc (.int .u8 0), .sc (.int .u8 0), .sc (.int .u8 0), .sc (.int .u8 0), .sc (.int .u8 0), .sc (.int .u8 0), .sc (.int .u8 0), .sc (.int .u8 0), .sc (.int .u8 0), .sc (.int .u8 0), .sc (.int .u8 0), .sc (.int .u8 0), .sc (.int .u8 0), .sc (.int .u8 0), .sc (.int .u8 0), .sc (.int .u8 0), .sc (.int .u8 0), .sc (.int .u8 0), .sc (.int .u8 0), .sc (.int .u8 0), .sc (.int .u8 0)] 2 [] 0 0))) (pu IntKind.u8 (mcK (MK.mk [.ro 5 false false (kb 0 []), .ro 5 false false (kb 1 []), .ro 5 false false (kb 2 [])] 0 (dlB (DV.mk 0 0 0 0 [.sc (.int .u8 0), .sc (.int .u8 0), .sc (.int .u8 0), .sc (.int .u8 0), .sc (.int .u8 0), .sc (.int .u8 0), .sc (.int .u8 0), .sc (.int .u8 0), .sc (.int .u8 0), .sc (.int .u8 0), .sc (.int .u8 0), .sc (.int .u8 0), .sc (.int .u8 0), .sc (.int .u8 0), .sc (.int .u8 0), .sc (.int .u8 0), .sc (.int .u8 0), .sc (.int .u8 0), .sc (.int .u8 0), .sc (.int .u8 0), .sc (.int .u8 0), .sc (.int .u8 0), .sc (.int .u8 0), .sc (.int .u8 0), .sc (.int .u8 0), .sc (.int .u8 0), .sc (.int .u8 0), .sc (.int .u8 0), .sc (.int .u8 0), .sc (.int .u8 0), .sc (.int .u8 0), .sc (.int .u8 0)] 2 [] 0 0)))))) == 0 then bif soF 4 (SO.mk [.ro 5 false false (kb 0 []), .ro 5 false false (kb 1 []), .ro 5 false false (kb 2 [])] (pu IntKind.u8 (dlB (DV.mk 0 0 0 0 [.sc (.int .u8 0), .sc (.int .u8 0), .sc (.int .u8 0), .sc (.int .u8 0), .sc (.int .u8 0), .sc (.int .u8 0), .sc (.int .u8 0), .sc (.int .u8 0), .sc (.int .u8 0), .sc (.int .u8 0), .sc (.int .u8 0), .sc (.int .u8 0), .sc (.int .u8 0), .sc (.int .u8 0), .sc (.int .u8 0), .sc (.int .u8 0), .sc (.int .u8 0), .sc (.int .u8 0), .sc (.int .u8 0), .sc (.int .u8 0), .sc (.int .u8 0), .sc (.int .u8 0), .sc (.int .u8 0), .sc (.int .u8 0), .sc (.int .u8 0), .sc (.int .u8 0), .sc (.int .u8 0), .sc (.int .u8 0), .sc (.int .u8 0), .sc (.int .u8 0), .sc (.int .u8 0), .sc (.int .u8 0)] 2 [] 0 0))) (pu IntKind.u8 (mcK (MK.mk [.ro 5 false false (kb 0 []), .ro 5 false false (kb 1 []), .ro 5 false false (kb 2 [])] 0 (dlB (DV.mk 0 0 0 0 [.sc (.int .u8 0), .sc (.int .u8 0), .sc (.int .u8 0), .sc (.int .u8 0), .sc (.int .u8 0), .sc (.int .u8 0), .sc (.int .u8 0), .sc (.int .u8 0), .sc (.int .u8 0), .sc (.int .u8 0), .sc (.int .u8 0), .sc (.int .u8 0), .sc (.int .u8 0), .sc (.int .u8 0), .sc (.int .u8 0), .sc (.int .u8 0), .sc (.int .u8 0), .sc (.int .u8 0), .sc (.int .u8 0), .sc (.int .u8 0), .sc (.int .u8 0), .sc (.int .u8 0), .sc (.int .u8 0), .sc (.int .u8 0), .sc (.int .u8 0), .sc (.int .u8 0), .sc (.int .u8 0), .sc (.int .u8 0), .sc (.int .u8 0), .sc (.int .u8 0), .sc (.int .u8 0), .sc (.int .u8 0)] 2 [] 0 0)))))) == 2 then bif eOk (EV.mk [] [.sc (.int .u8 0), .sc (.int .u8 0), .sc (.int .u8 0), .sc (.int .u8 0), .sc (.int .u8 0), .sc (.int .u8 0), .sc (.int .u8 0), .sc (.int .u8 0), .sc (.int .u8 0), .sc (.int .u8 0), .sc (.int .u8 0), .sc (.int .u8 0), .sc (.int .u8 0), .sc (.int .u8 0), .sc (.int .u8 0), .sc (.int .u8 0), .sc (.int .u8 0), .sc (.int .u8 0), .sc (.int .u8 0), .sc (.int .u8 0), .sc (.int .u8 0), .sc (.int .u8 0), .sc (.int .u8 0), .sc (.int .u8 0), .sc (.int .u8 0), .sc (.int .u8 0), .sc (.int .u8 0), .sc (.int .u8 0), .sc (.int .u8 0), .sc (.int .u8 0), .sc (.int .u8 0), .sc (.int .u8 0)] 0 []) && (h32 [.sc (.int .u8 0), .sc (.int .u8 0), .sc (.int .u8 0), .sc (.int .u8 0), .sc (.int .u8 0), .sc (.int .u8 0), .sc (.int .u8 0), .sc (.int .u8 0), .sc (.int .u8 0), .sc (.int .u8 0), .sc (.int .u8 0), .sc (.int .u8 0), .sc (.int .u8 0), .sc (.int .u8 0), .sc (.int .u8 0), .sc (.int .u8 0), .sc (.int .u8 0), .sc (.int .u8 0), .sc (.int .u8 0), .sc (.int .u8 0), .sc (.int .u8 0), .sc (.int .u8 0), .sc (.int .u8 0), .sc (.int .u8 0), .sc (.int .u8 0), .sc (.int .u8 0), .sc (.int .u8 0), .sc (.int .u8 0), .sc (.int .u8 0), .sc (.int .u8 0), .sc (.int .u8 0), .sc (.int .u8 0)] && (h32 [.sc (.int .u8 0), .sc (.int .u8 0), .sc (.int .u8 0), .sc (.int .u8 0), .sc (.int .u8 0), .sc (.int .u8 0), .sc (.int .u8 0), .sc (.int .u8 0), .sc (.int .u8 0), .sc (.int .u8 0), .sc (.int .u8 0), .sc (.int .u8 0), .sc (.int .u8 0), .sc (.int .u8 0), .sc (.int .u8 0), .sc (.int .u8 0), .sc (.int .u8 0), .sc (.int .u8 0), .sc (.int .u8 0), .sc (.int .u8 0), .sc (.int .u8 0), .sc (.int .u8 0), .sc (.int .u8 0), .sc (.int .u8 0), .sc (.int .u8 0), .sc (.int .u8 0), .sc (.int .u8 0), .sc (.int .u8 0), .sc (.int .u8 0), .sc (.int .u8 0), .sc (.int .u8 0), .sc (.int .u8 0)] && kO3 [.ro 5 false false (kb 0 []), .ro 5 false false (kb 1 []), .ro 5 false false (kb 2 [])])) then k (Res.mk (.sc (.bool !emC (EC.mk [.ro 5 false false (kb 0 []), .ro 5 false false (kb 1 []), .ro 5 false false (kb 2 [])] 0 (EV.mk [] [.sc (.int .u8 0), .sc (.int .u8 0), .sc (.int .u8 0), .sc (.int .u8 0), .sc (.int .u8 0), .sc (.int .u8 0), .sc (.int .u8 0), .sc (.int .u8 0), .sc (.int .u8 0), .sc (.int .u8 0), .sc (.int .u8 0), .sc (.int .u8 0), .sc (.int .u8 0), .sc (.int .u8 0), .sc (.int .u8 0), .sc (.int .u8 0), .sc (.int .u8 0), .sc (.int .u8 0), .sc (.int .u8 0), .sc (.int .u8 0), .sc (.int .u8 0), .sc (.int .u8 0), .sc (.int .u8 0), .sc (.int .u8 0), .sc (.int .u8 0), .sc (.int .u8 0), .sc (.int .u8 0), .sc (.int .u8 0), .sc (.int .u8 0), .sc (.int .u8 0), .sc (.int .u8 0), .sc (.int .u8 0)] 0 []) [.sc (.int .u8 0), .sc (.int .u8 0), .sc (.int .u8 0), .sc (.int .u8 0), .sc (.int .u8 0), .sc (.int .u8 0), .sc (.int .u8 0), .sc (.int .u8 0), .sc (.int .u8 0), .sc (.int .u8 0), .sc (.int .u8 0), .sc (.int .u8 0), .sc (.int .u8 0), .sc (.int .u8 0), .sc (.int .u8 0), .sc (.int .u8 0), .sc (.int .u8 0), .sc (.int .u8 0), .sc (.int .u8 0), .sc (.int .u8 0), .sc (.int .u8 0), .sc (.int .u8 0), .sc (.int .u8 0), .sc (.int .u8 0), .sc (.int .u8 0), .sc (.int .u8 0), .sc (.int .u8 0), .sc (.int .u8 0), .sc (.int .u8 0), .sc (.int .u8 0), .sc (.int .u8 0), .sc (.int .u8 0)] [.sc (.int .u8 0), .sc (.int .u8 0), .sc (.int .u8 0), .sc (.int .u8 0), .sc (.int .u8 0), .sc (.int .u8 0), .sc (.int .u8 0), .sc (.int .u8 0), .sc (.int .u8 0), .sc (.int .u8 0), .sc (.int .u8 0), .sc (.int .u8 0), .sc (.int .u8 0), .sc (.int .u8 0), .sc (.int .u8 0), .sc (.int .u8 0), .sc (.int .u8 0), .sc (.int .u8 0), .sc (.int .u8 0), .sc (.int .u8 0), .sc (.int .u8 0), .sc (.int .u8 0), .sc (.int .u8 0), .sc (.int .u8 0), .sc (.int .u8 0), .sc (.int .u8 0), .sc (.int .u8 0), .sc (.int .u8 0), .sc (.int .u8 0), .sc (.int .u8 0), .sc (.int .u8 0), .sc (.int .u8 0)]))) [] []) else none else k (Res.mk (.sc (.bool false)) [] []) else k (Res.mk (.sc (.bool false)) [] []) else none else none
theorem e42 (f : Nat) (k : Res → Option Res) : JN tau F42 Try.f42 (Try.f42.body.get!) JoB [.ro] 0 [] [] k = g42 f k := by kernel_rfl
theorem JA3 (f : Nat) : Ji (Try.f42.body.get!) JoB = [] := by kernel_rfl
theorem JA4 (f : Nat) : ∀ q ∈ Ji (Try.f42.body.get!) JoB, q.Ok tau Try.prog 0 := by
  rw [JA3 f]; intro q hq; cases hq
theorem Jyt : Try.prog.funcs[42]? = some Try.f42 := by kernel_rfl
theorem Jyu : Try.f42.body = some (Try.f42.body.get!) := by kernel_rfl
theorem JA5 : Enters Try.prog 42 := enters_of Jyt (by kernel_rfl) Jyu
noncomputable def Jl2 : List PV → List Ent → (Res → Option Res) → Option Res
  | [], [], k => g42 0  k
  | _, _, _ => none
noncomputable def s42 : Sig := { own := [], run := Jl2 }
theorem JA6 : Jk tau Try.prog 42 s42 := JV Js Jto Jt Jyt Jyu JoB [.ro] 0 [] Jl2 (JA4 0) fun xs es k res hr => by
  unfold Jl2 at hr
  split at hr
  · exact ⟨rfl, 0, (e42 0  _).trans hr⟩
  · cases hr
-- FN
theorem Jl3 {c : CV} (h : ckC c = 0) : 1 ≤ c.kd ∧ c.kd ≤ 3 ∧ 0 ≤ c.n ∧ c.n ≤ 120 ∧ c.s.size ≤ 120 := by
  rw [Jbk] at h
  unfold JgV at h
  cases h1 : (c.kd == 1 || c.kd == 3) with
  | true =>
    rw [h1, cond_true] at h
    cases h2 : (decide (c.n < 1) || (decide (c.n > 120) || !(c.s.size == 0))) with
    | true => rw [h2, cond_true] at h; exact absurd h (by decide)
    | false =>
      simp only [Bool.or_eq_false_iff, decide_eq_false_iff_not, Bool.not_eq_false', beq_iff_eq] at h2
      simp only [Bool.or_eq_true, beq_iff_eq] at h1
      omega
  | false =>
    rw [h1, cond_false] at h
    cases h3 : (c.kd == 2) with
    | false => rw [h3, cond_false] at h; exact absurd h (by decide)
    | true =>
      rw [h3, cond_true] at h
      cases h2 : (!(c.n == 0) || c.s.size == 0) with
      | true => rw [h2, cond_true] at h; exact absurd h (by decide)
      | false =>
        rw [h2, cond_false] at h
        cases h4 : decide (zi c.s.size > 120) with
        | true => rw [h4, cond_true] at h; exact absurd h (by decide)
        | false =>
          simp only [Bool.or_eq_false_iff, Bool.not_eq_false', beq_iff_eq] at h2
          simp only [zi, decide_eq_false_iff_not] at h4
          simp only [beq_iff_eq] at h3
          omega
theorem Jfw : ∀ {l : List PV}, ckL l = 0 → ∀ p ∈ l, ckC (cv p) = 0
  | [], _, p, hp => by cases hp
  | q :: r, h, p, hp => by
      simp only [ckL] at h
      cases hq : (ckC (cv q) == 0) with
      | false => rw [hq, cond_false] at h; rw [h] at hq; exact absurd hq (by decide)
      | true =>
        rw [hq, cond_true] at h
        rcases List.mem_cons.1 hp with rfl | hp
        · simpa using hq
        · exact Jfw h p hp
theorem Jl4 {l : List PV} (h : ckO l = 0) : l.length ≤ 40 ∧ ∀ p ∈ l, ckC (cv p) = 0 := by
  rw [JgW] at h
  unfold JnP at h
  cases hc : decide (zi l.length > 40) with
  | true => rw [hc, cond_true] at h; exact absurd h (by decide)
  | false =>
    rw [hc, cond_false] at h
    simp only [zi, decide_eq_false_iff_not] at hc
    exact ⟨by omega, Jfw h⟩
theorem QS {n : Int} (h : -1000000000000 ≤ n) (h2 : n ≤ 1000000000000) : i64B n = true := by
  unfold i64B; simp only [Bool.and_eq_true, decide_eq_true_eq]; omega
theorem JbB {n : Int} (h : 0 ≤ n) (h2 : n < 256) : IntKind.u8.wrap n = n := by
  have := WS n; omega
theorem JoC {p : PV} (h : isCp p = true) (hc : ckC (cv p) = 0) (r : List PV) : cpV ⟨pu .u8 (Zc (cv p)) ++ r, 0⟩ = p ∧ cpN ⟨pu .u8 (Zc (cv p)) ++ r, 0⟩ = ⟨r, 0⟩ := by
  obtain ⟨kd, n, s, rfl⟩ := Jbm.1 h
  have hz := Jl3 hc
  have hcv : cv (.st 99 [.sc (.int .i64 kd), .sc (.int .i64 n), .sc (.string s)]) = ⟨kd, n, s⟩ := rfl
  rw [hcv] at hz ⊢
  simp only at hz
  have e1 : pu .u8 (Zc ⟨kd, n, s⟩) ++ r = pu .u8 [IntKind.u8.wrap kd] ++ (pu .u8 (J7 n) ++ (pu .u8 (Qj s) ++ r)) := by
    simp only [Zc, JR, List.append_assoc]
  obtain ⟨t1, t2⟩ := Jim (t := s) (by omega) r
  rw [e1]
  unfold cpV cpN
  rw [Jbi, ZE, X4 (QS (by omega) (by omega)), QH, t1, t2, JbB (by omega) (by omega)]
  exact ⟨rfl, rfl⟩
theorem Jfx : ∀ (l : List PV) (r : List PV), l.all isCp = true → (∀ p ∈ l, ckC (cv p) = 0) → cpL l.length ⟨pu .u8 (Qd l) ++ r, 0⟩ = l ∧ cpR l.length ⟨pu .u8 (Qd l) ++ r, 0⟩ = ⟨r, 0⟩
  | [], r, _, _ => ⟨rfl, by simp [Qd, cpR]⟩
  | p :: l, r, h, hc => by
      rw [List.all_cons, Bool.and_eq_true] at h
      have e : pu .u8 (Qd (p :: l)) ++ r = pu .u8 (Zc (cv p)) ++ (pu .u8 (Qd l) ++ r) := by
        simp only [Qd, List.flatMap_cons, JR, List.append_assoc]
      obtain ⟨a, b⟩ := JoC h.1 (hc p List.mem_cons_self) (pu .u8 (Qd l) ++ r)
      obtain ⟨c, d⟩ := Jfx l r h.2 fun q hq => hc q (List.mem_cons_of_mem _ hq)
      rw [e, List.length_cons, cpL, cpR, a, b, c, d]
      exact ⟨rfl, rfl⟩
theorem JoD {l : List PV} (h : l.all isCp = true) (hc : ckO l = 0) : opE (pu .u8 (opB l)) = 0 ∧ opL (pu .u8 (opB l)) = l := by
  obtain ⟨h1, h2⟩ := Jl4 hc
  have e : pu .u8 (opB l) = pu .u8 [IntKind.u8.wrap (zi l.length)] ++ (pu .u8 (Qd l) ++ []) := by
    rw [GD, JjE]; simp only [JR, List.append_nil]
  have hw : IntKind.u8.wrap (zi l.length) = (l.length : Int) := JbB (by simp only [zi]; omega) (by simp only [zi]; omega)
  have hn : JC 1 ⟨pu .u8 (opB l), 0⟩ = (l.length : Int) := by rw [e, Jbi, hw]
  have hs : Jc 1 ⟨pu .u8 (opB l), 0⟩ = ⟨pu .u8 (Qd l) ++ [], 0⟩ := by rw [e, ZE]
  have hd : decide ((l.length : Int) > 40) = false := by simp; omega
  have hN : opN (pu .u8 (opB l)) = l.length := by unfold opN; rw [hn, hd, cond_false, Int.toNat_natCast]
  have hS : opS (pu .u8 (opB l)) = ⟨pu .u8 (Qd l) ++ [], 0⟩ := by unfold opS; rw [hn, hd, cond_false, hs]
  obtain ⟨a, b⟩ := Jfx l [] h h2
  have hE : VX (pu .u8 (opB l)) = 0 := by unfold VX; rw [hN, hS, a, b, hc]; rfl
  rw [Jg1, JdU, hE, hN, hS, a]
  exact ⟨rfl, rfl⟩
theorem Jfy {d : DV} (h : dCk d = 0) : (0 ≤ d.ad ∧ d.ad ≤ 2) ∧ (0 ≤ d.au ∧ d.au ≤ 7) ∧ (0 ≤ d.id ∧ d.id ≤ 1073741824) ∧ (0 ≤ d.ve ∧ d.ve ≤ 1048576) ∧ (1 ≤ d.kd ∧ d.kd ≤ 3) ∧ ckO d.o = 0 ∧ (0 ≤ d.wd ∧ d.wd ≤ 2) ∧ (0 ≤ d.wu ∧ d.wu ≤ 7) := by
  have hnil : ckO [] = 0 := by rw [JgW]; rfl
  rw [JdX] at h
  unfold JlI at h
  cases h1 : (inZ d.ad 2 && (inZ d.au 7 && (inZ d.id 1073741824 && inZ d.ve 1048576))) with
  | false => rw [h1, cond_false] at h; exact absurd h (by decide)
  | true =>
    rw [h1, cond_true] at h
    simp only [JdY, Bool.and_eq_true, decide_eq_true_eq] at h1
    cases hk : (d.kd == 1) with
    | true =>
      rw [hk, cond_true] at h
      cases hc : (ckO d.o == 0) with
      | false => rw [hc, cond_false] at h; rw [h] at hc; exact absurd hc (by decide)
      | true =>
        rw [hc, cond_true] at h
        cases hw : (d.wd == 0 && d.wu == 0) with
        | false => rw [hw, cond_false] at h; exact absurd h (by decide)
        | true =>
          simp only [Bool.and_eq_true, beq_iff_eq] at hw hk hc
          refine ⟨by omega, by omega, by omega, by omega, by omega, hc, by omega, by omega⟩
    | false =>
      rw [hk, cond_false] at h
      cases hk2 : (d.kd == 2 || d.kd == 3) with
      | false => rw [hk2, cond_false] at h; exact absurd h (by decide)
      | true =>
        rw [hk2, cond_true] at h
        cases hw : (d.o.isEmpty && (inZ d.wd 2 && inZ d.wu 7)) with
        | false => rw [hw, cond_false] at h; exact absurd h (by decide)
        | true =>
          simp only [Bool.and_eq_true, Bool.or_eq_true, beq_iff_eq, JdY, decide_eq_true_eq, List.isEmpty_iff] at hw hk2
          refine ⟨by omega, by omega, by omega, by omega, by omega, by rw [hw.1]; exact hnil, by omega, by omega⟩
theorem Jl5 {d : DV} (ho : dOk d = true) (hb : byB d.h = true) (hc : dCk d = 0) :
    dE (pu .u8 (dlB d)) = 0 ∧ dv (pu .u8 (dlB d)) = d := by
  obtain ⟨o1, o2, o3, o4⟩ := Ya.1 ho
  obtain ⟨c1, c2, c3, c4, c5, c6, c7, c8⟩ := Jfy hc
  have hcp : d.o.all isCp = true := (Xf.1 o3).1
  obtain ⟨q1, q2⟩ := JoD hcp c6
  have hbI : ∀ x ∈ Jh d.h, 0 ≤ x ∧ x < 256 := (QK.1 hb).2
  have hl : (Jh d.h).length = 32 := by rw [QX]; exact o2
  have e : pu .u8 (dlB d) = pu .u8 (J7 d.ad) ++ (pu .u8 (J7 d.au) ++ (pu .u8 (J7 d.id) ++ (pu .u8 (J7 d.ve) ++ (pu .u8 (Jh d.h) ++ (pu .u8 [IntKind.u8.wrap d.kd] ++ (pu .u8 (Qj (tx (pu .u8 (opB d.o)))) ++ (pu .u8 (J7 d.wd) ++ (pu .u8 (J7 d.wu) ++ [])))))))) := by
    rw [JdQ, JjF]; simp only [JR, List.append_assoc, List.append_nil]
  generalize hB : pu .u8 (dlB d) = B at *
  have n1 : JC 8 ⟨B, 0⟩ = d.ad := by rw [e]; exact X4 (QS (by omega) (by omega)) _
  have s1 : Jc 8 ⟨B, 0⟩ = ⟨pu .u8 (J7 d.au) ++ (pu .u8 (J7 d.id) ++ (pu .u8 (J7 d.ve) ++ (pu .u8 (Jh d.h) ++ (pu .u8 [IntKind.u8.wrap d.kd] ++ (pu .u8 (Qj (tx (pu .u8 (opB d.o)))) ++ (pu .u8 (J7 d.wd) ++ (pu .u8 (J7 d.wu) ++ []))))))), 0⟩ := by rw [e]; exact QH _ _
  obtain ⟨r1, r2⟩ := Jld (Jh d.h) (pu .u8 [IntKind.u8.wrap d.kd] ++ (pu .u8 (Qj (tx (pu .u8 (opB d.o)))) ++ (pu .u8 (J7 d.wd) ++ (pu .u8 (J7 d.wu) ++ [])))) hbI
  rw [hl] at r1 r2
  have hd4 : d4 B = ⟨pu .u8 (Jh d.h) ++ (pu .u8 [IntKind.u8.wrap d.kd] ++ (pu .u8 (Qj (tx (pu .u8 (opB d.o)))) ++ (pu .u8 (J7 d.wd) ++ (pu .u8 (J7 d.wu) ++ [])))), 0⟩ := by
    unfold d4; rw [s1, QH, QH, QH]
  have hd5 : d5 B = ⟨pu .u8 [IntKind.u8.wrap d.kd] ++ (pu .u8 (Qj (tx (pu .u8 (opB d.o)))) ++ (pu .u8 (J7 d.wd) ++ (pu .u8 (J7 d.wu) ++ []))), 0⟩ := by
    unfold d5; rw [hd4, hashS_eq]; exact r1
  have hV : hashV (d4 B) = Jh d.h := by rw [hd4, hashV_eq]; exact r2
  obtain ⟨t1, t2⟩ := Jim (t := tx (pu .u8 (opB d.o))) (by rw [WD, JG]; exact o4) (pu .u8 (J7 d.wd) ++ (pu .u8 (J7 d.wu) ++ []))
  have hd7 : d7 B = ⟨pu .u8 (J7 d.wd) ++ (pu .u8 (J7 d.wu) ++ []), 0⟩ := by unfold d7; rw [hd5, ZE, t2]
  have hd9 : d9 B = ⟨[], 0⟩ := by unfold d9; rw [hd7, QH, QH]
  have hdt : dt B = pu .u8 (opB d.o) := by
    unfold dt; rw [hd5, ZE, t1]
    exact JnC _ (Jki.2 (JsH d.o))
  have hdv : dv B = d := by
    have h0 : dv B = ⟨JC 8 ⟨B, 0⟩, JC 8 (Jc 8 ⟨B, 0⟩), JC 8 (Jc 8 (Jc 8 ⟨B, 0⟩)), JC 8 (Jc 8 (Jc 8 (Jc 8 ⟨B, 0⟩))), pu .u8 (hashV (d4 B)), JC 1 (d5 B), opL (dt B), JC 8 (d7 B), JC 8 (Jc 8 (d7 B))⟩ := rfl
    rw [h0, n1, s1, X4 (QS (by omega) (by omega)), QH, X4 (QS (by omega) (by omega)), QH, X4 (QS (by omega) (by omega)), hV, hd5, Jbi, hdt, q2, hd7, X4 (QS (by omega) (by omega)), QH, X4 (QS (by omega) (by omega)), JbB (by omega) (by omega), ← Qb o1]
  refine ⟨?_, hdv⟩
  rw [Jfm]
  unfold dE0
  rw [hd9, hdt, q1, hdv, hc]; rfl
theorem Jfz {b : List PV} {d : DV} (h : dE b = 0) (hv : dv b = d) (h1 : Jd .u8 d.h = true) :
    dF 0 b = d.ad ∧ dF 1 b = d.au ∧ dF 2 b = d.id ∧ dF 3 b = d.ve ∧ dF 4 b = d.kd ∧ dF 5 b = d.wd ∧ dF 6 b = d.wu ∧ pu .u8 (dH b) = d.h ∧ dO b = d.o := by
  have h0 : dE0 b = 0 := by rw [← Jfm]; exact h
  have a : ∀ i, dF i b = dN b i := fun i => by rw [JiM, h0]; rfl
  have hh : pu .u8 (dH b) = (dv b).h := by rw [JlM, h0]; rfl
  have ho : dO b = (dv b).o := by rw [JlN, h0]; rfl
  refine ⟨?_, ?_, ?_, ?_, ?_, ?_, ?_, ?_, ?_⟩
  · rw [a, ← hv]; rfl
  · rw [a, ← hv]; rfl
  · rw [a, ← hv]; rfl
  · rw [a, ← hv]; rfl
  · rw [a, ← hv]; rfl
  · rw [a, ← hv]; rfl
  · rw [a, ← hv]; rfl
  · rw [hh, hv]
  · rw [ho, hv]
def Jtp {α : Type} (n : Nat) (k : Nat → α) : α := Nat.rec (k 0) (fun m _ => k (m + 1)) n
theorem JoE {α : Type} (n : Nat) (k : Nat → α) : Jtp n k = k n := by cases n <;> rfl
def JoF {α : Type} (x : Int) (k : Int → α) : α := match x with
  | .ofNat n => Jtp n fun n => k (.ofNat n)
  | .negSucc n => Jtp n fun n => k (.negSucc n)
theorem JiZ {α : Type} (x : Int) (k : Int → α) : JoF x k = k x := by cases x <;> simp only [JoF, JoE]
def JbC {α : Type} : List Int → (List Int → α) → α
  | [], k => k []
  | x :: r, k => JoF x fun x => JbC r fun r => k (x :: r)
theorem V7 {α : Type} : ∀ (l : List Int) (k : List Int → α), JbC l k = k l
  | [], k => rfl
  | x :: r, k => by simp only [JbC, JiZ, V7 r]
def Jd5 : Nat → List Int → List Int
  | 0, R => R
  | n + 1, R => JoF (Jm0 (R.getD 15 0) (R.getD 14 0) (R.getD 6 0) (R.getD 1 0)) fun x => Jd5 n (x :: R)
theorem Jaw (L : List Int) (i j : Nat) (h : i + j + 1 = L.length) : L.reverse.getD i 0 = L.getD j 0 := by
  rw [List.getD_eq_getElem?_getD, List.getD_eq_getElem?_getD, List.getElem?_reverse (by omega)]
  congr 2; omega
theorem JcG (bs : List Int) : ∀ (n i : Nat), Jd5 n (Ql bs i).reverse = (Ql bs (i + n)).reverse
  | 0, i => rfl
  | n + 1, i => by
      have hl := JU bs i
      simp only [Jd5, JiZ]
      rw [Jaw _ 15 i (by omega), Jaw _ 14 (i + 1) (by omega), Jaw _ 6 (i + 9) (by omega), Jaw _ 1 (i + 14) (by omega)]
      have := JcG bs n (i + 1)
      rw [Ql, List.reverse_append] at this
      rw [show i + (n + 1) = i + 1 + n from by omega, ← this]
      rfl
def Ji0 : List Int → List Int → List Int → List Int
  | k :: ks, w :: ws, t => JbC (rnd k w t) fun t => Ji0 ks ws t
  | _, _, t => t
theorem JfA (W s : List Int) (hW : W.length = 64) : ∀ (d i : Nat), i + d = 64 → Ji0 (kks.drop i) (W.drop i) (YQ W s i) = YQ W s 64
  | 0, i, h => by
      obtain rfl : i = 64 := by omega
      rw [List.drop_of_length_le (l := W) (by rw [hW]; exact Nat.le_refl _)]
      cases kks.drop 64 <;> rfl
  | d + 1, i, h => by
      have h1 : i < kks.length := by show i < 64; omega
      have h2 : i < W.length := by omega
      rw [List.drop_eq_getElem_cons h1, List.drop_eq_getElem_cons h2]
      simp only [Ji0, V7]
      have := JfA W s hW d (i + 1) (by omega)
      rw [← this, YQ]
      simp only [List.getD_eq_getElem?_getD, List.getElem?_eq_getElem h1, List.getElem?_eq_getElem h2, Option.getD_some]
def Jtq (s bs : List Int) : List Int :=
  JbC ((List.range 16).map (JbL bs)) fun w => JbC (Jd5 48 w.reverse).reverse fun W => JbC (Ji0 kks W s) fun t => (List.range 8).map fun i => ww (t.getD i 0 + s.getD i 0)
theorem JoG (s bs : List Int) : Jtq s bs = JeZ s bs := by
  simp only [Jtq, V7]
  have h1 := JcG bs 48 0
  rw [Ql, Nat.zero_add] at h1
  rw [h1, List.reverse_reverse]
  have h2 := JfA (Ql bs 48) s (JU bs 48) 64 0 rfl
  rw [List.drop_zero, List.drop_zero, YQ] at h2
  rw [h2]; rfl
def Ji1 (b : List Int) : Nat → List Int → List Int → List Int
  | 0, s, _ => s
  | n + 1, s, b' => JbC (Jtq s (b'.take 64)) fun s => Ji1 b n s (b'.drop 64)
theorem JfB (b : List Int) : ∀ (n i : Nat) , Ji1 b n (Q4 iv b i) (b.drop (64 * i)) = Q4 iv b (i + n)
  | 0, i => rfl
  | n + 1, i => by
      simp only [Ji1, V7, JoG, List.drop_drop]
      have := JfB b n (i + 1)
      rw [Q4, show 64 * (i + 1) = 64 * i + 64 from by omega] at this
      rw [this, show i + 1 + n = i + (n + 1) from by omega]
def Jyv (bs : List Int) (n : Nat) : List Int := JbC (Qt bs) fun P => JbC (Ji1 P n iv P) fun s => JbC (Jjy s) fun r => r
theorem Ji2 (bs : List Int) : Jyv bs ((Qt bs).length / 64) = Ju bs := by
  rw [Jas]
  simp only [Jyv, V7]
  have := JfB (Qt bs) ((Qt bs).length / 64) 0
  rw [Q4, Nat.mul_zero, List.drop_zero, Nat.zero_add] at this
  rw [this]; rfl
-- FN law9.known
def Jtr : List Int := [222, 87, 173, 32, 103, 237, 148, 204, 175, 52, 179, 142, 217, 35, 16, 25, 63, 14, 57, 74, 190, 160, 150, 87, 13, 59, 41, 224, 246, 97, 92, 43]
def Jl6 : List Int := [153, 23, 23, 68, 172, 113, 210, 173, 109, 178, 123, 198, 8, 243, 9, 87, 51, 187, 213, 49, 242, 44, 37, 15, 107, 179, 98, 137, 48, 46, 217, 95]
def k9L : List Int := [0, 0, 0, 0, 0, 0, 0, 0, 0, 0, 0, 0, 0, 0, 0, 0, 0, 0, 0, 0, 0, 0, 0, 0, 0, 0, 0, 0, 0, 0, 0, 0, 0, 0, 0, 0, 0, 0, 0, 0, 0, 0, 1, 0, 0, 0, 0, 0, 0, 0, 0, 0, 0, 0, 0, 0, 0, 0, 0, 0, 0, 0, 0, 0, 0, 0, 0, 0, 0, 0, 0, 0, 0, 0, 0, 0, 0]
theorem Jyw : Ju ([93, 6, 54, 54, 54, 54, 54, 54, 54, 54, 54, 54, 54, 54, 54, 54, 54, 54, 54, 54, 54, 54, 54, 54, 54, 54, 54, 54, 54, 54, 54, 54, 54, 54, 54, 54, 54, 54, 54, 54, 54, 54, 54, 54, 54, 54, 54, 54, 54, 54, 54, 54, 54, 54, 54, 54, 54, 54, 54, 54, 54, 54, 54, 54] ++ k9L) = Jtr := (Ji2 ([93, 6, 54, 54, 54, 54, 54, 54, 54, 54, 54, 54, 54, 54, 54, 54, 54, 54, 54, 54, 54, 54, 54, 54, 54, 54, 54, 54, 54, 54, 54, 54, 54, 54, 54, 54, 54, 54, 54, 54, 54, 54, 54, 54, 54, 54, 54, 54, 54, 54, 54, 54, 54, 54, 54, 54, 54, 54, 54, 54, 54, 54, 54, 54] ++ k9L)).symm.trans (by kernel_rfl)
theorem Jts : Ju ([55, 108, 92, 92, 92, 92, 92, 92, 92, 92, 92, 92, 92, 92, 92, 92, 92, 92, 92, 92, 92, 92, 92, 92, 92, 92, 92, 92, 92, 92, 92, 92, 92, 92, 92, 92, 92, 92, 92, 92, 92, 92, 92, 92, 92, 92, 92, 92, 92, 92, 92, 92, 92, 92, 92, 92, 92, 92, 92, 92, 92, 92, 92, 92] ++ Jtr) = Jl6 := (Ji2 ([55, 108, 92, 92, 92, 92, 92, 92, 92, 92, 92, 92, 92, 92, 92, 92, 92, 92, 92, 92, 92, 92, 92, 92, 92, 92, 92, 92, 92, 92, 92, 92, 92, 92, 92, 92, 92, 92, 92, 92, 92, 92, 92, 92, 92, 92, 92, 92, 92, 92, 92, 92, 92, 92, 92, 92, 92, 92, 92, 92, 92, 92, 92, 92] ++ Jtr)).symm.trans (by kernel_rfl)
theorem Jtt : QQ [107, 48] k9L = Jl6 := by
  have hk : VP [107, 48] = [107, 48] ++ List.replicate 62 0 := by simp [VP, JjC]
  rw [Jau, Jfc, hk]
  rw [show JT ([107, 48] ++ List.replicate 62 0) 54 = [93, 6, 54, 54, 54, 54, 54, 54, 54, 54, 54, 54, 54, 54, 54, 54, 54, 54, 54, 54, 54, 54, 54, 54, 54, 54, 54, 54, 54, 54, 54, 54, 54, 54, 54, 54, 54, 54, 54, 54, 54, 54, 54, 54, 54, 54, 54, 54, 54, 54, 54, 54, 54, 54, 54, 54, 54, 54, 54, 54, 54, 54, 54, 54] from by decide, show JT ([107, 48] ++ List.replicate 62 0) 92 = [55, 108, 92, 92, 92, 92, 92, 92, 92, 92, 92, 92, 92, 92, 92, 92, 92, 92, 92, 92, 92, 92, 92, 92, 92, 92, 92, 92, 92, 92, 92, 92, 92, 92, 92, 92, 92, 92, 92, 92, 92, 92, 92, 92, 92, 92, 92, 92, 92, 92, 92, 92, 92, 92, 92, 92, 92, 92, 92, 92, 92, 92, 92, 92] from by decide, Jyw, Jts]
noncomputable def z32 : List PV := List.replicate 32 (.sc (.int .u8 0))
noncomputable def k9 : List PV := [.ro 5 false false (kb 0 []), .ro 5 false false (kb 1 []), .ro 5 false false (kb 2 [])]
theorem Jhi : kO3 k9 = true := Jd3.2 ⟨Jin 0 rfl, Jin 1 rfl, Jin 2 rfl⟩
noncomputable def d9v : DV := ⟨0, 0, 0, 0, z32, 2, [], 0, 0⟩
theorem Jd6 : opB [] = [0] := by rw [GD]; rfl
theorem h32_z32 : h32 z32 = true := h32_iff.2 ⟨rfl, rfl⟩
theorem Jd7 : dOk d9v = true := Ya.2 ⟨rfl, rfl, Xf.2 ⟨rfl, fun p hp => (by cases hp), by decide⟩, by show (opB []).length ≤ _; rw [Jd6]; decide⟩
theorem Jl7 : dCk d9v = 0 := by rw [JdX]; rfl
theorem Jyx : eOk ⟨[], z32, 0, []⟩ = true := WE.2 ⟨rfl, by decide, rfl, rfl, Xf.2 ⟨rfl, fun p hp => (by cases hp), by decide⟩, by show (opB []).length ≤ _; rw [Jd6]; decide⟩
theorem Jyy : Jg ⟨[], z32, 0, []⟩ ++ Jh z32 = k9L := by
  rw [Jbq, Jbp]
  show Qj (tx []) ++ (Jh z32 ++ (J7 0 ++ Qj (tx (pu .u8 (opB []))))) ++ Jh z32 = _
  rw [Jd6, Q5, Q5, Wf]
  unfold X2
  rw [Jbh, Jbh]
  rfl
theorem Jtu (d : DV) (h : byB d.h = true := by rfl) : byB (pu .u8 (dlB d)) = true := by
  rw [Jki]
  intro x hx
  rw [JdQ] at hx
  simp only [JjF, List.mem_append, List.mem_singleton] at hx
  rcases hx with h1 | h1 | h1 | h1 | h1 | h1 | h1 | h1 | h1
  · exact X3 _ x h1
  · exact X3 _ x h1
  · exact X3 _ x h1
  · exact X3 _ x h1
  · exact (QK.1 h).2 x h1
  · rw [h1]; exact ZD _
  · exact Jfd _ x h1
  · exact X3 _ x h1
  · exact X3 _ x h1
theorem Jyz {l : List PV} {d : DV} (ho : dOk d = true) (hb : byB d.h = true) (hc : dCk d = 0) : Vo ⟨l, pu .u8 (dlB d), pu .u8 (mcK ⟨l, d.ad, dlB d⟩)⟩ = 0 := by
  obtain ⟨t1, t2⟩ := Jl5 ho hb hc
  obtain ⟨f0, f1, f2, f3, f4, f5, f6, f7, f8⟩ := Jfz t1 t2 (Ya.1 ho).1
  have hk : kIn d.ad = true := by rw [GE]; have := (Jfy hc).1; simp only [QB, Bool.and_eq_true, decide_eq_true_eq]; omega
  unfold Vo
  simp only [t1, f0, hk, Qf, beq_self_eq_true, Bool.and_self, cond_true]
theorem JA7 : emC ⟨k9, 0, ⟨[], z32, 0, []⟩, z32, z32⟩ = false := by
  rw [Jd4, GH, Zp]
  simp only [Jyy]
  have hk : Qv ⟨k9, 0⟩ = pu .u8 [107, 48] := by
    rw [Jat]; show kb 0 [] = _; rw [Jle]; rfl
  rw [hk, Qf, Jtt]
  rw [show (Jl6 == Jh z32) = false from by decide, Bool.and_false]
noncomputable def Jhj : List PV → List Ent → (Res → Option Res) → Option Res
  | [], [], k => k ⟨.sc (.bool true), [], []⟩
  | _, _, _ => none
noncomputable def JyA : Sig := { own := [], run := Jhj }
theorem JyB : Jk tau Try.prog 42 JyA := JA6.of fun xs es k res hr => by
  change Jhj xs es k = some res at hr
  unfold Jhj at hr
  split at hr
  · refine Eq.trans ?_ hr
    show g42 0 _ = _
    unfold g42
    have hz : [PV.sc (Value.int IntKind.u8 0), PV.sc (Value.int IntKind.u8 0), PV.sc (Value.int IntKind.u8 0), PV.sc (Value.int IntKind.u8 0), PV.sc (Value.int IntKind.u8 0), PV.sc (Value.int IntKind.u8 0), PV.sc (Value.int IntKind.u8 0), PV.sc (Value.int IntKind.u8 0), PV.sc (Value.int IntKind.u8 0), PV.sc (Value.int IntKind.u8 0), PV.sc (Value.int IntKind.u8 0), PV.sc (Value.int IntKind.u8 0), PV.sc (Value.int IntKind.u8 0), PV.sc (Value.int IntKind.u8 0), PV.sc (Value.int IntKind.u8 0), PV.sc (Value.int IntKind.u8 0), PV.sc (Value.int IntKind.u8 0), PV.sc (Value.int IntKind.u8 0), PV.sc (Value.int IntKind.u8 0), PV.sc (Value.int IntKind.u8 0), PV.sc (Value.int IntKind.u8 0), PV.sc (Value.int IntKind.u8 0), PV.sc (Value.int IntKind.u8 0), PV.sc (Value.int IntKind.u8 0), PV.sc (Value.int IntKind.u8 0), PV.sc (Value.int IntKind.u8 0), PV.sc (Value.int IntKind.u8 0), PV.sc (Value.int IntKind.u8 0), PV.sc (Value.int IntKind.u8 0), PV.sc (Value.int IntKind.u8 0), PV.sc (Value.int IntKind.u8 0), PV.sc (Value.int IntKind.u8 0)] = z32 := rfl
    have hk : [PV.ro 5 false false (kb 0 []), .ro 5 false false (kb 1 []), .ro 5 false false (kb 2 [])] = k9 := rfl
    have hd : DV.mk 0 0 0 0 z32 2 [] 0 0 = d9v := rfl
    simp only [hz, hk, hd]
    have hs := Jyz (l := k9) Jd7 rfl Jl7
    have had : d9v.ad = 0 := rfl
    rw [had] at hs
    have hsE : soE ⟨k9, pu .u8 (dlB d9v), pu .u8 (mcK ⟨k9, 0, dlB d9v⟩)⟩ = 0 := by rw [Jha, hs]
    have hsF : soF 4 ⟨k9, pu .u8 (dlB d9v), pu .u8 (mcK ⟨k9, 0, dlB d9v⟩)⟩ = 2 := by
      rw [Jhb, hs]
      show dF 4 (pu .u8 (dlB d9v)) = 2
      obtain ⟨t1, t2⟩ := Jl5 Jd7 rfl Jl7
      exact (Jfz t1 t2 rfl).2.2.2.2.1
    have hby : byB (pu .u8 (dlB d9v)) = true := Jtu _
    have hsl : slB false (pu .u8 (dlB d9v)) = true := Q3.2 ⟨fun h => (by cases h), by rw [JG]; have := JcF Jd7; omega⟩
    have hmk : h32 (pu .u8 (mcK ⟨k9, 0, dlB d9v⟩)) = true := h32_iff.2 ⟨JF _ _, by rw [JG]; exact JbA _⟩
    rw [hsE, hsF, JA7]
    refine (Jb (by rw [Jd7, Jhi]; rfl)).trans ((Jb (by rw [hsl, hby, hmk, Jhi]; rfl)).trans ((Jb rfl).trans ((Jb rfl).trans ((Jb (by rw [Jyx, h32_z32, Jhi]; rfl)).trans rfl))))
  · cases hr
noncomputable def F45 : Fns := F0
theorem Jtv : JA tau Try.prog F45 := JJ
def JoH : An := (.seq .leaf (.seq .leaf (.seq (.seq .leaf (.cond .leaf .leaf)) (.seq .leaf .leaf))))
noncomputable def g45 (f : Nat) (at1 : Int) (n : Int) (k : Res → Option Res) : Option Res :=
  bif !decide (n = 0) && true then
    bif decide (at1.tmod n < 0) then
      k (Res.mk (PV.sc (Value.int IntKind.i64 (IntKind.i64.wrap (at1.tmod n + n)))) [] [])
    else k (Res.mk (PV.sc (Value.int IntKind.i64 (at1.tmod n))) [] [])
  else none
theorem e45 (f : Nat) (at1 : Int) (n : Int) (k : Res → Option Res) : JN tau F45 Try.f45 (Try.f45.body.get!) JoH [.ro] 0 [.sc (.int .i64 at1), .sc (.int .i64 n)] [] k = g45 f at1 n k := by kernel_rfl
theorem JA8 (f : Nat) : Ji (Try.f45.body.get!) JoH = [] := by kernel_rfl
theorem JA9 (f : Nat) : ∀ q ∈ Ji (Try.f45.body.get!) JoH, q.Ok tau Try.prog 0 := by
  rw [JA8 f]; intro q hq; cases hq
theorem JyC : Try.prog.funcs[45]? = some Try.f45 := by kernel_rfl
theorem JyD : Try.f45.body = some (Try.f45.body.get!) := by kernel_rfl
theorem JBa : Enters Try.prog 45 := enters_of JyC (by kernel_rfl) JyD
noncomputable def Jl8 : List PV → List Ent → (Res → Option Res) → Option Res
  | [.sc (.int .i64 at1), .sc (.int .i64 n)], [], k => g45 0 at1 n k
  | _, _, _ => none
noncomputable def s45 : Sig := { own := [], run := Jl8 }
theorem JBb : Jk tau Try.prog 45 s45 := JV Js Jtv Jt JyC JyD JoH [.ro] 0 [] Jl8 (JA9 0) fun xs es k res hr => by
  unfold Jl8 at hr
  split at hr
  · exact ⟨rfl, 0, (e45 0 _ _  _).trans hr⟩
  · cases hr
-- FN law9.within
noncomputable def Jhk : List PV → List Ent → (Res → Option Res) → Option Res
  | [.sc (.int .i64 a), .sc (.int .i64 n)], [], k => bif okW n then k ⟨.sc (.int .i64 (a % n)), [], []⟩ else none
  | _, _, _ => none
noncomputable def JyE : Sig := { own := [], run := Jhk }
theorem Jtw (a n : Int) (h : 0 < n) (h2 : n < 1000000000000) (k : Res → Option Res) : g45 0 a n k = k ⟨.sc (.int .i64 (a % n)), [], []⟩ := by
  have hn : (n == 0) = false := by simp; omega
  have e := Int.tmod_eq_emod (a := a) (b := n)
  have e0 := Int.emod_nonneg a (show n ≠ 0 by omega)
  have e1 := Int.emod_lt_of_pos a h
  have hna : (n.natAbs : Int) = n := by omega
  unfold g45
  refine (Jb (by simp; omega)).trans ?_
  by_cases hc : a.tmod n < 0
  · refine (Jb (by simpa using hc)).trans ?_
    have : IntKind.i64.wrap (a.tmod n + n) = a % n := by
      split at e <;> (rw [wrap_i64 (by omega) (by omega)]; omega)
    rw [this]
  · refine (Jx (by simpa using hc)).trans ?_
    have : a.tmod n = a % n := by split at e <;> omega
    rw [this]
theorem JyF : Jk tau Try.prog 45 JyE := JBb.of fun xs es k res hr => by
  change Jhk xs es k = some res at hr
  unfold Jhk at hr
  split at hr
  · obtain ⟨hc, hr⟩ := JL hr
    simp only [Z2, Bool.and_eq_true, decide_eq_true_eq] at hc
    exact (Jtw _ _ hc.1 hc.2 _).trans hr
  · cases hr
noncomputable def JyG : Fns := F0
theorem JoI : JA tau Try.prog JyG := JJ
def Ji3 : An := (.seq .leaf (.seq .leaf (.seq (.seq .leaf (.cond .leaf .leaf)) (.seq .leaf .leaf))))
noncomputable def JoJ (f : Nat) (at1 : Int) (n : Int) (k : Res → Option Res) : Option Res :=
  bif !decide (n = 0) && true then
    bif decide (at1.tmod n < 0) then
      k (Res.mk (PV.sc (Value.int IntKind.i64 (IntKind.i64.wrap (at1.tmod n + n)))) [] [])
    else k (Res.mk (PV.sc (Value.int IntKind.i64 (at1.tmod n))) [] [])
  else none
theorem JBc (f : Nat) (at1 : Int) (n : Int) (k : Res → Option Res) : JN tau JyG Try.f112 (Try.f112.body.get!) Ji3 [.ro] 0 [.sc (.int .i64 at1), .sc (.int .i64 n)] [] k = JoJ f at1 n k := by kernel_rfl
theorem JyH (f : Nat) : Ji (Try.f112.body.get!) Ji3 = [] := by kernel_rfl
theorem JyI (f : Nat) : ∀ q ∈ Ji (Try.f112.body.get!) Ji3, q.Ok tau Try.prog 0 := by
  rw [JyH f]; intro q hq; cases hq
theorem JqV : Try.prog.funcs[112]? = some Try.f112 := by kernel_rfl
theorem JqW : Try.f112.body = some (Try.f112.body.get!) := by kernel_rfl
theorem JyJ : Enters Try.prog 112 := enters_of JqV (by kernel_rfl) JqW
noncomputable def Jhl : List PV → List Ent → (Res → Option Res) → Option Res
  | [.sc (.int .i64 at1), .sc (.int .i64 n)], [], k => JoJ 0 at1 n k
  | _, _, _ => none
noncomputable def JBd : Sig := { own := [], run := Jhl }
theorem JyK : Jk tau Try.prog 112 JBd := JV Js JoI Jt JqV JqW Ji3 [.ro] 0 [] Jhl (JyI 0) fun xs es k res hr => by
  unfold Jhl at hr
  split at hr
  · exact ⟨rfl, 0, (JBc 0 _ _  _).trans hr⟩
  · cases hr
-- FN law4.within
noncomputable def Jd8 : List PV → List Ent → (Res → Option Res) → Option Res
  | [.sc (.int .i64 a), .sc (.int .i64 n)], [], k => bif okW n then k ⟨.sc (.int .i64 (a % n)), [], []⟩ else none
  | _, _, _ => none
noncomputable def JqX : Sig := { own := [], run := Jd8 }
theorem JoK (a n : Int) (h : 0 < n) (h2 : n < 1000000000000) (k : Res → Option Res) : JoJ 0 a n k = k ⟨.sc (.int .i64 (a % n)), [], []⟩ := by
  have hn : (n == 0) = false := by simp; omega
  have e := Int.tmod_eq_emod (a := a) (b := n)
  have e0 := Int.emod_nonneg a (show n ≠ 0 by omega)
  have e1 := Int.emod_lt_of_pos a h
  have hna : (n.natAbs : Int) = n := by omega
  unfold JoJ
  refine (Jb (by simp; omega)).trans ?_
  by_cases hc : a.tmod n < 0
  · refine (Jb (by simpa using hc)).trans ?_
    have : IntKind.i64.wrap (a.tmod n + n) = a % n := by
      split at e <;> (rw [wrap_i64 (by omega) (by omega)]; omega)
    rw [this]
  · refine (Jx (by simpa using hc)).trans ?_
    have : a.tmod n = a % n := by split at e <;> omega
    rw [this]
theorem Jtx : Jk tau Try.prog 112 JqX := JyK.of fun xs es k res hr => by
  change Jd8 xs es k = some res at hr
  unfold Jd8 at hr
  split at hr
  · obtain ⟨hc, hr⟩ := JL hr
    simp only [Z2, Bool.and_eq_true, decide_eq_true_eq] at hc
    exact (JoK _ _ hc.1 hc.2 _).trans hr
  · cases hr
end Go.Proofs.Ytcklhipdldpkhaa.Rx
