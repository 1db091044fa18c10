/- What the functions of this law compute, and their plain laws. Conditions: none. -/
import Derived.Test.YthpmachmnoljeaaGreatWaveletTurnedP2
namespace Go.Proofs.YthpmachmnoljeaaGreat.Rx
noncomputable section
open Go
set_option linter.unusedVariables false
set_option linter.unusedSimpArgs false
set_option maxRecDepth 100000
set_option maxHeartbeats 0
def N46 : Nat := 278
def F46 : Fns := Jr 78 s78 (Jr 79 JHv F0)
theorem Zz : Jp tau Tryz.prog F46 := (Js.add JHw JN9).add JPC JPB
def JpY : Code := Qd (Tryz.f46.body.get!) [1, 1, 1, 1, 1, 0, 0, 0]
def Jfi : Nm := [(0, .any), (2, .any), (3, .any), (4, .any), (5, .any)]
def Jnr : Nm := [(0, .any), (2, .any), (3, .any), (4, .any), (5, .any)]
def Jum : An := (.seq (.seq .leaf (.cond .leaf .leaf)) (.block none .leaf))
def JgX : Code := Qd (Tryz.f46.body.get!) [1, 1, 1, 1, 1, 1, 1, 0, 1, 0, 0]
def ZA : Nm := [(2, .any), (3, .any), (4, .any), (5, .any), (6, .any), (7, .any)]
def Vz : Nm := [(2, .any), (3, .any), (4, .any), (5, .any)]
def JkQ : An := (.seq (.seq .leaf (.cond .leaf .leaf)) (.seq (.block none .leaf) .leaf))
def JgY : Code := Qd (Tryz.f46.body.get!) [1, 1, 1, 1, 1, 1, 1, 1, 1, 0, 1, 0, 0, 1, 0, 0, 0, 1, 0, 0]
def ZB : Nm := [(2, .any), (3, .any), (4, .any), (5, .any), (8, .any), (9, .any), (10, .any)]
def VA : Nm := [(2, .any), (3, .any), (4, .any), (5, .any), (8, .any), (9, .any)]
def JkR : An := (.seq (.seq .leaf (.cond .leaf .leaf)) (.seq (.block none (.seq .leaf .leaf)) .leaf))
def JgZ : Code := Qd (Tryz.f46.body.get!) [1, 1, 1, 1, 1, 1, 1, 1, 1, 0, 1, 0, 0, 1, 0, 0, 1, 0, 1, 0, 0]
def ZC : Nm := [(2, .any), (3, .any), (4, .any), (5, .any), (8, .any), (9, .any), (12, .any)]
def VB : Nm := [(2, .any), (3, .any), (4, .any), (5, .any), (8, .any), (9, .any)]
def JkS : An := (.seq (.seq .leaf (.cond .leaf .leaf)) (.seq (.block none (.seq .leaf .leaf)) .leaf))
def Jg0 : Code := Qd (Tryz.f46.body.get!) [1, 1, 1, 1, 1, 1, 1, 1, 1, 0, 1, 0, 0, 1, 0, 0, 1, 1, 1, 0, 1, 0, 0]
def ZD : Nm := [(2, .any), (3, .any), (4, .any), (5, .any), (8, .any), (9, .any), (15, .any), (16, .any)]
def VC : Nm := [(2, .any), (3, .any), (4, .any), (5, .any), (8, .any), (9, .any), (15, .any)]
def JkT : An := (.seq (.seq .leaf (.cond .leaf .leaf)) (.seq (.block none (.seq .leaf (.seq .leaf (.seq .leaf .leaf)))) .leaf))
def Jg1 : Code := Qd (Tryz.f46.body.get!) [1, 1, 1, 1, 1, 1, 1, 1, 1, 0, 1, 0, 0, 1, 0, 0, 1, 1, 1, 1, 1, 0, 0]
def ZE : Nm := [(2, .any), (3, .any), (4, .any), (5, .any), (8, .any), (9, .any), (15, .any), (20, .any)]
def VD : Nm := [(2, .any), (3, .any), (4, .any), (5, .any), (8, .any), (9, .any)]
def JkU : An := (.seq (.seq .leaf (.cond .leaf .leaf)) (.seq (.block none .leaf) .leaf))
def Jg2 : Code := Qd (Tryz.f46.body.get!) [1, 1, 1, 1, 1, 1, 1, 1, 1, 0, 1, 0, 0]
def ZF : Nm := [(2, .any), (3, .any), (4, .any), (5, .any), (8, .any), (9, .any)]
def VE : Nm := [(2, .any), (4, .any)]
def JkV (r3 : Qt) (r4 : Qt) (r5 : Qt) (r6 : Qt) : An := (.seq (.seq .leaf (.cond .leaf .leaf)) (.seq (.block none (.seq (.seq .leaf (.block none (.sum ZB N46 r3))) (.seq (.seq .leaf (.block none (.sum ZC N46 r4))) (.seq .leaf (.seq (.seq .leaf (.block none (.sum ZD N46 r5))) (.seq .leaf (.block none (.sum ZE N46 r6)))))))) .leaf))
def JpZ : Code := Qd (Tryz.f46.body.get!) [1, 1, 1, 1, 1, 1, 1, 1, 1, 1, 1, 0, 1, 0, 0]
def Jfj : Nm := [(2, .any), (4, .any), (21, .any), (22, .any)]
def Jns : Nm := [(2, .any), (21, .any)]
def Jun : An := (.seq (.seq .leaf (.cond .leaf .leaf)) (.seq (.block none .leaf) .leaf))
def Jyx (r0 : Qt) (r1 : Qt) (r2 : Qt) (r7 : Qt) : An := (.seq .leaf (.seq .leaf (.seq .leaf (.seq .leaf (.seq .leaf (.seq (.block none (.sum Jfi N46 r0)) (.seq .leaf (.seq (.seq .leaf (.block none (.sum ZA N46 r1))) (.seq .leaf (.seq (.seq .leaf (.block none (.sum ZF N46 r2))) (.seq .leaf (.seq (.seq .leaf (.block none (.sum Jfj N46 r7))) (.seq .leaf .leaf)))))))))))))
abbrev Juo := Bool -> Bool -> List PV -> Nat -> List PV -> List PV -> List PV -> List PV -> OR
def JbC (f : Nat) (rc : Juo) (k0 : Bool -> Bool -> List PV -> Nat -> List PV -> List PV -> List PV -> List PV -> OR) (v0 v1 : Bool) (v2 : List PV) (v3 : Nat) (v4 v5 v6 v7 : List PV) : OR := bif (zi v3).tmod 64 != 56 then bif Je (v3 + 1) 1 && true then rc v0 v1 v2 (v3 + 1) v4 v5 v6 (List.take v3 v7 ++ [.sc (.int .u8 0)]) else none else k0 v0 v1 v2 v3 v4 v5 v6 v7
def G1 (f : Nat) (k0 : Bool -> Bool -> List PV -> Nat -> List PV -> List PV -> List PV -> List PV -> OR) : Nat -> Juo
 | 0 => fun _ _ _ _ _ _ _ _ => none
 | n + 1 => JbC f (G1 f k0 n) k0
def JbD (k : Kont) := fun x0 x1 x2 x3 x4 x5 x6 x7 => k (Ex.exit 0) (Ji Jnr N46 [.ro 5 x0 x1 x2, .ptr 4464 [], .ptr 4465 [], .ptr 4466 [], .ow 5 4467 [] 0 x3 none] [(4464, .box false 28 (PV.ar 28 x4)), (4465, .box false 148 (PV.ar 148 x5)), (4466, .box false 150 (PV.ar 150 x6)), (4467, .vec false 5 false x7)])
def Jnt (f : Nat) (k : Kont) (n : Nat) (v0 v1 : Bool) (v2 : List PV) (v3 : Nat) (v4 v5 v6 v7 : List PV) : OR := Jx tau 0 Jfi (fun s k => ev tau F46 0 0 JpY (Jum ) s k) n (Ji Jfi N46 [.ro 5 v0 v1 v2, .ptr 4464 [], .ptr 4465 [], .ptr 4466 [], .ow 5 4467 [] 0 v3 none] [(4464, .box false 28 (PV.ar 28 v4)), (4465, .box false 148 (PV.ar 148 v5)), (4466, .box false 150 (PV.ar 150 v6)), (4467, .vec false 5 false v7)]) (JG tau 0 Jnr k)
theorem Jyy (f : Nat) (k : Kont) (n : Nat) : Jnt f k (n + 1) = JbC f (Jnt f k n) (JbD k) := by kernel_rfl
theorem Jp0 (f : Nat) (k : Kont) : ∀ n, Jnt f k n = G1 f (JbD k) n
 | 0 => rfl
 | n + 1 => (Jyy f k n).trans (congrArg (fun r => JbC f r (JbD k)) (Jp0 f k n))
def Jfk (f : Nat) : List PV -> List (Nat × Ent) -> Kont -> OR
 | [.ro 5 v0 v1 v2, .ptr 4464 [], .ptr 4465 [], .ptr 4466 [],
 PV.ow 5 4467 [] 0 v3
  none], [(4464, .box false 28 (PV.ar 28 v4)), (4465, .box false 148 (PV.ar 148 v5)), (4466, .box false 150 (PV.ar 150 v6)),
 (4467,
  Ent.vec false 5 false
   v7)], k => G1 f (JbD k) f v0 v1 v2 v3 v4 v5 v6 v7
 | _, _, _ => none
theorem JES (f : Nat) : Jf JpY Jum = [] := by kernel_rfl
theorem JKt (f : Nat) : (Item.l JpY Jfi N46 (Jfk f)).Ok tau Tryz.prog 0 := Jt Jn Zz Jo (x := Jum) (nm2 := Jnr) (Jl _ _ (by rw [JES f]; intro q hq; cases hq)) fun vs hp k res hr => by
 unfold Jfk at hr
 split at hr
 · exact ⟨f, 0, (Jp0 f _ f _ _ _ _ _ _ _ _ ).trans hr⟩
 · cases hr
def JbE (f : Nat) (rc : Nat -> Int -> Int -> List PV -> List PV -> List PV -> List PV -> OR) (k0 : Nat -> List PV -> List PV -> List PV -> List PV -> OR) (v0 : Nat) (v1 v2 : Int) (v3 v4 v5 v6 : List PV) : OR := bif decide (v2 >= 0) then bif decide (0 <= IntKind.u64.wrap (8 * IntKind.u64.wrap v2)) && true then bif Je (v0 + 1) 1 && true then rc (v0 + 1) v1 (IntKind.i64.wrap (v2 - 1)) v3 v4 v5 (List.take v0 v6 ++ [.sc (.int .u8 (IntKind.u8.wrap (JV IntKind.u64 v1 (IntKind.u64.wrap (8 * IntKind.u64.wrap v2)))))]) else none else none else k0 v0 v3 v4 v5 v6
def G2 (f : Nat) (k0 : Nat -> List PV -> List PV -> List PV -> List PV -> OR) : Nat -> Nat -> Int -> Int -> List PV -> List PV -> List PV -> List PV -> OR
 | 0, _, _, _, _, _, _, _ => none
 | n + 1, v0, v1, v2, v3, v4, v5, v6 => JbE f (G2 f k0 n) k0 v0 v1 v2 v3 v4 v5 v6
theorem Jyz (f : Nat) (k : Kont) (n v0 : Nat) (v1 v2 : Int) (v3 v4 v5 v6 : List PV) : Jx tau 0 ZA (fun s k => ev tau F46 0 0 JgX (JkQ ) s k) (n + 1) (Ji ZA N46 [.ptr 4464 [], .ptr 4465 [], .ptr 4466 [], .ow 5 4467 [] 0 v0 none, .sc (.int .u64 v1), .sc (.int .i64 v2)] [(4464, .box false 28 (PV.ar 28 v3)), (4465, .box false 148 (PV.ar 148 v4)), (4466, .box false 150 (PV.ar 150 v5)), (4467, .vec false 5 false v6)]) (JG tau 0 Vz k) = JbE f (fun v0 v1 v2 v3 v4 v5 v6 => Jx tau 0 ZA (fun s k => ev tau F46 0 0 JgX (JkQ ) s k) n (Ji ZA N46 [.ptr 4464 [], .ptr 4465 [], .ptr 4466 [], .ow 5 4467 [] 0 v0 none, .sc (.int .u64 v1), .sc (.int .i64 v2)] [(4464, .box false 28 (PV.ar 28 v3)), (4465, .box false 148 (PV.ar 148 v4)), (4466, .box false 150 (PV.ar 150 v5)), (4467, .vec false 5 false v6)]) (JG tau 0 Vz k)) (fun x0 x1 x2 x3 x4 => k (Ex.exit 2) (Ji Vz N46 [.ptr 4464 [], .ptr 4465 [], .ptr 4466 [], .ow 5 4467 [] 0 x0 none] [(4464, .box false 28 (PV.ar 28 x1)), (4465, .box false 148 (PV.ar 148 x2)), (4466, .box false 150 (PV.ar 150 x3)), (4467, .vec false 5 false x4)])) v0 v1 v2 v3 v4 v5 v6 := by kernel_rfl
theorem Jp1 (f : Nat) (k : Kont) : ∀ (n v0 : Nat) (v1 v2 : Int) (v3 v4 v5 v6 : List PV), Jx tau 0 ZA (fun s k => ev tau F46 0 0 JgX (JkQ ) s k) n (Ji ZA N46 [.ptr 4464 [], .ptr 4465 [], .ptr 4466 [], .ow 5 4467 [] 0 v0 none, .sc (.int .u64 v1), .sc (.int .i64 v2)] [(4464, .box false 28 (PV.ar 28 v3)), (4465, .box false 148 (PV.ar 148 v4)), (4466, .box false 150 (PV.ar 150 v5)), (4467, .vec false 5 false v6)]) (JG tau 0 Vz k) = G2 f (fun x0 x1 x2 x3 x4 => k (Ex.exit 2) (Ji Vz N46 [.ptr 4464 [], .ptr 4465 [], .ptr 4466 [], .ow 5 4467 [] 0 x0 none] [(4464, .box false 28 (PV.ar 28 x1)), (4465, .box false 148 (PV.ar 148 x2)), (4466, .box false 150 (PV.ar 150 x3)), (4467, .vec false 5 false x4)])) n v0 v1 v2 v3 v4 v5 v6 | 0, _, _, _, _, _, _, _ => rfl | n + 1, v0, v1, v2, v3, v4, v5, v6 => (Jyz f k n v0 v1 v2 v3 v4 v5 v6).trans (congrArg (fun r => JbE f r (fun x0 x1 x2 x3 x4 => k (Ex.exit 2) (Ji Vz N46 [.ptr 4464 [], .ptr 4465 [], .ptr 4466 [], .ow 5 4467 [] 0 x0 none] [(4464, .box false 28 (PV.ar 28 x1)), (4465, .box false 148 (PV.ar 148 x2)), (4466, .box false 150 (PV.ar 150 x3)), (4467, .vec false 5 false x4)])) v0 v1 v2 v3 v4 v5 v6) (by funext v0 v1 v2 v3 v4 v5 v6; exact Jp1 f k n v0 v1 v2 v3 v4 v5 v6))
def Jfl (f : Nat) : List PV -> List (Nat × Ent) -> Kont -> OR
 | [.ptr 4464 [], .ptr 4465 [], .ptr 4466 [], .ow 5 4467 [] 0 v0 none, .sc (.int .u64 v1),
 PV.sc
  (Value.int IntKind.i64
   v2)], [(4464, .box false 28 (PV.ar 28 v3)), (4465, .box false 148 (PV.ar 148 v4)), (4466, .box false 150 (PV.ar 150 v5)),
 (4467,
  Ent.vec false 5 false
   v6)], k => G2 f (fun x0 x1 x2 x3 x4 => k (Ex.exit
 2) (Ji Vz N46 [.ptr 4464 [], .ptr 4465 [], .ptr 4466 [],
 PV.ow 5 4467 [] 0 x0
  none] [(4464, .box false 28 (PV.ar 28 x1)), (4465, .box false 148 (PV.ar 148 x2)), (4466, .box false 150 (PV.ar 150 x3)), (4467, .vec false 5 false x4)])) f v0 v1 v2 v3 v4 v5 v6
 | _, _, _ => none
theorem JET (f : Nat) : Jf JgX JkQ = [] := by kernel_rfl
theorem JKu (f : Nat) : (Item.l JgX ZA N46 (Jfl f)).Ok tau Tryz.prog 0 := Jt Jn Zz Jo (x := JkQ) (nm2 := Vz) (Jl _ _ (by rw [JET f]; intro q hq; cases hq)) fun vs hp k res hr => by
 unfold Jfl at hr
 split at hr
 · exact ⟨f, 0, (Jp1 f _ f _ _ _ _ _ _ _ ).trans hr⟩
 · cases hr
abbrev Xc (v1 : Int) (v2 : Int) := (IntKind.i64.wrap (v1 + IntKind.i64.wrap (4 * v2)) + 1)
abbrev Xd (v1 : Int) (v2 : Int) := (IntKind.i64.wrap (v1 + IntKind.i64.wrap (4 * v2)) + 2)
abbrev Xe (v1 : Int) (v2 : Int) := (IntKind.i64.wrap (v1 + IntKind.i64.wrap (4 * v2)) + 3)
def JbF (f : Nat) (rc : Nat -> Int -> Int -> List PV -> List PV -> List PV -> List PV -> List PV -> OR) (k0 : Nat -> Int -> List PV -> List PV -> List PV -> List PV -> List PV -> OR) (v0 : Nat) (v1 v2 : Int) (v3 v4 v5 v6 v7 : List PV) : OR := bif decide (v2 < 16) then bif decide (0 <= IntKind.i64.wrap (v1 + IntKind.i64.wrap (4 * v2))) && decide (IntKind.i64.wrap (v1 + IntKind.i64.wrap (4 * v2)) < zi v0) && true then bif PV.isInt IntKind.u8 (Jq (v6.getD (0 + (IntKind.i64.wrap (v1 + IntKind.i64.wrap (4 * v2))).toNat) PV.top) []) && true then bif decide (0 <= IntKind.i64.wrap (Xc v1 v2)) && decide (IntKind.i64.wrap (Xc v1 v2) < zi v0) && true then bif PV.isInt IntKind.u8 (Jq (v6.getD (0 + (IntKind.i64.wrap (Xc v1 v2)).toNat) PV.top) []) && true then bif decide (0 <= IntKind.i64.wrap (Xd v1 v2)) && decide (IntKind.i64.wrap (Xd v1 v2) < zi v0) && true then bif PV.isInt IntKind.u8 (Jq (v6.getD (0 + (IntKind.i64.wrap (Xd v1 v2)).toNat) PV.top) []) && true then bif decide (0 <= IntKind.i64.wrap (Xe v1 v2)) && decide (IntKind.i64.wrap (Xe v1 v2) < zi v0) && true then bif PV.isInt IntKind.u8 (Jq (v6.getD (0 + (IntKind.i64.wrap (Xe v1 v2)).toNat) PV.top) []) && true then bif decide (0 <= v2) && decide (v2 < zi 64) && true then rc v0 v1 (IntKind.i64.wrap (v2 + 1)) v3 v4 v5 v6 (v7.set v2.toNat (.sc (.int .u32 (JL BinOp.or IntKind.u32 (JL BinOp.or IntKind.u32 (JL BinOp.or IntKind.u32 (XB IntKind.u32 (IntKind.u32.wrap (Jq (v6.getD (0 + (IntKind.i64.wrap (v1 + IntKind.i64.wrap (4 * v2))).toNat) PV.top) []).int) 24) (XB IntKind.u32 (IntKind.u32.wrap (Jq (v6.getD (0 + (IntKind.i64.wrap (Xc v1 v2)).toNat) PV.top) []).int) 16)) (XB IntKind.u32 (IntKind.u32.wrap (Jq (v6.getD (0 + (IntKind.i64.wrap (Xd v1 v2)).toNat) PV.top) []).int) 8)) (IntKind.u32.wrap (Jq (v6.getD (0 + (IntKind.i64.wrap (Xe v1 v2)).toNat) PV.top) []).int))))) else none else none else none else none else none else none else none else none else none else k0 v0 v1 v3 v4 v5 v6 v7
def G3 (f : Nat) (k0 : Nat -> Int -> List PV -> List PV -> List PV -> List PV -> List PV -> OR) : Nat -> Nat -> Int -> Int -> List PV -> List PV -> List PV -> List PV -> List PV -> OR
 | 0, _, _, _, _, _, _, _, _ => none
 | n + 1, v0, v1, v2, v3, v4, v5, v6, v7 => JbF f (G3 f k0 n) k0 v0 v1 v2 v3 v4 v5 v6 v7
theorem JyA (f : Nat) (k : Kont) (n v0 : Nat) (v1 v2 : Int) (v3 v4 v5 v6 v7 : List PV) : Jx tau 0 ZB (fun s k => ev tau F46 0 0 JgY (JkR ) s k) (n + 1) (Ji ZB N46 [.ptr 4464 [], .ptr 4465 [], .ptr 4466 [], .ow 5 4467 [] 0 v0 none, .ptr 4468 [], .sc (.int .i64 v1), .sc (.int .i64 v2)] [(4464, .box false 28 (PV.ar 28 v3)), (4465, .box false 148 (PV.ar 148 v4)), (4466, .box false 150 (PV.ar 150 v5)), (4467, .vec false 5 false v6), (4468, .box false 148 (PV.ar 148 v7))]) (JG tau 0 VA k) = JbF f (fun v0 v1 v2 v3 v4 v5 v6 v7 => Jx tau 0 ZB (fun s k => ev tau F46 0 0 JgY (JkR ) s k) n (Ji ZB N46 [.ptr 4464 [], .ptr 4465 [], .ptr 4466 [], .ow 5 4467 [] 0 v0 none, .ptr 4468 [], .sc (.int .i64 v1), .sc (.int .i64 v2)] [(4464, .box false 28 (PV.ar 28 v3)), (4465, .box false 148 (PV.ar 148 v4)), (4466, .box false 150 (PV.ar 150 v5)), (4467, .vec false 5 false v6), (4468, .box false 148 (PV.ar 148 v7))]) (JG tau 0 VA k)) (fun x0 x1 x2 x3 x4 x5 x6 => k (Ex.exit 6) (Ji VA N46 [.ptr 4464 [], .ptr 4465 [], .ptr 4466 [], .ow 5 4467 [] 0 x0 none, .ptr 4468 [], .sc (.int .i64 x1)] [(4464, .box false 28 (PV.ar 28 x2)), (4465, .box false 148 (PV.ar 148 x3)), (4466, .box false 150 (PV.ar 150 x4)), (4467, .vec false 5 false x5), (4468, .box false 148 (PV.ar 148 x6))])) v0 v1 v2 v3 v4 v5 v6 v7 := by kernel_rfl
theorem Jp2 (f : Nat) (k : Kont) : ∀ (n v0 : Nat) (v1 v2 : Int) (v3 v4 v5 v6 v7 : List PV), Jx tau 0 ZB (fun s k => ev tau F46 0 0 JgY (JkR ) s k) n (Ji ZB N46 [.ptr 4464 [], .ptr 4465 [], .ptr 4466 [], .ow 5 4467 [] 0 v0 none, .ptr 4468 [], .sc (.int .i64 v1), .sc (.int .i64 v2)] [(4464, .box false 28 (PV.ar 28 v3)), (4465, .box false 148 (PV.ar 148 v4)), (4466, .box false 150 (PV.ar 150 v5)), (4467, .vec false 5 false v6), (4468, .box false 148 (PV.ar 148 v7))]) (JG tau 0 VA k) = G3 f (fun x0 x1 x2 x3 x4 x5 x6 => k (Ex.exit 6) (Ji VA N46 [.ptr 4464 [], .ptr 4465 [], .ptr 4466 [], .ow 5 4467 [] 0 x0 none, .ptr 4468 [], .sc (.int .i64 x1)] [(4464, .box false 28 (PV.ar 28 x2)), (4465, .box false 148 (PV.ar 148 x3)), (4466, .box false 150 (PV.ar 150 x4)), (4467, .vec false 5 false x5), (4468, .box false 148 (PV.ar 148 x6))])) n v0 v1 v2 v3 v4 v5 v6 v7 | 0, _, _, _, _, _, _, _, _ => rfl | n + 1, v0, v1, v2, v3, v4, v5, v6, v7 => (JyA f k n v0 v1 v2 v3 v4 v5 v6 v7).trans (congrArg (fun r => JbF f r (fun x0 x1 x2 x3 x4 x5 x6 => k (Ex.exit 6) (Ji VA N46 [.ptr 4464 [], .ptr 4465 [], .ptr 4466 [], .ow 5 4467 [] 0 x0 none, .ptr 4468 [], .sc (.int .i64 x1)] [(4464, .box false 28 (PV.ar 28 x2)), (4465, .box false 148 (PV.ar 148 x3)), (4466, .box false 150 (PV.ar 150 x4)), (4467, .vec false 5 false x5), (4468, .box false 148 (PV.ar 148 x6))])) v0 v1 v2 v3 v4 v5 v6 v7) (by funext v0 v1 v2 v3 v4 v5 v6 v7; exact Jp2 f k n v0 v1 v2 v3 v4 v5 v6 v7))
def Jdw (f : Nat) : List PV -> List (Nat × Ent) -> Kont -> OR
 | [.ptr 4464 [], .ptr 4465 [], .ptr 4466 [], .ow 5 4467 [] 0 v0 none, .ptr 4468 [], .sc (.int .i64 v1),
 PV.sc
  (Value.int IntKind.i64
   v2)], [(4464, .box false 28 (PV.ar 28 v3)), (4465, .box false 148 (PV.ar 148 v4)), (4466, .box false 150 (PV.ar 150 v5)), (4467, .vec false 5 false v6),
 (4468,
  Ent.box false 148
   (PV.ar 148
    v7))], k => G3 f (fun x0 x1 x2 x3 x4 x5 x6 => k (Ex.exit
 6) (Ji VA N46 [.ptr 4464 [], .ptr 4465 [], .ptr 4466 [], .ow 5 4467 [] 0 x0 none, .ptr 4468 [],
 PV.sc
  (Value.int IntKind.i64
   x1)] [(4464, .box false 28 (PV.ar 28 x2)), (4465, .box false 148 (PV.ar 148 x3)), (4466, .box false 150 (PV.ar 150 x4)), (4467, .vec false 5 false x5),
 (4468, .box false 148 (PV.ar 148 x6))])) f v0 v1 v2 v3 v4 v5 v6 v7
 | _, _, _ => none
theorem JEU (f : Nat) : Jf JgY JkR = [] := by kernel_rfl
theorem JKv (f : Nat) : (Item.l JgY ZB N46 (Jdw f)).Ok tau Tryz.prog 0 := Jt Jn Zz Jo (x := JkR) (nm2 := VA) (Jl _ _ (by rw [JEU f]; intro q hq; cases hq)) fun vs hp k res hr => by
 unfold Jdw at hr
 split at hr
 · exact ⟨f, 0, (Jp2 f _ f _ _ _ _ _ _ _ _ ).trans hr⟩
 · cases hr
abbrev Xf (v2 : Int) (v7 : List PV) := (Jq (PV.ar 148 v7) [(IntKind.i64.wrap (v2 - 15)).toNat])
abbrev Xg (v2 : Int) (v7 : List PV) := (Jq (PV.ar 148 v7) [(IntKind.i64.wrap (v2 - 2)).toNat])
def JbG (f : Nat) (rc : Nat -> Int -> Int -> List PV -> List PV -> List PV -> List PV -> List PV -> OR) (k0 : Nat -> Int -> List PV -> List PV -> List PV -> List PV -> List PV -> OR) (v0 : Nat) (v1 v2 : Int) (v3 v4 v5 v6 v7 : List PV) : OR := bif decide (v2 < 64) then bif decide (0 <= IntKind.i64.wrap (v2 - 15)) && decide (IntKind.i64.wrap (v2 - 15) < zi 64) && true then bif PV.isInt IntKind.u32 (Xf v2 v7) && true then bif decide (0 <= IntKind.i64.wrap (v2 - 2)) && decide (IntKind.i64.wrap (v2 - 2) < zi 64) && true then bif PV.isInt IntKind.u32 (Xg v2 v7) && true then bif decide (0 <= IntKind.i64.wrap (v2 - 7)) && decide (IntKind.i64.wrap (v2 - 7) < zi 64) && true then bif PV.isInt IntKind.u32 (Jq (PV.ar 148 v7) [(IntKind.i64.wrap (v2 - 7)).toNat]) && true then bif decide (0 <= IntKind.i64.wrap (v2 - 16)) && decide (IntKind.i64.wrap (v2 - 16) < zi 64) && true then bif PV.isInt IntKind.u32 (Jq (PV.ar 148 v7) [(IntKind.i64.wrap (v2 - 16)).toNat]) && true then bif decide (0 <= v2) && decide (v2 < zi 64) && true then rc v0 v1 (IntKind.i64.wrap (v2 + 1)) v3 v4 v5 v6 (v7.set v2.toNat (.sc (.int .u32 (IntKind.u32.wrap (IntKind.u32.wrap (IntKind.u32.wrap (JL BinOp.xor IntKind.u32 (JL BinOp.xor IntKind.u32 (rr (Xg v2 v7).int 17) (rr (Xg v2 v7).int 19)) (JV IntKind.u32 (Xg v2 v7).int 10) + (Jq (PV.ar 148 v7) [(IntKind.i64.wrap (v2 - 7)).toNat]).int) + JL BinOp.xor IntKind.u32 (JL BinOp.xor IntKind.u32 (rr (Xf v2 v7).int 7) (rr (Xf v2 v7).int 18)) (JV IntKind.u32 (Xf v2 v7).int 3)) + (Jq (PV.ar 148 v7) [(IntKind.i64.wrap (v2 - 16)).toNat]).int))))) else none else none else none else none else none else none else none else none else none else k0 v0 v1 v3 v4 v5 v6 v7
def G4 (f : Nat) (k0 : Nat -> Int -> List PV -> List PV -> List PV -> List PV -> List PV -> OR) : Nat -> Nat -> Int -> Int -> List PV -> List PV -> List PV -> List PV -> List PV -> OR
 | 0, _, _, _, _, _, _, _, _ => none
 | n + 1, v0, v1, v2, v3, v4, v5, v6, v7 => JbG f (G4 f k0 n) k0 v0 v1 v2 v3 v4 v5 v6 v7
theorem JyB (f : Nat) (k : Kont) (n v0 : Nat) (v1 v2 : Int) (v3 v4 v5 v6 v7 : List PV) : Jx tau 0 ZC (fun s k => ev tau F46 0 0 JgZ (JkS ) s k) (n + 1) (Ji ZC N46 [.ptr 4464 [], .ptr 4465 [], .ptr 4466 [], .ow 5 4467 [] 0 v0 none, .ptr 4468 [], .sc (.int .i64 v1), .sc (.int .i64 v2)] [(4464, .box false 28 (PV.ar 28 v3)), (4465, .box false 148 (PV.ar 148 v4)), (4466, .box false 150 (PV.ar 150 v5)), (4467, .vec false 5 false v6), (4468, .box false 148 (PV.ar 148 v7))]) (JG tau 0 VB k) = JbG f (fun v0 v1 v2 v3 v4 v5 v6 v7 => Jx tau 0 ZC (fun s k => ev tau F46 0 0 JgZ (JkS ) s k) n (Ji ZC N46 [.ptr 4464 [], .ptr 4465 [], .ptr 4466 [], .ow 5 4467 [] 0 v0 none, .ptr 4468 [], .sc (.int .i64 v1), .sc (.int .i64 v2)] [(4464, .box false 28 (PV.ar 28 v3)), (4465, .box false 148 (PV.ar 148 v4)), (4466, .box false 150 (PV.ar 150 v5)), (4467, .vec false 5 false v6), (4468, .box false 148 (PV.ar 148 v7))]) (JG tau 0 VB k)) (fun x0 x1 x2 x3 x4 x5 x6 => k (Ex.exit 8) (Ji VB N46 [.ptr 4464 [], .ptr 4465 [], .ptr 4466 [], .ow 5 4467 [] 0 x0 none, .ptr 4468 [], .sc (.int .i64 x1)] [(4464, .box false 28 (PV.ar 28 x2)), (4465, .box false 148 (PV.ar 148 x3)), (4466, .box false 150 (PV.ar 150 x4)), (4467, .vec false 5 false x5), (4468, .box false 148 (PV.ar 148 x6))])) v0 v1 v2 v3 v4 v5 v6 v7 := by kernel_rfl
theorem Jp3 (f : Nat) (k : Kont) : ∀ (n v0 : Nat) (v1 v2 : Int) (v3 v4 v5 v6 v7 : List PV), Jx tau 0 ZC (fun s k => ev tau F46 0 0 JgZ (JkS ) s k) n (Ji ZC N46 [.ptr 4464 [], .ptr 4465 [], .ptr 4466 [], .ow 5 4467 [] 0 v0 none, .ptr 4468 [], .sc (.int .i64 v1), .sc (.int .i64 v2)] [(4464, .box false 28 (PV.ar 28 v3)), (4465, .box false 148 (PV.ar 148 v4)), (4466, .box false 150 (PV.ar 150 v5)), (4467, .vec false 5 false v6), (4468, .box false 148 (PV.ar 148 v7))]) (JG tau 0 VB k) = G4 f (fun x0 x1 x2 x3 x4 x5 x6 => k (Ex.exit 8) (Ji VB N46 [.ptr 4464 [], .ptr 4465 [], .ptr 4466 [], .ow 5 4467 [] 0 x0 none, .ptr 4468 [], .sc (.int .i64 x1)] [(4464, .box false 28 (PV.ar 28 x2)), (4465, .box false 148 (PV.ar 148 x3)), (4466, .box false 150 (PV.ar 150 x4)), (4467, .vec false 5 false x5), (4468, .box false 148 (PV.ar 148 x6))])) n v0 v1 v2 v3 v4 v5 v6 v7 | 0, _, _, _, _, _, _, _, _ => rfl | n + 1, v0, v1, v2, v3, v4, v5, v6, v7 => (JyB f k n v0 v1 v2 v3 v4 v5 v6 v7).trans (congrArg (fun r => JbG f r (fun x0 x1 x2 x3 x4 x5 x6 => k (Ex.exit 8) (Ji VB N46 [.ptr 4464 [], .ptr 4465 [], .ptr 4466 [], .ow 5 4467 [] 0 x0 none, .ptr 4468 [], .sc (.int .i64 x1)] [(4464, .box false 28 (PV.ar 28 x2)), (4465, .box false 148 (PV.ar 148 x3)), (4466, .box false 150 (PV.ar 150 x4)), (4467, .vec false 5 false x5), (4468, .box false 148 (PV.ar 148 x6))])) v0 v1 v2 v3 v4 v5 v6 v7) (by funext v0 v1 v2 v3 v4 v5 v6 v7; exact Jp3 f k n v0 v1 v2 v3 v4 v5 v6 v7))
def Jdx (f : Nat) : List PV -> List (Nat × Ent) -> Kont -> OR
 | [.ptr 4464 [], .ptr 4465 [], .ptr 4466 [], .ow 5 4467 [] 0 v0 none, .ptr 4468 [], .sc (.int .i64 v1),
 PV.sc
  (Value.int IntKind.i64
   v2)], [(4464, .box false 28 (PV.ar 28 v3)), (4465, .box false 148 (PV.ar 148 v4)), (4466, .box false 150 (PV.ar 150 v5)), (4467, .vec false 5 false v6),
 (4468,
  Ent.box false 148
   (PV.ar 148
    v7))], k => G4 f (fun x0 x1 x2 x3 x4 x5 x6 => k (Ex.exit
 8) (Ji VB N46 [.ptr 4464 [], .ptr 4465 [], .ptr 4466 [], .ow 5 4467 [] 0 x0 none, .ptr 4468 [],
 PV.sc
  (Value.int IntKind.i64
   x1)] [(4464, .box false 28 (PV.ar 28 x2)), (4465, .box false 148 (PV.ar 148 x3)), (4466, .box false 150 (PV.ar 150 x4)), (4467, .vec false 5 false x5),
 (4468, .box false 148 (PV.ar 148 x6))])) f v0 v1 v2 v3 v4 v5 v6 v7
 | _, _, _ => none
theorem JEV (f : Nat) : Jf JgZ JkS = [] := by kernel_rfl
theorem JKw (f : Nat) : (Item.l JgZ ZC N46 (Jdx f)).Ok tau Tryz.prog 0 := Jt Jn Zz Jo (x := JkS) (nm2 := VB) (Jl _ _ (by rw [JEV f]; intro q hq; cases hq)) fun vs hp k res hr => by
 unfold Jdx at hr
 split at hr
 · exact ⟨f, 0, (Jp3 f _ f _ _ _ _ _ _ _ _ ).trans hr⟩
 · cases hr
abbrev ZG (v2 : Int) (v4 : List PV) (v7 : List PV) (v8 : List PV) := (IntKind.u32.wrap (IntKind.u32.wrap (IntKind.u32.wrap ((Jq (PV.ar 150 v8) [7]).int + JL BinOp.xor IntKind.u32 (JL BinOp.xor IntKind.u32 (rr (Jq (PV.ar 150 v8) [4]).int 6) (rr (Jq (PV.ar 150 v8) [4]).int 11)) (rr (Jq (PV.ar 150 v8) [4]).int 25)) + JL BinOp.xor IntKind.u32 (JL BinOp.and IntKind.u32 (Jq (PV.ar 150 v8) [4]).int (Jq (PV.ar 150 v8) [5]).int) (JL BinOp.and IntKind.u32 (JL BinOp.xor IntKind.u32 (Int.ofNat (2 ^ IntKind.u32.bits - Nat.succ 0)) (Jq (PV.ar 150 v8) [4]).int) (Jq (PV.ar 150 v8) [6]).int)) + (Jq (PV.ar 148 v4) [v2.toNat]).int) + (Jq (PV.ar 148 v7) [v2.toNat]).int)
def JbH (f : Nat) (rc : Nat -> Int -> Int -> List PV -> List PV -> List PV -> List PV -> List PV -> List PV -> OR) (k0 : Nat -> Int -> List PV -> List PV -> List PV -> List PV -> List PV -> List PV -> OR) (v0 : Nat) (v1 v2 : Int) (v3 v4 v5 v6 v7 v8 : List PV) : OR := bif decide (v2 < 64) then bif PV.isInt IntKind.u32 (Jq (PV.ar 150 v8) [4]) && true then bif PV.isInt IntKind.u32 (Jq (PV.ar 150 v8) [7]) && true then bif PV.isInt IntKind.u32 (Jq (PV.ar 150 v8) [5]) && true then bif PV.isInt IntKind.u32 (Jq (PV.ar 150 v8) [6]) && true then bif decide (0 <= v2) && decide (v2 < zi 64) && true then bif PV.isInt IntKind.u32 (Jq (PV.ar 148 v4) [v2.toNat]) && true then bif decide (0 <= v2) && decide (v2 < zi 64) && true then bif PV.isInt IntKind.u32 (Jq (PV.ar 148 v7) [v2.toNat]) && true then bif PV.isInt IntKind.u32 (Jq (PV.ar 150 v8) [0]) && true then bif PV.isInt IntKind.u32 (Jq (PV.ar 150 v8) [0]) && true then bif PV.isInt IntKind.u32 (Jq (PV.ar 150 v8) [0]) && true then bif PV.isInt IntKind.u32 (Jq (PV.ar 150 v8) [0]) && true then bif PV.isInt IntKind.u32 (Jq (PV.ar 150 v8) [1]) && true then bif PV.isInt IntKind.u32 (Jq (PV.ar 150 v8) [0]) && true then bif PV.isInt IntKind.u32 (Jq (PV.ar 150 v8) [2]) && true then bif PV.isInt IntKind.u32 (Jq (PV.ar 150 v8) [1]) && true then bif PV.isInt IntKind.u32 (Jq (PV.ar 150 v8) [2]) && true then bif PV.isInt IntKind.u32 (Jq (PV.ar 150 v8) [0]) && true then bif PV.isInt IntKind.u32 (Jq (PV.ar 150 v8) [1]) && true then bif PV.isInt IntKind.u32 (Jq (PV.ar 150 v8) [2]) && true then bif PV.isInt IntKind.u32 (Jq (PV.ar 150 v8) [3]) && true then bif PV.isInt IntKind.u32 (Jq (PV.ar 150 v8) [4]) && true then bif PV.isInt IntKind.u32 (Jq (PV.ar 150 v8) [5]) && true then bif PV.isInt IntKind.u32 (Jq (PV.ar 150 v8) [6]) && true then rc v0 v1 (IntKind.i64.wrap (v2 + 1)) v3 v4 v5 v6 v7 ([.sc (.int .u32 (IntKind.u32.wrap (IntKind.u32.wrap (ZG v2 v4 v7 v8) + IntKind.u32.wrap (JL BinOp.xor IntKind.u32 (JL BinOp.xor IntKind.u32 (rr (Jq (PV.ar 150 v8) [0]).int 2) (rr (Jq (PV.ar 150 v8) [0]).int 13)) (rr (Jq (PV.ar 150 v8) [0]).int 22) + JL BinOp.xor IntKind.u32 (JL BinOp.xor IntKind.u32 (JL BinOp.and IntKind.u32 (Jq (PV.ar 150 v8) [0]).int (Jq (PV.ar 150 v8) [1]).int) (JL BinOp.and IntKind.u32 (Jq (PV.ar 150 v8) [0]).int (Jq (PV.ar 150 v8) [2]).int)) (JL BinOp.and IntKind.u32 (Jq (PV.ar 150 v8) [1]).int (Jq (PV.ar 150 v8) [2]).int))))), .sc (.int .u32 (Jq (PV.ar 150 v8) [0]).int), .sc (.int .u32 (Jq (PV.ar 150 v8) [1]).int), .sc (.int .u32 (Jq (PV.ar 150 v8) [2]).int), .sc (.int .u32 (IntKind.u32.wrap ((Jq (PV.ar 150 v8) [3]).int + IntKind.u32.wrap (ZG v2 v4 v7 v8)))), .sc (.int .u32 (Jq (PV.ar 150 v8) [4]).int), .sc (.int .u32 (Jq (PV.ar 150 v8) [5]).int), .sc (.int .u32 (Jq (PV.ar 150 v8) [6]).int)]) else none else none else none else none else none else none else none else none else none else none else none else none else none else none else none else none else none else none else none else none else none else none else none else none else k0 v0 v1 v3 v4 v5 v6 v7 v8
def G5 (f : Nat) (k0 : Nat -> Int -> List
 PV -> List PV -> List PV -> List PV -> List PV -> List PV -> OR) : Nat -> Nat -> Int -> Int -> List PV -> List PV -> List PV -> List PV -> List PV -> List PV -> OR
 | 0, _, _, _, _, _, _, _, _, _ => none
 | n + 1, v0, v1, v2, v3, v4, v5, v6, v7, v8 => JbH f (G5 f k0 n) k0 v0 v1 v2 v3 v4 v5 v6 v7 v8
theorem JyC (f : Nat) (k : Kont) (n v0 : Nat) (v1 v2 : Int) (v3 v4 v5 v6 v7 v8 : List PV) : Jx tau 0 ZD (fun s k => ev tau F46 0 0 Jg0 (JkT ) s k) (n + 1) (Ji ZD N46 [.ptr 4464 [], .ptr 4465 [], .ptr 4466 [], .ow 5 4467 [] 0 v0 none, .ptr 4468 [], .sc (.int .i64 v1), .ptr 4469 [], .sc (.int .i64 v2)] [(4464, .box false 28 (PV.ar 28 v3)), (4465, .box false 148 (PV.ar 148 v4)), (4466, .box false 150 (PV.ar 150 v5)), (4467, .vec false 5 false v6), (4468, .box false 148 (PV.ar 148 v7)), (4469, .box false 150 (PV.ar 150 v8))]) (JG tau 0 VC k) = JbH f (fun v0 v1 v2 v3 v4 v5 v6 v7 v8 => Jx tau 0 ZD (fun s k => ev tau F46 0 0 Jg0 (JkT ) s k) n (Ji ZD N46 [.ptr 4464 [], .ptr 4465 [], .ptr 4466 [], .ow 5 4467 [] 0 v0 none, .ptr 4468 [], .sc (.int .i64 v1), .ptr 4469 [], .sc (.int .i64 v2)] [(4464, .box false 28 (PV.ar 28 v3)), (4465, .box false 148 (PV.ar 148 v4)), (4466, .box false 150 (PV.ar 150 v5)), (4467, .vec false 5 false v6), (4468, .box false 148 (PV.ar 148 v7)), (4469, .box false 150 (PV.ar 150 v8))]) (JG tau 0 VC k)) (fun x0 x1 x2 x3 x4 x5 x6 x7 => k (Ex.exit 10) (Ji VC N46 [.ptr 4464 [], .ptr 4465 [], .ptr 4466 [], .ow 5 4467 [] 0 x0 none, .ptr 4468 [], .sc (.int .i64 x1), .ptr 4469 []] [(4464, .box false 28 (PV.ar 28 x2)), (4465, .box false 148 (PV.ar 148 x3)), (4466, .box false 150 (PV.ar 150 x4)), (4467, .vec false 5 false x5), (4468, .box false 148 (PV.ar 148 x6)), (4469, .box false 150 (PV.ar 150 x7))])) v0 v1 v2 v3 v4 v5 v6 v7 v8 := by kernel_rfl
theorem Jp4 (f : Nat) (k : Kont) : ∀ (n v0 : Nat) (v1 v2 : Int) (v3 v4 v5 v6 v7 v8 : List PV), Jx tau 0 ZD (fun s k => ev tau F46 0 0 Jg0 (JkT ) s k) n (Ji ZD N46 [.ptr 4464 [], .ptr 4465 [], .ptr 4466 [], .ow 5 4467 [] 0 v0 none, .ptr 4468 [], .sc (.int .i64 v1), .ptr 4469 [], .sc (.int .i64 v2)] [(4464, .box false 28 (PV.ar 28 v3)), (4465, .box false 148 (PV.ar 148 v4)), (4466, .box false 150 (PV.ar 150 v5)), (4467, .vec false 5 false v6), (4468, .box false 148 (PV.ar 148 v7)), (4469, .box false 150 (PV.ar 150 v8))]) (JG tau 0 VC k) = G5 f (fun x0 x1 x2 x3 x4 x5 x6 x7 => k (Ex.exit 10) (Ji VC N46 [.ptr 4464 [], .ptr 4465 [], .ptr 4466 [], .ow 5 4467 [] 0 x0 none, .ptr 4468 [], .sc (.int .i64 x1), .ptr 4469 []] [(4464, .box false 28 (PV.ar 28 x2)), (4465, .box false 148 (PV.ar 148 x3)), (4466, .box false 150 (PV.ar 150 x4)), (4467, .vec false 5 false x5), (4468, .box false 148 (PV.ar 148 x6)), (4469, .box false 150 (PV.ar 150 x7))])) n v0 v1 v2 v3 v4 v5 v6 v7 v8 | 0, _, _, _, _, _, _, _, _, _ => rfl | n + 1, v0, v1, v2, v3, v4, v5, v6, v7, v8 => (JyC f k n v0 v1 v2 v3 v4 v5 v6 v7 v8).trans (congrArg (fun r => JbH f r (fun x0 x1 x2 x3 x4 x5 x6 x7 => k (Ex.exit 10) (Ji VC N46 [.ptr 4464 [], .ptr 4465 [], .ptr 4466 [], .ow 5 4467 [] 0 x0 none, .ptr 4468 [], .sc (.int .i64 x1), .ptr 4469 []] [(4464, .box false 28 (PV.ar 28 x2)), (4465, .box false 148 (PV.ar 148 x3)), (4466, .box false 150 (PV.ar 150 x4)), (4467, .vec false 5 false x5), (4468, .box false 148 (PV.ar 148 x6)), (4469, .box false 150 (PV.ar 150 x7))])) v0 v1 v2 v3 v4 v5 v6 v7 v8) (by funext v0 v1 v2 v3 v4 v5 v6 v7 v8; exact Jp4 f k n v0 v1 v2 v3 v4 v5 v6 v7 v8))
def Jdy (f : Nat) : List PV -> List (Nat × Ent) -> Kont -> OR
 | [.ptr 4464 [], .ptr 4465 [], .ptr 4466 [], .ow 5 4467 [] 0 v0 none, .ptr 4468 [], .sc (.int .i64 v1), .ptr 4469 [],
 PV.sc
  (Value.int IntKind.i64
   v2)], [(4464, .box false 28 (PV.ar 28 v3)), (4465, .box false 148 (PV.ar 148 v4)), (4466, .box false 150 (PV.ar 150 v5)), (4467, .vec false 5 false v6),
 (4468, .box false 148 (PV.ar 148 v7)),
 (4469,
  Ent.box false 150
   (PV.ar 150
    v8))], k => G5 f (fun x0 x1 x2 x3 x4 x5 x6 x7 => k (Ex.exit
 10) (Ji VC N46 [.ptr 4464 [], .ptr 4465 [], .ptr 4466 [], .ow 5 4467 [] 0 x0 none, .ptr 4468 [], .sc (.int .i64 x1),
 PV.ptr 4469
  []] [(4464, .box false 28 (PV.ar 28 x2)), (4465, .box false 148 (PV.ar 148 x3)), (4466, .box false 150 (PV.ar 150 x4)), (4467, .vec false 5 false x5),
 (4468, .box false 148 (PV.ar 148 x6)), (4469, .box false 150 (PV.ar 150 x7))])) f v0 v1 v2 v3 v4 v5 v6 v7 v8
 | _, _, _ => none
theorem JEW (f : Nat) : Jf Jg0 JkT = [] := by kernel_rfl
theorem JKx (f : Nat) : (Item.l Jg0 ZD N46 (Jdy f)).Ok tau Tryz.prog 0 := Jt Jn Zz Jo (x := JkT) (nm2 := VC) (Jl _ _ (by rw [JEW f]; intro q hq; cases hq)) fun vs hp k res hr => by
 unfold Jdy at hr
 split at hr
 · exact ⟨f, 0, (Jp4 f _ f _ _ _ _ _ _ _ _ _ ).trans hr⟩
 · cases hr
def JbI (f : Nat) (rc : Nat -> Int -> Int -> List PV -> List PV -> List PV -> List PV -> List PV -> List PV -> OR) (k0 : Nat -> Int -> List PV -> List PV -> List PV -> List PV -> List PV -> OR) (v0 : Nat) (v1 v2 : Int) (v3 v4 v5 v6 v7 v8 : List PV) : OR := bif decide (v2 < 8) then bif decide (0 <= v2) && decide (v2 < zi 8) && true then bif PV.isInt IntKind.u32 (Jq (PV.ar 150 v5) [v2.toNat]) && true then bif decide (0 <= v2) && decide (v2 < zi 8) && true then bif PV.isInt IntKind.u32 (Jq (PV.ar 150 v8) [v2.toNat]) && true then bif decide (0 <= v2) && decide (v2 < zi 8) && true then rc v0 v1 (IntKind.i64.wrap (v2 + 1)) v3 v4 (v5.set v2.toNat (.sc (.int .u32 (IntKind.u32.wrap ((Jq (PV.ar 150 v5) [v2.toNat]).int + (Jq (PV.ar 150 v8) [v2.toNat]).int))))) v6 v7 v8 else none else none else none else none else none else k0 v0 v1 v3 v4 v5 v6 v7
def G6 (f : Nat) (k0 : Nat -> Int -> List PV -> List PV -> List PV -> List PV -> List PV -> OR) : Nat -> Nat -> Int -> Int -> List PV -> List PV -> List PV -> List PV -> List PV -> List PV -> OR
 | 0, _, _, _, _, _, _, _, _, _ => none
 | n + 1, v0, v1, v2, v3, v4, v5, v6, v7, v8 => JbI f (G6 f k0 n) k0 v0 v1 v2 v3 v4 v5 v6 v7 v8
theorem JyD (f : Nat) (k : Kont) (n v0 : Nat) (v1 v2 : Int) (v3 v4 v5 v6 v7 v8 : List PV) : Jx tau 0 ZE (fun s k => ev tau F46 0 0 Jg1 (JkU ) s k) (n + 1) (Ji ZE N46 [.ptr 4464 [], .ptr 4465 [], .ptr 4466 [], .ow 5 4467 [] 0 v0 none, .ptr 4468 [], .sc (.int .i64 v1), .ptr 4469 [], .sc (.int .i64 v2)] [(4464, .box false 28 (PV.ar 28 v3)), (4465, .box false 148 (PV.ar 148 v4)), (4466, .box false 150 (PV.ar 150 v5)), (4467, .vec false 5 false v6), (4468, .box false 148 (PV.ar 148 v7)), (4469, .box false 150 (PV.ar 150 v8))]) (JG tau 0 VD k) = JbI f (fun v0 v1 v2 v3 v4 v5 v6 v7 v8 => Jx tau 0 ZE (fun s k => ev tau F46 0 0 Jg1 (JkU ) s k) n (Ji ZE N46 [.ptr 4464 [], .ptr 4465 [], .ptr 4466 [], .ow 5 4467 [] 0 v0 none, .ptr 4468 [], .sc (.int .i64 v1), .ptr 4469 [], .sc (.int .i64 v2)] [(4464, .box false 28 (PV.ar 28 v3)), (4465, .box false 148 (PV.ar 148 v4)), (4466, .box false 150 (PV.ar 150 v5)), (4467, .vec false 5 false v6), (4468, .box false 148 (PV.ar 148 v7)), (4469, .box false 150 (PV.ar 150 v8))]) (JG tau 0 VD k)) (fun x0 x1 x2 x3 x4 x5 x6 => k (Ex.exit 12) (Ji VD N46 [.ptr 4464 [], .ptr 4465 [], .ptr 4466 [], .ow 5 4467 [] 0 x0 none, .ptr 4468 [], .sc (.int .i64 x1)] [(4464, .box false 28 (PV.ar 28 x2)), (4465, .box false 148 (PV.ar 148 x3)), (4466, .box false 150 (PV.ar 150 x4)), (4467, .vec false 5 false x5), (4468, .box false 148 (PV.ar 148 x6))])) v0 v1 v2 v3 v4 v5 v6 v7 v8 := by kernel_rfl
theorem Jp5 (f : Nat) (k : Kont) : ∀ (n v0 : Nat) (v1 v2 : Int) (v3 v4 v5 v6 v7 v8 : List PV), Jx tau 0 ZE (fun s k => ev tau F46 0 0 Jg1 (JkU ) s k) n (Ji ZE N46 [.ptr 4464 [], .ptr 4465 [], .ptr 4466 [], .ow 5 4467 [] 0 v0 none, .ptr 4468 [], .sc (.int .i64 v1), .ptr 4469 [], .sc (.int .i64 v2)] [(4464, .box false 28 (PV.ar 28 v3)), (4465, .box false 148 (PV.ar 148 v4)), (4466, .box false 150 (PV.ar 150 v5)), (4467, .vec false 5 false v6), (4468, .box false 148 (PV.ar 148 v7)), (4469, .box false 150 (PV.ar 150 v8))]) (JG tau 0 VD k) = G6 f (fun x0 x1 x2 x3 x4 x5 x6 => k (Ex.exit 12) (Ji VD N46 [.ptr 4464 [], .ptr 4465 [], .ptr 4466 [], .ow 5 4467 [] 0 x0 none, .ptr 4468 [], .sc (.int .i64 x1)] [(4464, .box false 28 (PV.ar 28 x2)), (4465, .box false 148 (PV.ar 148 x3)), (4466, .box false 150 (PV.ar 150 x4)), (4467, .vec false 5 false x5), (4468, .box false 148 (PV.ar 148 x6))])) n v0 v1 v2 v3 v4 v5 v6 v7 v8 | 0, _, _, _, _, _, _, _, _, _ => rfl | n + 1, v0, v1, v2, v3, v4, v5, v6, v7, v8 => (JyD f k n v0 v1 v2 v3 v4 v5 v6 v7 v8).trans (congrArg (fun r => JbI f r (fun x0 x1 x2 x3 x4 x5 x6 => k (Ex.exit 12) (Ji VD N46 [.ptr 4464 [], .ptr 4465 [], .ptr 4466 [], .ow 5 4467 [] 0 x0 none, .ptr 4468 [], .sc (.int .i64 x1)] [(4464, .box false 28 (PV.ar 28 x2)), (4465, .box false 148 (PV.ar 148 x3)), (4466, .box false 150 (PV.ar 150 x4)), (4467, .vec false 5 false x5), (4468, .box false 148 (PV.ar 148 x6))])) v0 v1 v2 v3 v4 v5 v6 v7 v8) (by funext v0 v1 v2 v3 v4 v5 v6 v7 v8; exact Jp5 f k n v0 v1 v2 v3 v4 v5 v6 v7 v8))
def Jdz (f : Nat) : List PV -> List (Nat × Ent) -> Kont -> OR
 | [.ptr 4464 [], .ptr 4465 [], .ptr 4466 [], .ow 5 4467 [] 0 v0 none, .ptr 4468 [], .sc (.int .i64 v1), .ptr 4469 [],
 PV.sc
  (Value.int IntKind.i64
   v2)], [(4464, .box false 28 (PV.ar 28 v3)), (4465, .box false 148 (PV.ar 148 v4)), (4466, .box false 150 (PV.ar 150 v5)), (4467, .vec false 5 false v6),
 (4468, .box false 148 (PV.ar 148 v7)),
 (4469,
  Ent.box false 150
   (PV.ar 150
    v8))], k => G6 f (fun x0 x1 x2 x3 x4 x5 x6 => k (Ex.exit
 12) (Ji VD N46 [.ptr 4464 [], .ptr 4465 [], .ptr 4466 [], .ow 5 4467 [] 0 x0 none, .ptr 4468 [],
 PV.sc
  (Value.int IntKind.i64
   x1)] [(4464, .box false 28 (PV.ar 28 x2)), (4465, .box false 148 (PV.ar 148 x3)), (4466, .box false 150 (PV.ar 150 x4)), (4467, .vec false 5 false x5),
 (4468, .box false 148 (PV.ar 148 x6))])) f v0 v1 v2 v3 v4 v5 v6 v7 v8
 | _, _, _ => none
theorem JEX (f : Nat) : Jf Jg1 JkU = [] := by kernel_rfl
theorem JKy (f : Nat) : (Item.l Jg1 ZE N46 (Jdz f)).Ok tau Tryz.prog 0 := Jt Jn Zz Jo (x := JkU) (nm2 := VD) (Jl _ _ (by rw [JEX f]; intro q hq; cases hq)) fun vs hp k res hr => by
 unfold Jdz at hr
 split at hr
 · exact ⟨f, 0, (Jp5 f _ f _ _ _ _ _ _ _ _ _ ).trans hr⟩
 · cases hr
def JbJ (f : Nat) (rc : Nat -> Int -> List PV -> List PV -> List PV -> List PV -> List PV -> OR) (k0 : List PV -> List PV -> OR) (v0 : Nat) (v1 : Int) (v2 v3 v4 v5 v6 : List PV) : OR := bif decide (v1 < zi v0) then G3 f (fun x0_2 x1_2 x2_2 JjI x4_2 x5_2 x6_2 => G4 f (fun x0_3 x1_3 x2_3 x3_3 x4_3 x5_3 x6_3 => G5 f (fun x0_4 x1_4 x2_4 x3_4 x4_4 x5_4 x6_4 x7_4 => G6 f (fun x0_5 x1_5 x2_5 x3_5 x4_5 x5_5 x6_5 => rc x0_5 (IntKind.i64.wrap (x1_5 + 64)) x2_5 x3_5 x4_5 x5_5 x6_5) f x0_4 x1_4 (0) x2_4 x3_4 x4_4 x5_4 x6_4 x7_4) f x0_3 x1_3 (0) x2_3 x3_3 x4_3 x5_3 x6_3 x4_3) f x0_2 x1_2 (16) x2_2 JjI x4_2 x5_2 x6_2) f v0 v1 (0) v2 v3 v4 v5 v6 else k0 v2 v4
def G7 (f : Nat) (k0 : List PV -> List PV -> OR) : Nat -> Nat -> Int -> List PV -> List PV -> List PV -> List PV -> List PV -> OR
 | 0, _, _, _, _, _, _, _ => none
 | n + 1, v0, v1, v2, v3, v4, v5, v6 => JbJ f (G7 f k0 n) k0 v0 v1 v2 v3 v4 v5 v6
theorem JyE (f : Nat) (k : Kont) (n v0 : Nat) (v1 : Int) (v2 v3 v4 v5 v6 : List PV) : Jx tau 0 ZF (fun s k => ev tau F46 0 0 Jg2 (JkV (Jdw f) (Jdx f) (Jdy f) (Jdz f)) s k) (n + 1) (Ji ZF N46 [.ptr 4464 [], .ptr 4465 [], .ptr 4466 [], .ow 5 4467 [] 0 v0 none, .ptr 4468 [], .sc (.int .i64 v1)] [(4464, .box false 28 (PV.ar 28 v2)), (4465, .box false 148 (PV.ar 148 v3)), (4466, .box false 150 (PV.ar 150 v4)), (4467, .vec false 5 false v5), (4468, .box false 148 (PV.ar 148 v6))]) (JG tau 0 VE k) = JbJ f (fun v0 v1 v2 v3 v4 v5 v6 => Jx tau 0 ZF (fun s k => ev tau F46 0 0 Jg2 (JkV (Jdw f) (Jdx f) (Jdy f) (Jdz f)) s k) n (Ji ZF N46 [.ptr 4464 [], .ptr 4465 [], .ptr 4466 [], .ow 5 4467 [] 0 v0 none, .ptr 4468 [], .sc (.int .i64 v1)] [(4464, .box false 28 (PV.ar 28 v2)), (4465, .box false 148 (PV.ar 148 v3)), (4466, .box false 150 (PV.ar 150 v4)), (4467, .vec false 5 false v5), (4468, .box false 148 (PV.ar 148 v6))]) (JG tau 0 VE k)) (fun x0 x1 => k (Ex.exit 4) (Ji VE N46 [.ptr 4464 [], .ptr 4465 []] [(4464, .box false 28 (PV.ar 28 x0)), (4465, .box false 150 (PV.ar 150 x1))])) v0 v1 v2 v3 v4 v5 v6 := by kernel_rfl
theorem Jp6 (f : Nat) (k : Kont) : ∀ (n v0 : Nat) (v1 : Int) (v2 v3 v4 v5 v6 : List PV), Jx tau 0 ZF (fun s k => ev tau F46 0 0 Jg2 (JkV (Jdw f) (Jdx f) (Jdy f) (Jdz f)) s k) n (Ji ZF N46 [.ptr 4464 [], .ptr 4465 [], .ptr 4466 [], .ow 5 4467 [] 0 v0 none, .ptr 4468 [], .sc (.int .i64 v1)] [(4464, .box false 28 (PV.ar 28 v2)), (4465, .box false 148 (PV.ar 148 v3)), (4466, .box false 150 (PV.ar 150 v4)), (4467, .vec false 5 false v5), (4468, .box false 148 (PV.ar 148 v6))]) (JG tau 0 VE k) = G7 f (fun x0 x1 => k (Ex.exit 4) (Ji VE N46 [.ptr 4464 [], .ptr 4465 []] [(4464, .box false 28 (PV.ar 28 x0)), (4465, .box false 150 (PV.ar 150 x1))])) n v0 v1 v2 v3 v4 v5 v6 | 0, _, _, _, _, _, _, _ => rfl | n + 1, v0, v1, v2, v3, v4, v5, v6 => (JyE f k n v0 v1 v2 v3 v4 v5 v6).trans (congrArg (fun r => JbJ f r (fun x0 x1 => k (Ex.exit 4) (Ji VE N46 [.ptr 4464 [], .ptr 4465 []] [(4464, .box false 28 (PV.ar 28 x0)), (4465, .box false 150 (PV.ar 150 x1))])) v0 v1 v2 v3 v4 v5 v6) (by funext v0 v1 v2 v3 v4 v5 v6; exact Jp6 f k n v0 v1 v2 v3 v4 v5 v6))
def Jfm (f : Nat) : List PV -> List (Nat × Ent) -> Kont -> OR
 | [.ptr 4464 [], .ptr 4465 [], .ptr 4466 [], .ow 5 4467 [] 0 v0 none, .ptr 4468 [],
 PV.sc
  (Value.int IntKind.i64
   v1)], [(4464, .box false 28 (PV.ar 28 v2)), (4465, .box false 148 (PV.ar 148 v3)), (4466, .box false 150 (PV.ar 150 v4)), (4467, .vec false 5 false v5),
 (4468,
  Ent.box false 148
   (PV.ar 148
    v6))], k => G7 f (fun x0 x1 => k (Ex.exit
 4) (Ji VE N46 [.ptr 4464 [], .ptr 4465 []] [(4464, .box false 28 (PV.ar 28 x0)), (4465, .box false 150 (PV.ar 150 x1))])) f v0 v1 v2 v3 v4 v5 v6
 | _, _, _ => none
theorem JEY (f : Nat) : Jf Jg2 (JkV (Jdw f) (Jdx f) (Jdy f) (Jdz f)) = [.l JgY ZB N46 (Jdw f), .l JgZ ZC N46 (Jdx f), .l Jg0 ZD N46 (Jdy f), .l Jg1 ZE N46 (Jdz f)] := by kernel_rfl
theorem JKz (f : Nat) : (Item.l Jg2 ZF N46 (Jfm f)).Ok tau Tryz.prog 0 := Jt Jn Zz Jo (x := (JkV (Jdw f) (Jdx f) (Jdy f) (Jdz f))) (nm2 := VE) (Jl _ _ (by rw [JEY f]; simp only [List.forall_mem_cons, List.not_mem_nil, false_implies, implies_true, and_true]; exact ⟨JKv f, JKw f, JKx f, JKy f⟩)) fun vs hp k res hr => by
 unfold Jfm at hr
 split at hr
 · exact ⟨f, 0, (Jp6 f _ f _ _ _ _ _ _ _ ).trans hr⟩
 · cases hr
abbrev Jup := Int -> List PV -> List PV -> List PV -> OR
def JbK (f : Nat) (rc : Jup) (k0 : List PV -> List PV -> OR) (v0 : Int) (v1 v2 v3 : List PV) : OR := bif decide (v0 < 8) then bif decide (0 <= v0) && decide (v0 < zi 8) && true then bif PV.isInt IntKind.u32 (Jq (PV.ar 150 v2) [v0.toNat]) && true then bif decide (0 <= v0) && decide (v0 < zi 8) && true then bif PV.isInt IntKind.u32 (Jq (PV.ar 150 v2) [v0.toNat]) && true then bif decide (0 <= v0) && decide (v0 < zi 8) && true then bif PV.isInt IntKind.u32 (Jq (PV.ar 150 v2) [v0.toNat]) && true then bif decide (0 <= v0) && decide (v0 < zi 8) && true then bif PV.isInt IntKind.u32 (Jq (PV.ar 150 v2) [v0.toNat]) && true then bif decide (0 <= IntKind.i64.wrap (4 * v0)) && decide (IntKind.i64.wrap (4 * v0) < zi 32) && true then bif decide (0 <= IntKind.i64.wrap (IntKind.i64.wrap (4 * v0) + 1)) && decide (IntKind.i64.wrap (IntKind.i64.wrap (4 * v0) + 1) < zi 32) && true then bif decide (0 <= IntKind.i64.wrap (IntKind.i64.wrap (4 * v0) + 2)) && decide (IntKind.i64.wrap (IntKind.i64.wrap (4 * v0) + 2) < zi 32) && true then bif decide (0 <= IntKind.i64.wrap (IntKind.i64.wrap (4 * v0) + 3)) && decide (IntKind.i64.wrap (IntKind.i64.wrap (4 * v0) + 3) < zi 32) && true then rc (IntKind.i64.wrap (v0 + 1)) v1 v2 ((((v3.set (IntKind.i64.wrap (4 * v0)).toNat (.sc (.int .u8 (IntKind.u8.wrap (JV IntKind.u32 (Jq (PV.ar 150 v2) [v0.toNat]).int 24))))).set (IntKind.i64.wrap (IntKind.i64.wrap (4 * v0) + 1)).toNat (.sc (.int .u8 (IntKind.u8.wrap (JV IntKind.u32 (Jq (PV.ar 150 v2) [v0.toNat]).int 16))))).set (IntKind.i64.wrap (IntKind.i64.wrap (4 * v0) + 2)).toNat (.sc (.int .u8 (IntKind.u8.wrap (JV IntKind.u32 (Jq (PV.ar 150 v2) [v0.toNat]).int 8))))).set (IntKind.i64.wrap (IntKind.i64.wrap (4 * v0) + 3)).toNat (.sc (.int .u8 (IntKind.u8.wrap (Jq (PV.ar 150 v2) [v0.toNat]).int)))) else none else none else none else none else none else none else none else none else none else none else none else none else k0 v1 v3
def G8 (f : Nat) (k0 : List PV -> List PV -> OR) : Nat -> Jup
 | 0 => fun _ _ _ _ => none
 | n + 1 => JbK f (G8 f k0 n) k0
def JbL (k : Kont) := fun x0 x1 => k (Ex.exit 14) (Ji Jns N46 [.ptr 4464 [], .ptr 4465 []] [(4464, .box false 28 (PV.ar 28 x0)), (4465, .box false 28 (PV.ar 28 x1))])
def Jnu (f : Nat) (k : Kont) (n : Nat) (v0 : Int) (v1 v2 v3 : List PV) : OR := Jx tau 0 Jfj (fun s k => ev tau F46 0 0 JpZ (Jun ) s k) n (Ji Jfj N46 [.ptr 4464 [], .ptr 4465 [], .ptr 4466 [], .sc (.int .i64 v0)] [(4464, .box false 28 (PV.ar 28 v1)), (4465, .box false 150 (PV.ar 150 v2)), (4466, .box false 28 (PV.ar 28 v3))]) (JG tau 0 Jns k)
theorem JyF (f : Nat) (k : Kont) (n : Nat) : Jnu f k (n + 1) = JbK f (Jnu f k n) (JbL k) := by kernel_rfl
theorem Jp7 (f : Nat) (k : Kont) : ∀ n, Jnu f k n = G8 f (JbL k) n
 | 0 => rfl
 | n + 1 => (JyF f k n).trans (congrArg (fun r => JbK f r (JbL k)) (Jp7 f k n))
def Jfn (f : Nat) : List PV -> List (Nat × Ent) -> Kont -> OR
 | [.ptr 4464 [], .ptr 4465 [], .ptr 4466 [],
 PV.sc
  (Value.int IntKind.i64
   v0)], [(4464, .box false 28 (PV.ar 28 v1)), (4465, .box false 150 (PV.ar 150 v2)),
 (4466,
  Ent.box false 28
   (PV.ar 28
    v3))], k => G8 f (JbL k) f v0 v1 v2 v3
 | _, _, _ => none
theorem JEZ (f : Nat) : Jf JpZ Jun = [] := by kernel_rfl
theorem JKA (f : Nat) : (Item.l JpZ Jfj N46 (Jfn f)).Ok tau Tryz.prog 0 := Jt Jn Zz Jo (x := Jun) (nm2 := Jns) (Jl _ _ (by rw [JEZ f]; intro q hq; cases hq)) fun vs hp k res hr => by
 unfold Jfn at hr
 split at hr
 · exact ⟨f, 0, (Jp7 f _ f _ _ _ _ ).trans hr⟩
 · cases hr
abbrev Juq := (JcG)
def g46 (f : Nat) (nl fl : Bool) (b : List PV) (k : KR) : OR := bif Je (0 + b.length) 1 && true then bif Je (0 + b.length + 1) 1 && true then G1 f (fun _ _ x2_0 JP x4_0 x5_0 x6_0 x7_0 => G2 f (fun x0_1 x1_1 x2_1 Jf9 x4_1 => G7 f (fun x0_6 x1_6 => G8 f (fun _ x1_7 => k (Res.mk (.ar 28 x1_7) [] [])) f (0) x0_6 x1_6 Juq) f x0_1 (0) x1_1 x2_1 Jf9 x4_1 (Jo8)) f JP (IntKind.u64.wrap (IntKind.u64.wrap (zi x2_0.length) * 8)) (7) x4_0 x5_0 x6_0 x7_0) f nl fl b (0 + b.length + 1) Juq ([.sc (.int .u32 1116352408), .sc (.int .u32 1899447441), .sc (.int .u32 3049323471), .sc (.int .u32 3921009573), .sc (.int .u32 961987163), .sc (.int .u32 1508970993), .sc (.int .u32 2453635748), .sc (.int .u32 2870763221), .sc (.int .u32 3624381080), .sc (.int .u32 310598401), .sc (.int .u32 607225278), .sc (.int .u32 1426881987), .sc (.int .u32 1925078388), .sc (.int .u32 2162078206), .sc (.int .u32 2614888103), .sc (.int .u32 3248222580), .sc (.int .u32 3835390401), .sc (.int .u32 4022224774), .sc (.int .u32 264347078), .sc (.int .u32 604807628), .sc (.int .u32 770255983), .sc (.int .u32 1249150122), .sc (.int .u32 1555081692), .sc (.int .u32 1996064986), .sc (.int .u32 2554220882), .sc (.int .u32 2821834349), .sc (.int .u32 2952996808), .sc (.int .u32 3210313671), .sc (.int .u32 3336571891), .sc (.int .u32 3584528711), .sc (.int .u32 113926993), .sc (.int .u32 338241895), .sc (.int .u32 666307205), .sc (.int .u32 773529912), .sc (.int .u32 1294757372), .sc (.int .u32 1396182291), .sc (.int .u32 1695183700), .sc (.int .u32 1986661051), .sc (.int .u32 2177026350), .sc (.int .u32 2456956037), .sc (.int .u32 2730485921), .sc (.int .u32 2820302411), .sc (.int .u32 3259730800), .sc (.int .u32 3345764771), .sc (.int .u32 3516065817), .sc (.int .u32 3600352804), .sc (.int .u32 4094571909), .sc (.int .u32 275423344), .sc (.int .u32 430227734), .sc (.int .u32 506948616), .sc (.int .u32 659060556), .sc (.int .u32 883997877), .sc (.int .u32 958139571), .sc (.int .u32 1322822218), .sc (.int .u32 1537002063), .sc (.int .u32 1747873779), .sc (.int .u32 1955562222), .sc (.int .u32 2024104815), .sc (.int .u32 2227730452), .sc (.int .u32 2361852424), .sc (.int .u32 2428436474), .sc (.int .u32 2756734187), .sc (.int .u32 3204031479), .sc (.int .u32 3329325298)]) ([.sc (.int .u32 1779033703), .sc (.int .u32 3144134277), .sc (.int .u32 1013904242), .sc (.int .u32 2773480762), .sc (.int .u32 1359893119), .sc (.int .u32 2600822924), .sc (.int .u32 528734635), .sc (.int .u32 1541459225)]) (List.take (0 + b.length) ([] ++ b) ++ [.sc (.int .u8 128)]) else none else none
theorem e46 (f : Nat) (nl fl : Bool) (b : List PV) (k : KR) : JI tau F46 Tryz.f46 (Tryz.f46.body.get!) (Jyx (Jfk f) (Jfl f) (Jfm f) (Jfn f)) [] 0 [.ro 5 nl fl b] [] k = g46 f nl fl b k := by kernel_rfl
theorem JPD (f : Nat) : Jf (Tryz.f46.body.get!) (Jyx (Jfk f) (Jfl f) (Jfm f) (Jfn f)) = [.l JpY Jfi N46 (Jfk f), .l JgX ZA N46 (Jfl f), .l Jg2 ZF N46 (Jfm f), .l JpZ Jfj N46 (Jfn f)] := by kernel_rfl
theorem JPE (f : Nat) : ∀ q ∈ Jf (Tryz.f46.body.get!) (Jyx (Jfk f) (Jfl f) (Jfm f) (Jfn f)), q.Ok tau Tryz.prog 0 := by rw [JPD f]; exact JJ (JKt f) (JJ (JKu f) (JJ (JKz f) (JJ (JKA f) (fun _ h => nomatch h))))
theorem JKB : Tryz.prog.funcs[46]? = some Tryz.f46 := by kernel_rfl
theorem JKC : Tryz.f46.body = some (Tryz.f46.body.get!) := by kernel_rfl
theorem JE0 : Enters Tryz.prog 46 := enters_of JKB (by kernel_rfl) JKC
theorem Jur (v : PV) : Jq v [] = v := rfl
theorem X8 {R : List Int} (h : R.length = 8) (j : Nat) (hj : j < 8) : (pu .u32 R).getD j .top = .sc (.int .u32 (R.getD j 0)) := Vb (by omega)
theorem JBE (f : Nat) (a b : Bool) (c x y w : List PV) (k0 : Bool -> Bool -> List PV -> Nat -> List PV -> List PV -> List PV -> List PV -> OR) : ∀ (d n : Nat) (L : List Int), zs L.length = d -> d < n -> L.length + d <= 140737488355200 ->
  G1 f k0 n a b c L.length x y w (pu .u8 L) = k0 a b c (L.length + d) x y w (pu .u8 (L ++ List.replicate d 0))
 | 0, n + 1, L, hd, hn, hL => by
   simp only [G1, JbC, JeK]
   refine (Jd (by simp [zs] at hd ⊢; omega)).trans ?_
   simp
 | d + 1, n + 1, L, hd, hn, hL => by
   have hlt : d + 1 < 64 := by rw [← hd]; unfold zs; omega
   have c3 : Je (L.length + 1) 1 = true := by simp [Je]; omega
   simp only [G1, JbC, JeK, c3, Bool.and_true, cond_true, Yk]
   refine (Ja (by simp [zs] at hd ⊢; omega)).trans ?_
   rw [List.take_of_length_le (Nat.le_refl _)]
   have := JBE f a b c x y w k0 d n (L ++ [0]) (by simp [zs] at hd ⊢; omega) (by omega) (by simp; omega)
   simp only [List.length_append, List.length_cons, List.length_nil, Nat.zero_add, Qa] at this
   refine this.trans ?_
   rw [show L.length + 1 + d = L.length + (d + 1) from by omega, List.replicate_succ]
   simp
def JyG (N : Int) (i : Nat) : Int := IntKind.u8.wrap (JV .u64 N (56 - 8 * (i : Int)))
theorem JBF (f : Nat) (N : Int) (x y w : List PV) (k0 : Nat -> List PV -> List PV -> List PV -> List PV -> OR) (L : List Int) (hL : L.length <= 140737488355300) : ∀ (d i n : Nat), i + d = 8 -> d < n ->
  G2 f k0 n (L.length + i) N (7 - (i : Int)) x y w (pu .u8 (L ++ (List.range i).map (JyG N))) = k0 (L.length + 8) x y w (pu .u8 (L ++ (List.range 8).map (JyG N)))
 | 0, i, n + 1, h, hn => by
   obtain rfl : i = 8 := by omega
   simp only [G2, JbE]
   exact Jd (by decide)
 | d + 1, i, n + 1, h, hn => by
   have h1 : IntKind.i64.wrap (7 - (i : Int) - 1) = 7 - ((i + 1 : Nat) : Int) := by rw [wrap_i64 (by omega) (by omega)]; omega
   have h8 : IntKind.u64.wrap (7 - (i : Int)) = 7 - (i : Int) := by rw [QX]; omega
   have h9 : IntKind.u64.wrap (8 * (7 - (i : Int))) = 56 - 8 * (i : Int) := by rw [QX]; omega
   have c1 : decide (7 - (i : Int) >= 0) = true := by simp; omega
   have c2 : decide (0 <= 56 - 8 * (i : Int)) = true := by simp; omega
   have c3 : Je (L.length + i + 1) 1 = true := by simp [Je]; omega
   have hlen : (L ++ (List.range i).map (JyG N)).length = L.length + i := by simp
   simp only [G2, JbE, h1, h8, h9, c1, c2, c3, Bool.and_true, cond_true, Yk]
   rw [List.take_of_length_le (by omega)]
   have := JBF f N x y w k0 L hL d (i + 1) n (by omega) (by omega)
   rw [List.range_succ, List.map_append, ← List.append_assoc, Qa] at this
   exact this
theorem Jd0 (P : List Int) (q j : Nat) (hj : j < 64) : ((P.drop (64 * q)).take 64).getD j 0 = P.getD (64 * q + j) 0 := by
 simp [List.getD_eq_getElem?_getD, hj, List.getElem?_drop]
theorem JBG (P : List Int) (q : Nat) (hq : 64 * q + 64 <= P.length) (hP : P.length <= 140737488356000) (T : List Int) (hT : T.length = 64) (f : Nat) (x y w : List PV) (k0 : Nat -> Int -> List PV -> List PV -> List PV -> List PV -> List PV -> OR) : ∀ (d i n : Nat), i + d = 16 -> d < n ->
  G3 f k0 n P.length ((64 * q : Nat) : Int) (i : Int) x y w (pu .u8 P) (pu .u32 (QS (word ((P.drop (64 * q)).take 64)) T i)) = k0 P.length ((64 * q : Nat) : Int) x y w (pu .u8 P) (pu .u32 (QS (word ((P.drop (64 * q)).take 64)) T 16))
 | 0, i, n + 1, h, hn => by
   obtain rfl : i = 16 := by omega
   simp only [G3, JbF, Xe, Xd, Xc]
   exact Jd (by decide)
 | d + 1, i, n + 1, h, hn => by
   have h4 : IntKind.i64.wrap (4 * (i : Int)) = ((4 * i : Nat) : Int) := by rw [wrap_i64 (by omega) (by omega)]; omega
   have h40 : IntKind.i64.wrap (((64 * q : Nat) : Int) + ((4 * i : Nat) : Int)) = ((64 * q + 4 * i : Nat) : Int) := by rw [wrap_i64 (by omega) (by omega)]; omega
   have h41 : IntKind.i64.wrap (((64 * q + 4 * i : Nat) : Int) + 1) = ((64 * q + (4 * i + 1) : Nat) : Int) := by rw [wrap_i64 (by omega) (by omega)]; omega
   have h42 : IntKind.i64.wrap (((64 * q + 4 * i : Nat) : Int) + 2) = ((64 * q + (4 * i + 2) : Nat) : Int) := by rw [wrap_i64 (by omega) (by omega)]; omega
   have h43 : IntKind.i64.wrap (((64 * q + 4 * i : Nat) : Int) + 3) = ((64 * q + (4 * i + 3) : Nat) : Int) := by rw [wrap_i64 (by omega) (by omega)]; omega
   have h5 := wI (i := i) (by omega)
   simp only [G3, JbF, Xe, Xd, Xc, h4, h40, h41, h42, h43, h5, Int.toNat_natCast, Nat.zero_add, Jur, zi]
   rw [J7 (by omega), J7 (by omega), J7 (by omega), J7 (by omega), QH (by omega), QH (by omega), QH (by omega), QH (by omega), Xx]
   refine (Ja (by simp; omega)).trans ?_
   refine (Ja (by simp only [Bool.and_true, Bool.and_eq_true, decide_eq_true_eq]; omega)).trans ?_
   refine (Ja rfl).trans ?_
   refine (Ja (by simp only [Bool.and_true, Bool.and_eq_true, decide_eq_true_eq]; omega)).trans ?_
   refine (Ja rfl).trans ?_
   refine (Ja (by simp only [Bool.and_true, Bool.and_eq_true, decide_eq_true_eq]; omega)).trans ?_
   refine (Ja rfl).trans ?_
   refine (Ja (by simp only [Bool.and_true, Bool.and_eq_true, decide_eq_true_eq]; omega)).trans ?_
   refine (Ja rfl).trans ?_
   refine (Ja (by simp only [Bool.and_true, Bool.and_eq_true, decide_eq_true_eq]; omega)).trans ?_
   have := JBG P q hq hP T hT f x y w k0 d (i + 1) n (by omega) (by omega)
   rw [← QQ _ T i (by omega), word, Jd0 P q _ (by omega), Jd0 P q _ (by omega), Jd0 P q _ (by omega), Jd0 P q _ (by omega)] at this
   exact this
def GB (bs T : List Int) (i : Nat) : List Int := QY bs i ++ T.drop (16 + i)
theorem JiR (bs T : List Int) (hT : T.length = 64) (i : Nat) (h : i <= 48) : (GB bs T i).length = 64 := by simp [GB, Qf, hT]; omega
theorem V9 (bs T : List Int) (i j : Nat) (h : j < 16 + i) : (GB bs T i).getD j 0 = (QY bs i).getD j 0 := by
 simp only [GB, List.getD_eq_getElem?_getD]
 rw [List.getElem?_append_left (by rw [Qf]; exact h)]
theorem JrG (bs T : List Int) (hT : T.length = 64) (i : Nat) (h : i < 48) (x : Int) : (GB bs T i).set (i + 16) x = (QY bs i ++ [x]) ++ T.drop (16 + (i + 1)) := by
 rw [GB, List.set_append_right _ _ (by rw [Qf]; omega), Qf, List.drop_eq_getElem_cons (by omega), show i + 16 - (16 + i) = 0 from by omega, List.set_cons_zero]
 simp [Nat.add_assoc]
theorem JyH (w16 w15 w7 w2 : Int) : ww (ww (ww (sg1 w2 + w7) + sg0 w15) + w16) = JC1 w16 w15 w7 w2 := by
 simp only [JC1, ww, Jkk]; omega
theorem JBH (bs T : List Int) (hT : T.length = 64) (f : Nat) (l : Nat) (p : Int) (x y w e : List PV) (k0 : Nat -> Int -> List PV -> List PV -> List PV -> List PV -> List PV -> OR) : ∀ (d i n : Nat), i + d = 48 -> d < n ->
  G4 f k0 n l p ((i + 16 : Nat) : Int) x y w e (pu .u32 (GB bs T i)) = k0 l p x y w e (pu .u32 (Qr bs))
 | 0, i, n + 1, h, hn => by
   obtain rfl : i = 48 := by omega
   simp only [G4, JbG, Xg, Xf]
   refine (Jd (by decide)).trans ?_
   rw [GB, List.drop_of_length_le (by omega), List.append_nil]; rfl
 | d + 1, i, n + 1, h, hn => by
   have h15 : IntKind.i64.wrap (((i + 16 : Nat) : Int) - 15) = ((i + 1 : Nat) : Int) := by rw [wrap_i64 (by omega) (by omega)]; omega
   have h2 : IntKind.i64.wrap (((i + 16 : Nat) : Int) - 2) = ((i + 14 : Nat) : Int) := by rw [wrap_i64 (by omega) (by omega)]; omega
   have h16 : IntKind.i64.wrap (((i + 16 : Nat) : Int) - 16) = ((i : Nat) : Int) := by rw [wrap_i64 (by omega) (by omega)]; omega
   have h7 : IntKind.i64.wrap (((i + 16 : Nat) : Int) - 7) = ((i + 9 : Nat) : Int) := by rw [wrap_i64 (by omega) (by omega)]; omega
   have h1 : IntKind.i64.wrap (((i + 16 : Nat) : Int) + 1) = ((i + 1 + 16 : Nat) : Int) := by rw [wrap_i64 (by omega) (by omega)]; omega
   have hl := JiR bs T hT i (by omega)
   simp only [G4, JbG, Xg, Xf, h15, h2, h16, h7, h1, Int.toNat_natCast, zi, Yl]
   rw [J7 (by omega), J7 (by omega), J7 (by omega), J7 (by omega), QH (by omega), QH (by omega), QH (by omega), QH (by omega), Xx]
   refine (Ja (by simp; omega)).trans ?_
   refine (Ja (by simp; omega)).trans ?_
   refine (Ja rfl).trans ?_
   refine (Ja (by simp; omega)).trans ?_
   refine (Ja rfl).trans ?_
   refine (Ja (by simp; omega)).trans ?_
   refine (Ja rfl).trans ?_
   refine (Ja (by simp; omega)).trans ?_
   refine (Ja rfl).trans ?_
   refine (Ja (by simp; omega)).trans ?_
   have := JBH bs T hT f l p x y w e k0 d (i + 1) n (by omega) (by omega)
   rw [V9 bs T i i (by omega), V9 bs T i (i + 1) (by omega), V9 bs T i (i + 9) (by omega), V9 bs T i (i + 14) (by omega), JrG bs T hT i (by omega)]
   have hn := JyH ((QY bs i).getD i 0) ((QY bs i).getD (i + 1) 0) ((QY bs i).getD (i + 9) 0) ((QY bs i).getD (i + 14) 0)
   rw [GB, QY, ← hn] at this
   exact this
theorem JBI (W s : List Int) (hW : W.length = 64) (hs : s.length = 8) (f : Nat) (l : Nat) (p : Int) (x w e : List PV) (k0 : Nat -> Int -> List PV -> List PV -> List PV -> List PV -> List PV -> List PV -> OR) : ∀ (d i n : Nat), i + d = 64 -> d < n ->
  G5 f k0 n l p (i : Int) x (pu .u32 kks) w e (pu .u32 W) (pu .u32 (JcJ W s i)) = k0 l p x (pu .u32 kks) w e (pu .u32 W) (pu .u32 (JcJ W s 64))
 | 0, i, n + 1, h, hn => by
   obtain rfl : i = 64 := by omega
   simp only [G5, JbH, ZG]
   exact Jd (by decide)
 | d + 1, i, n + 1, h, hn => by
   have hl := Yo W s hs i
   have h1 := wI (i := i) (by omega)
   have hk : (pu .u32 kks).getD i .top = .sc (.int .u32 (kks.getD i 0)) := Vb (by show i < 64; omega)
   have hw : (pu .u32 W).getD i .top = .sc (.int .u32 (W.getD i 0)) := Vb (by omega)
   have c1 : decide ((i : Int) < 64) = true := by simp; omega
   have c2 : decide (0 <= (i : Int)) = true := by simp
   have c3 : decide ((i : Int) < zi 64) = true := by simp; omega
   simp only [G5, JbH, ZG, Yl, Int.toNat_natCast, h1, hk, hw, c1, c2, c3, X8 hl 0 (by omega), X8 hl 1 (by omega), X8 hl 2 (by omega), X8 hl 3 (by omega), X8 hl 4 (by omega), X8 hl 5 (by omega), X8 hl 6 (by omega), X8 hl 7 (by omega), PV.isInt, PV.int, decide_true, Bool.and_true, cond_true]
   exact JBI W s hW hs f l p x w e k0 d (i + 1) n (by omega) (by omega)
theorem JBJ (t s : List Int) (ht : t.length = 8) (hs : s.length = 8) (f : Nat) (l : Nat) (p : Int) (x y e u : List PV) (k0 : Nat -> Int -> List PV -> List PV -> List PV -> List PV -> List PV -> OR) : ∀ (d i n : Nat), i + d = 8 -> d < n ->
  G6 f k0 n l p (i : Int) x y (pu .u32 (QS (fun j => ww (t.getD j 0 + s.getD j 0)) s i)) e u (pu .u32 t) = k0 l p x y (pu .u32 ((List.range 8).map fun j => ww (t.getD j 0 + s.getD j 0))) e u
 | 0, i, n + 1, h, hn => by
   obtain rfl : i = 8 := by omega
   simp only [G6, JbI]
   refine (Jd (by decide)).trans ?_
   have := W3 (fun j => ww (t.getD j 0 + s.getD j 0)) s
   rw [hs] at this; rw [this]
 | d + 1, i, n + 1, h, hn => by
   have hl : (QS (fun j => ww (t.getD j 0 + s.getD j 0)) s i).length = 8 := by rw [JaT _ _ _ (by omega), hs]
   have h1 := wI (i := i) (by omega)
   have c1 : decide ((i : Int) < 8) = true := by simp; omega
   have c2 : decide (0 <= (i : Int)) = true := by simp
   have c3 : decide ((i : Int) < zi 8) = true := by simp; omega
   have g1 := tI i
   simp only [G6, JbI, Yl, g1, h1, c1, c2, c3, X8 hl i (by omega), X8 ht i (by omega), JgL _ s i (by omega), PV.isInt, PV.int, decide_true, Bool.and_true, cond_true, Xx]
   have := JBJ t s ht hs f l p x y e u k0 d (i + 1) n (by omega) (by omega)
   rw [← QQ _ s i (by omega), Int.add_comm (t.getD i 0)] at this
   exact this
theorem JKD (s : List Int) (i : Nat) : ZY s (4 * i) = IntKind.u8.wrap (JV .u32 (s.getD i 0) 24) := by
 rw [ZY, show 4 * i / 4 = i from by omega, show 4 * i % 4 = 0 from by omega]; rfl
theorem JKE (s : List Int) (i : Nat) : ZY s (4 * i + 1) = IntKind.u8.wrap (JV .u32 (s.getD i 0) 16) := by
 rw [ZY, show (4 * i + 1) / 4 = i from by omega, show (4 * i + 1) % 4 = 1 from by omega]; rfl
theorem JKF (s : List Int) (i : Nat) : ZY s (4 * i + 2) = IntKind.u8.wrap (JV .u32 (s.getD i 0) 8) := by
 rw [ZY, show (4 * i + 2) / 4 = i from by omega, show (4 * i + 2) % 4 = 2 from by omega]; rfl
theorem JKG (s : List Int) (i : Nat) : ZY s (4 * i + 3) = IntKind.u8.wrap (s.getD i 0) := by
 rw [ZY, show (4 * i + 3) / 4 = i from by omega, show (4 * i + 3) % 4 = 3 from by omega]
 have : JV .u32 (s.getD i 0) (24 - 8 * ((3 : Nat) : Int)) = s.getD i 0 := by
  have h0 : (24 - 8 * ((3 : Nat) : Int)) = 0 := by decide
  rw [h0]; simp [JV]
 rw [this]
theorem JBK (s : List Int) (hs : s.length = 8) (f : Nat) (k0 : List PV -> List PV -> OR) (a : List PV) (t : List Int) (ht : t.length = 32) : ∀ (d i n : Nat), i + d = 8 -> d < n ->
  G8 f k0 n (i : Int) a (pu .u32 s) (pu .u8 (QS (ZY s) t (4 * i))) = k0 a (pu .u8 (JsF s))
 | 0, i, n + 1, h, hn => by
   obtain rfl : i = 8 := by omega
   simp only [G8, JbK]
   refine (Jd (by decide)).trans ?_
   have := W3 (ZY s) t
   rw [ht] at this; rw [show 4 * 8 = 32 from rfl, this]; rfl
 | d + 1, i, n + 1, h, hn => by
   have h1 := wI (i := i) (by omega)
   have h4 : IntKind.i64.wrap (4 * (i : Int)) = ((4 * i : Nat) : Int) := by rw [wrap_i64 (by omega) (by omega)]; omega
   have h41 : IntKind.i64.wrap (((4 * i : Nat) : Int) + 1) = ((4 * i + 1 : Nat) : Int) := by rw [wrap_i64 (by omega) (by omega)]; omega
   have h42 : IntKind.i64.wrap (((4 * i : Nat) : Int) + 2) = ((4 * i + 2 : Nat) : Int) := by rw [wrap_i64 (by omega) (by omega)]; omega
   have h43 : IntKind.i64.wrap (((4 * i : Nat) : Int) + 3) = ((4 * i + 3 : Nat) : Int) := by rw [wrap_i64 (by omega) (by omega)]; omega
   have c1 : decide ((i : Int) < 8) = true := by simp; omega
   have c2 : decide (0 <= (i : Int)) = true := by simp
   have c3 : decide ((i : Int) < zi 8) = true := by simp; omega
   have b0 : (decide (0 <= ((4 * i : Nat) : Int)) && decide (((4 * i : Nat) : Int) < zi 32) && true) = true := by simp; omega
   have b1 : (decide (0 <= ((4 * i + 1 : Nat) : Int)) && decide (((4 * i + 1 : Nat) : Int) < zi 32) && true) = true := by simp; omega
   have b2 : (decide (0 <= ((4 * i + 2 : Nat) : Int)) && decide (((4 * i + 2 : Nat) : Int) < zi 32) && true) = true := by simp; omega
   have b3 : (decide (0 <= ((4 * i + 3 : Nat) : Int)) && decide (((4 * i + 3 : Nat) : Int) < zi 32) && true) = true := by simp; omega
   have g1 := tI i
   have g2 : (((4 * i : Nat) : Int)).toNat = 4 * i := by omega
   have g3 : (((4 * i + 1 : Nat) : Int)).toNat = 4 * i + 1 := by omega
   have g4 : (((4 * i + 2 : Nat) : Int)).toNat = 4 * i + 2 := by omega
   have g5 : (((4 * i + 3 : Nat) : Int)).toNat = 4 * i + 3 := by omega
   simp only [G8, JbK, h1, h4, h41, h42, h43, b0, b1, b2, b3, g1, g2, g3, Jcr, Jhe, QB, Jcq, g4, g5, Yl, c1, c2, c3, X8 hs i (by omega), PV.isInt, PV.int, decide_true, Bool.and_true, cond_true, Xx]
   have := JBK s hs f k0 a t ht d (i + 1) n (by omega) (by omega)
   rw [show 4 * (i + 1) = 4 * i + 3 + 1 from by omega, ← QQ (ZY s) t (4 * i + 3) (by omega), ← QQ (ZY s) t (4 * i + 2) (by omega), ← QQ (ZY s) t (4 * i + 1) (by omega), ← QQ (ZY s) t (4 * i) (by omega), JKD, JKE, JKF, JKG] at this
   exact this
theorem JBL (P : List Int) (m : Nat) (hP : P.length = 64 * m) (hb : P.length <= 140737488356000) (f : Nat) (hf : 100 <= f) (x : List PV) (k0 : List PV -> List PV -> OR) : ∀ (d i n : Nat) (T : List Int), i + d = m -> d < n -> T.length = 64 ->
  G7 f k0 n P.length ((64 * i : Nat) : Int) x (pu .u32 kks) (pu .u32 (X1 iv P i)) (pu .u8 P) (pu .u32 T) = k0 x (pu .u32 (X1 iv P m))
 | 0, i, n + 1, T, h, hn, hT => by
   obtain rfl : i = m := by omega
   simp only [G7, JbJ]
   exact Jd (by simp [zi]; omega)
 | d + 1, i, n + 1, T, h, hn, hT => by
   have hfl := XE iv P rfl i
   simp only [G7, JbJ]
   refine (Ja (by simp [zi]; omega)).trans ?_
   have e3 := fun kk => JBG P i (by omega) hb T hT f x (pu .u32 kks) (pu .u32 (X1 iv P i)) kk 16 0 f (by omega) (by omega)
   have e4 := fun kk => JBH ((P.drop (64 * i)).take 64) T hT f P.length ((64 * i : Nat) : Int) x (pu .u32 kks) (pu .u32 (X1 iv P i)) (pu .u8 P) kk 48 0 f (by omega) (by omega)
   have hW : (Qr ((P.drop (64 * i)).take 64)).length = 64 := Qf _ 48
   have e5 := fun kk => JBI (Qr ((P.drop (64 * i)).take 64)) (X1 iv P i) hW hfl f P.length ((64 * i : Nat) : Int) x (pu .u32 (X1 iv P i)) (pu .u8 P) kk 64 0 f (by omega) (by omega)
   have e6 := fun kk => JBJ (JcJ (Qr ((P.drop (64 * i)).take 64)) (X1 iv P i) 64) (X1 iv P i) (Yo _ _ hfl 64) hfl f P.length ((64 * i : Nat) : Int) x (pu .u32 kks) (pu .u8 P) (pu .u32 (Qr ((P.drop (64 * i)).take 64))) kk 8 0 f (by omega) (by omega)
   have h0 : QS (word ((P.drop (64 * i)).take 64)) T 16 = GB ((P.drop (64 * i)).take 64) T 0 := rfl
   rw [Wk] at e6
   simp only [Wk] at e3
   refine (e3 _).trans ?_
   rw [h0]
   refine (e4 _).trans ?_
   refine (e5 _).trans ?_
   refine (e6 _).trans ?_
   have h1 : IntKind.i64.wrap (((64 * i : Nat) : Int) + 64) = ((64 * (i + 1) : Nat) : Int) := by rw [wrap_i64 (by omega) (by omega)]; omega
   rw [h1]
   exact JBL P m hP hb f hf x k0 d (i + 1) n (Qr ((P.drop (64 * i)).take 64)) (by omega) (by omega) hW
theorem JE1 (bs : List Int) (hb : bs.length <= 140737488355000) (nl fl : Bool) (k : KR) : g46 ((Q7 bs).length / 64 + 100) nl fl (pu .u8 bs) k = k ⟨.ar 28 (pu .u8 (JX bs)), [], []⟩ := by
 rw [JdR]
 have hlen : (Q7 bs).length = bs.length + 1 + zs (bs.length + 1) + 8 := by simp [Q7, Jw9]; omega
 have hz : zs (bs.length + 1) < 64 := by unfold zs; omega
 have h64 : (Q7 bs).length = 64 * ((Q7 bs).length / 64) := Jdq bs
 generalize hf : (Q7 bs).length / 64 + 100 = f
 refine (Ja (by simp [Je]; omega)).trans ?_
 refine (Ja (by simp [Je]; omega)).trans ?_
 have hL : List.take (0 + (pu .u8 bs).length) ([] ++ pu .u8 bs) ++ [PV.sc (Value.int IntKind.u8 128)] = pu .u8 (bs ++ [128]) := by
  rw [List.take_of_length_le (by simp)]; simp
 rw [hL]
 have e0 := fun kk x y w => JBE f nl fl (pu .u8 bs) x y w kk (zs (bs.length + 1)) f (bs ++ [128]) (by simp) (by omega) (by simp; omega)
 simp only [List.length_append, List.length_cons, List.length_nil, Nat.zero_add] at e0
 have hl1 : 0 + (pu .u8 bs).length + 1 = bs.length + 1 := by simp
 rw [hl1]
 refine (e0 _ _ _ _).trans ?_
 have e1 := fun kk x y w => JBF f (IntKind.u64.wrap (IntKind.u64.wrap (zi (pu .u8 bs).length) * 8)) x y w kk (bs ++ [128] ++ List.replicate (zs (bs.length + 1)) 0) (by simp; omega) 8 0 f (by omega) (by omega)
 have hl2 : (bs ++ [128] ++ List.replicate (zs (bs.length + 1)) 0).length = bs.length + 1 + zs (bs.length + 1) := by simp; omega
 rw [hl2] at e1
 simp only [List.range_zero, List.map_nil, List.append_nil, Nat.add_zero] at e1
 refine (e1 _ _ _ _).trans ?_
 have hPd : bs ++ [128] ++ List.replicate (zs (bs.length + 1)) 0 ++ (List.range 8).map (JyG (IntKind.u64.wrap (IntKind.u64.wrap (zi (pu .u8 bs).length) * 8))) = Q7 bs := by
  rw [JD]; rfl
 rw [hPd, ← hlen]
 have e2 := fun kk x => JBL (Q7 bs) ((Q7 bs).length / 64) h64 (by omega) f (by omega) x kk ((Q7 bs).length / 64) 0 f (List.replicate 64 0) (by omega) (by omega) (by simp)
 refine (e2 _ _).trans ?_
 have hfl := XE iv (Q7 bs) rfl ((Q7 bs).length / 64)
 have e7 := fun kk a => JBK (X1 iv (Q7 bs) ((Q7 bs).length / 64)) hfl f kk a (List.replicate 32 0) (by simp) 8 0 f (by omega) (by omega)
 simp only [Nat.mul_zero, Wk] at e7
 exact e7 _ _
def Jnv : Jy
 | [.ro 5 nl fl b], [], k => bif Jk .u8 b && decide (b.length <= 140737488355000) then k ⟨.ar 28 (pu .u8 (JX (JC b))), [], []⟩ else none
 | _, _, _ => none
def JyI : Sig := { own := [], run := Jnv }
theorem Jus : Jc tau Tryz.prog 46 JyI := JhG Jn Zz Jo JKB JKC (fun n => Jyx (Jfk n) (Jfl n) (Jfm n) (Jfn n)) [] 0 [] Jnv (fun n => JPE n) fun xs es k res hr => by
 unfold Jnv at hr
 split at hr
 · rename_i nl fl l
   obtain ⟨hc, hr⟩ := Ju hr
   simp only [Bool.and_eq_true, decide_eq_true_eq] at hc
   refine ⟨rfl, (Q7 (JC l)).length / 64 + 100, 0, (e46 _ _ _ _ _).trans ?_⟩
   have he := QC hc.1
   have := JE1 (JC l) (by simpa using hc.2) nl fl k
   rw [← he] at this
   rw [this]; exact hr
 · cases hr
def N66 : Nat := 53
def F66 : Fns := Jr 46 JyI (F0)
theorem Jut : Jp tau Tryz.prog F66 := (Js).add Jus JE0
def Jp8 : Code := Qd (Tryz.f66.body.get!) [1, 1, 1, 1, 0, 1, 0, 0]
def Jfo : Nm := [(1, .any), (4, .any), (5, .any), (7, .any), (8, .any), (9, .any)]
def Jnw : Nm := [(1, .any), (4, .any), (7, .any), (8, .any)]
def Juu : An := (.seq (.seq .leaf (.cond .leaf .leaf)) (.seq (.block none .leaf) .leaf))
def JyJ (r0 : Qt) : An := (.seq .leaf (.seq .leaf (.seq (.seq .leaf (.cond (.seq .leaf .leaf) .leaf)) (.seq .leaf (.seq (.seq .leaf (.block none (.sum Jfo N66 r0))) (.seq .leaf (.seq .leaf .leaf)))))))
abbrev Juv := Bool -> Bool -> List PV -> Int -> List PV -> List PV -> List PV -> List PV -> OR
def JbM (f : Nat) (rc : Juv) (k0 : Bool -> Bool -> List PV -> List PV -> List PV -> List PV -> OR) (v0 v1 : Bool) (v2 : List PV) (v3 : Int) (v4 v5 v6 v7 : List PV) : OR := bif decide (v3 < 64) then bif decide (0 <= v3) && decide (v3 < zi 64) && true then bif PV.isInt IntKind.u8 (Jq (v5.getD (0 + v3.toNat) PV.top) []) && true then bif decide (0 <= v3) && decide (v3 < zi 64) && true then bif PV.isInt IntKind.u8 (Jq (v5.getD (0 + v3.toNat) PV.top) []) && true then bif decide (0 <= v3) && decide (v3 < zi 64) && true then bif decide (0 <= v3) && decide (v3 < zi 64) && true then rc v0 v1 v2 (IntKind.i64.wrap (v3 + 1)) v4 v5 (v6.set (0 + v3.toNat) (.sc (.int .u8 (JL BinOp.xor IntKind.u8 (Jq (v5.getD (0 + v3.toNat) PV.top) []).int 54)))) (v7.set (0 + v3.toNat) (.sc (.int .u8 (JL BinOp.xor IntKind.u8 (Jq (v5.getD (0 + v3.toNat) PV.top) []).int 92)))) else none else none else none else none else none else none else k0 v0 v1 v2 v4 v6 v7
def X9 (f : Nat) (k0 : Bool -> Bool -> List PV -> List PV -> List PV -> List PV -> OR) : Nat -> Juv
 | 0 => fun _ _ _ _ _ _ _ _ => none
 | n + 1 => JbM f (X9 f k0 n) k0
def JbN (k : Kont) := fun x0 x1 x2 x3 x4 x5 => k (Ex.exit 0) (Ji Jnw N66 [.ro 5 x0 x1 x2, .ptr 864 [], .ow 5 865 [] 0 64 (some 64), .ow 5 866 [] 0 64 (some 64)] [(864, .box false 28 (PV.ar 28 x3)), (865, .vec false 5 false x4), (866, .vec false 5 false x5)])
def Jnx (f : Nat) (k : Kont) (n : Nat) (v0 v1 : Bool) (v2 : List PV) (v3 : Int) (v4 v5 v6 v7 : List PV) : OR := Jx tau 0 Jfo (fun s k => ev tau F66 0 0 Jp8 (Juu ) s k) n (Ji Jfo N66 [.ro 5 v0 v1 v2, .ptr 864 [], .ow 5 865 [] 0 64 (some 64), .ow 5 866 [] 0 64 (some 64), .ow 5 867 [] 0 64 (some 64), .sc (.int .i64 v3)] [(864, .box false 28 (PV.ar 28 v4)), (865, .vec false 5 false v5), (866, .vec false 5 false v6), (867, .vec false 5 false v7)]) (JG tau 0 Jnw k)
theorem JyK (f : Nat) (k : Kont) (n : Nat) : Jnx f k (n + 1) = JbM f (Jnx f k n) (JbN k) := by kernel_rfl
theorem Jp9 (f : Nat) (k : Kont) : ∀ n, Jnx f k n = X9 f (JbN k) n
 | 0 => rfl
 | n + 1 => (JyK f k n).trans (congrArg (fun r => JbM f r (JbN k)) (Jp9 f k n))
def Jfp (f : Nat) : List PV -> List (Nat × Ent) -> Kont -> OR
 | [.ro 5 v0 v1 v2, .ptr 864 [], .ow 5 865 [] 0 64 (some 64), .ow 5 866 [] 0 64 (some 64), .ow 5 867 [] 0 64 (some 64),
 PV.sc
  (Value.int IntKind.i64
   v3)], [(864, .box false 28 (PV.ar 28 v4)), (865, .vec false 5 false v5), (866, .vec false 5 false v6),
 (867,
  Ent.vec false 5 false
   v7)], k => X9 f (JbN k) f v0 v1 v2 v3 v4 v5 v6 v7
 | _, _, _ => none
theorem JE2 (f : Nat) : Jf Jp8 Juu = [] := by kernel_rfl
theorem JE3 (f : Nat) : (Item.l Jp8 Jfo N66 (Jfp f)).Ok tau Tryz.prog 0 := Jt Jn Jut Jo (x := Juu) (nm2 := Jnw) (Jl _ _ (by rw [JE2 f]; intro q hq; cases hq)) fun vs hp k res hr => by
 unfold Jfp at hr
 split at hr
 · rw [← Jp9 f] at hr; exact ⟨f, 0, hr⟩
 · cases hr
abbrev JcQ := JCY
abbrev Juw := (JcG)
def g66 (f : Nat) (y0 y1 : Bool) (key : List PV) (y2 y3 : Bool) (text : List PV) (k : KR) : OR := bif decide (zi key.length > 64) then bif Jk IntKind.u8 key && decide (key.length <= 140737488355000) then X9 f (fun _ _ x2_0 _ x4_0 x5_0 => bif Je (64 + x2_0.length) 1 && true then bif Jk IntKind.u8 (List.take (64 + x2_0.length) (List.take 64 x4_0 ++ x2_0)) && decide ((List.take (64 + x2_0.length) (List.take 64 x4_0 ++ x2_0)).length <= 140737488355000) then bif Je (64 + (List.take 32 (pu IntKind.u8 (JX (JC (List.take (64 + x2_0.length) (List.take 64 x4_0 ++ x2_0)))))).length) 1 && true then bif Jk IntKind.u8 (List.take (64 + (List.take 32 (pu IntKind.u8 (JX (JC (List.take (64 + x2_0.length) (List.take 64 x4_0 ++ x2_0)))))).length) (List.take 64 x5_0 ++ List.take 32 (pu IntKind.u8 (JX (JC (List.take (64 + x2_0.length) (List.take 64 x4_0 ++ x2_0))))))) && decide ((List.take (64 + (List.take 32 (pu IntKind.u8 (JX (JC (List.take (64 + x2_0.length) (List.take 64 x4_0 ++ x2_0)))))).length) (List.take 64 x5_0 ++ List.take 32 (pu IntKind.u8 (JX (JC (List.take (64 + x2_0.length) (List.take 64 x4_0 ++ x2_0))))))).length <= 140737488355000) then k (Res.mk (.ar 28 (pu IntKind.u8 (JX (JC (List.take (64 + (List.take 32 (pu IntKind.u8 (JX (JC (List.take (64 + x2_0.length) (List.take 64 x4_0 ++ x2_0)))))).length) (List.take 64 x5_0 ++ List.take 32 (pu IntKind.u8 (JX (JC (List.take (64 + x2_0.length) (List.take 64 x4_0 ++ x2_0))))))))))) [] []) else none else none else none else none) f y2 y3 text (0) Juw (List.take 64 (List.take 32 (pu IntKind.u8 (JX (JC key)))) ++ List.drop (0 + min (List.take 32 (pu IntKind.u8 (JX (JC key)))).length 64) JcQ) (JcQ) (JcQ) else none else X9 f (fun _ _ x2_1 _ x4_1 x5_1 => bif Je (64 + x2_1.length) 1 && true then bif Jk IntKind.u8 (List.take (64 + x2_1.length) (List.take 64 x4_1 ++ x2_1)) && decide ((List.take (64 + x2_1.length) (List.take 64 x4_1 ++ x2_1)).length <= 140737488355000) then bif Je (64 + (List.take 32 (pu IntKind.u8 (JX (JC (List.take (64 + x2_1.length) (List.take 64 x4_1 ++ x2_1)))))).length) 1 && true then bif Jk IntKind.u8 (List.take (64 + (List.take 32 (pu IntKind.u8 (JX (JC (List.take (64 + x2_1.length) (List.take 64 x4_1 ++ x2_1)))))).length) (List.take 64 x5_1 ++ List.take 32 (pu IntKind.u8 (JX (JC (List.take (64 + x2_1.length) (List.take 64 x4_1 ++ x2_1))))))) && decide ((List.take (64 + (List.take 32 (pu IntKind.u8 (JX (JC (List.take (64 + x2_1.length) (List.take 64 x4_1 ++ x2_1)))))).length) (List.take 64 x5_1 ++ List.take 32 (pu IntKind.u8 (JX (JC (List.take (64 + x2_1.length) (List.take 64 x4_1 ++ x2_1))))))).length <= 140737488355000) then k (Res.mk (.ar 28 (pu IntKind.u8 (JX (JC (List.take (64 + (List.take 32 (pu IntKind.u8 (JX (JC (List.take (64 + x2_1.length) (List.take 64 x4_1 ++ x2_1)))))).length) (List.take 64 x5_1 ++ List.take 32 (pu IntKind.u8 (JX (JC (List.take (64 + x2_1.length) (List.take 64 x4_1 ++ x2_1))))))))))) [] []) else none else none else none else none) f y2 y3 text (0) Juw (List.take 64 key ++ List.drop (0 + min key.length 64) JcQ) (JcQ) (JcQ)
theorem e66 (f : Nat) (y0 y1 : Bool) (key : List PV) (y2 y3 : Bool) (text : List PV) (k : KR) : JI tau F66 Tryz.f66 (Tryz.f66.body.get!) (JyJ (Jfp f)) [.ro] 0 [.ro 5 y0 y1 key, .ro 5 y2 y3 text] [] k = g66 f y0 y1 key y2 y3 text k := by kernel_rfl
theorem JPF (f : Nat) : Jf (Tryz.f66.body.get!) (JyJ (Jfp f)) = [.l Jp8 Jfo N66 (Jfp f)] := by kernel_rfl
theorem JPG (f : Nat) : ∀ q ∈ Jf (Tryz.f66.body.get!) (JyJ (Jfp f)), q.Ok tau Tryz.prog 0 := by rw [JPF f]; exact JJ (JE3 f) (fun _ h => nomatch h)
theorem JKH : Tryz.prog.funcs[66]? = some Tryz.f66 := by kernel_rfl
theorem JKI : Tryz.f66.body = some (Tryz.f66.body.get!) := by kernel_rfl
theorem JKJ : Enters Tryz.prog 66 := enters_of JKH (by kernel_rfl) JKI
theorem Jg3 (K : List Int) (hK : K.length = 64) (x : Int) : (List.range 64).map (fun j => JL .xor .u8 (K.getD j 0) x) = Zy K x := by
 rw [← Juh K hK x]
 apply List.map_congr_left
 intro j _
 exact GA _ _ _
theorem JBM (K : List Int) (hK : K.length = 64) (f : Nat) (k0 : Bool -> Bool -> List PV -> List PV -> List PV -> List PV -> OR) (tz tf : Bool) (text h : List PV) : ∀ (d i n : Nat), i + d = 64 -> d < n ->
  X9 f k0 n tz tf text (i : Int) h (pu .u8 K) (pu .u8 (QS (fun j => JL .xor .u8 (K.getD j 0) 54) (List.replicate 64 0) i)) (pu .u8 (QS (fun j => JL .xor .u8 (K.getD j 0) 92) (List.replicate 64 0) i)) = k0 tz tf text h (pu .u8 (Zy K 54)) (pu .u8 (Zy K 92))
 | 0, i, n + 1, hh, hn => by
   obtain rfl : i = 64 := by omega
   simp only [X9, JbM]
   refine (Jd (by decide)).trans ?_
   have h1 := W3 (fun j => JL .xor .u8 (K.getD j 0) 54) (List.replicate 64 0)
   have h2 := W3 (fun j => JL .xor .u8 (K.getD j 0) 92) (List.replicate 64 0)
   rw [List.length_replicate] at h1 h2
   rw [h1, h2, Jg3 K hK, Jg3 K hK]
 | d + 1, i, n + 1, hh, hn => by
   have g1 := tI i
   have h1 := wI (i := i) (by omega)
   have c0 : (decide (0 <= (i : Int)) && decide ((i : Int) < zi 64) && true) = true := by simp; omega
   simp only [X9, JbM, g1, h1, Nat.zero_add, Jq]
   rw [J7 (by omega), QH (by omega), Xx, Xx]
   refine (Ja (by simp; omega)).trans ((Ja c0).trans ((Ja rfl).trans ((Ja c0).trans ((Ja rfl).trans ((Ja c0).trans ((Ja c0).trans ?_))))))
   have := JBM K hK f k0 tz tf text h d (i + 1) n (by omega) (by omega)
   rw [← QQ _ _ i (by simp; omega), ← QQ _ _ i (by simp; omega)] at this
   exact this
def Ga (a b text : List PV) (k : KR) : OR :=
 bif Je (64 + text.length) 1 && true then
  bif Jk .u8 (List.take (64 + text.length) (List.take 64 a ++ text)) && decide ((List.take (64 + text.length) (List.take 64 a ++ text)).length <= 140737488355000) then
   bif Je (64 + (List.take 32 (pu .u8 (JX (JC (List.take (64 + text.length) (List.take 64 a ++ text)))))).length) 1 && true then
    bif Jk .u8 (List.take (64 + (List.take 32 (pu .u8 (JX (JC (List.take (64 + text.length) (List.take 64 a ++ text)))))).length) (List.take 64 b ++ List.take 32 (pu .u8 (JX (JC (List.take (64 + text.length) (List.take 64 a ++ text)))))))
      && decide ((List.take (64 + (List.take 32 (pu .u8 (JX (JC (List.take (64 + text.length) (List.take 64 a ++ text)))))).length) (List.take 64 b ++ List.take 32 (pu .u8 (JX (JC (List.take (64 + text.length) (List.take 64 a ++ text))))))).length <= 140737488355000) then
     k ⟨.ar 28 (pu .u8 (JX (JC (List.take (64 + (List.take 32 (pu .u8 (JX (JC (List.take (64 + text.length) (List.take 64 a ++ text)))))).length) (List.take 64 b ++ List.take 32 (pu .u8 (JX (JC (List.take (64 + text.length) (List.take 64 a ++ text)))))))))), [], []⟩
    else none
   else none
  else none
 else none
theorem Jux (f : Nat) (kz kf : Bool) (key : List PV) (tz tf : Bool) (text : List PV) (k : KR) : g66 f kz kf key tz tf text k =
 (bif decide (zi key.length > 64) then
  bif Jk .u8 key && decide (key.length <= 140737488355000) then
   X9 f (fun _ _ t _ a b => Ga a b t k) f tz tf text 0 (pu .u8 (List.replicate 32 0)) (kbG (List.take 32 (pu .u8 (JX (JC key))))) (pu .u8 (List.replicate 64 0)) (pu .u8 (List.replicate 64 0))
  else none
 else X9 f (fun _ _ t _ a b => Ga a b t k) f tz tf text 0 (pu .u8 (List.replicate 32 0)) (kbG key) (pu .u8 (List.replicate 64 0)) (pu .u8 (List.replicate 64 0))) := by kernel_rfl
theorem Jny (K T : List Int) (hK : K.length = 64) (hT : T.length <= 1000000000) (k : KR) :
  Ga (pu .u8 (Zy K 54)) (pu .u8 (Zy K 92)) (pu .u8 T) k = k ⟨.ar 28 (pu .u8 (JX (Zy K 92 ++ JX (Zy K 54 ++ T)))), [], []⟩ := by
 have e1 : List.take (64 + (pu .u8 T).length) (List.take 64 (pu .u8 (Zy K 54)) ++ pu .u8 T) = pu .u8 (Zy K 54 ++ T) := by
  rw [List.take_of_length_le (i := 64) (by simp [hK]), List.take_of_length_le (by simp [hK]), ← Qa]
 have e2 : ∀ l : List Int, List.take 32 (pu .u8 (JX l)) = pu .u8 (JX l) := fun l => List.take_of_length_le (by simp [Qw])
 have e3 : ∀ l : List Int, List.take (64 + (pu .u8 (JX l)).length) (List.take 64 (pu .u8 (Zy K 92)) ++ pu .u8 (JX l)) = pu .u8 (Zy K 92 ++ JX l) := fun l => by
  rw [List.take_of_length_le (i := 64) (by simp [hK]), List.take_of_length_le (by simp [hK]), ← Qa]
 unfold Ga
 rw [e1, e2, e3, Ja (by simp [Je]; omega), Ja (by rw [JO, JD]; simp [hK]; omega), Ja (by simp [Je, Qw]), Ja (by rw [JO, JD]; simp [hK, Qw])]
 simp only [WL]
def Jnz : Jy
 | [.ro 5 kz kf key, .ro 5 tz tf text], [], k =>
  bif (Jk .u8 key && decide (key.length <= 1000000000)) && (Jk .u8 text && decide (text.length <= 1000000000)) then
   k ⟨.ar 28 (pu .u8 (Jgj (JC key) (JC text))), [], []⟩ else none
 | _, _, _ => none
def JE4 : Sig := { own := [], run := Jnz }
theorem JE5 (kz kf : Bool) (key : List PV) (tz tf : Bool) (text : List PV) (k : KR) (a1 : Jk .u8 key = true) (a2 : key.length <= 1000000000) (h3 : Jk .u8 text = true) (h4 : text.length <= 1000000000) :
   g66 70 kz kf key tz tf text k = k ⟨.ar 28 (pu .u8 (Jgj (JC key) (JC text))), [], []⟩ := by
 rw [Jux, JpX, Juj]
 have hi := QC a1
 have ht := QC h3
 have hL : ∀ K : List Int, K.length = 64 -> X9 70 (fun _ _ t _ a b => Ga a b t k) 70 tz tf text 0 (pu .u8 (List.replicate 32 0)) (pu .u8 K) (pu .u8 (List.replicate 64 0)) (pu .u8 (List.replicate 64 0)) = k ⟨.ar 28 (pu .u8 (JX (Zy K 92 ++ JX (Zy K 54 ++ JC text)))), [], []⟩ := by
   intro K hK
   have := JBM K hK 70 (fun _ _ t _ a b => Ga a b t k) tz tf text (pu .u8 (List.replicate 32 0)) 64 0 70 (by omega) (by omega)
   rw [Wk, Wk] at this
   refine this.trans ?_
   have hm := Jny K (JC text) hK (by simpa using h4) k
   rw [← ht] at hm
   exact hm
 by_cases hc : key.length > 64
 · rw [Ja (by simp [zi]; omega), Ja (by simp [a1]; omega), List.take_of_length_le (by simp [Qw]), Juk _ (by rw [Qw]; omega),
    hL _ (by rw [← Jdv (JC key), JkO, if_pos (by simpa using hc)]), JkO, if_pos (by simpa using hc)]
 · have hl : (JC key).length <= 64 := by simp; omega
   rw [Jd (by simp [zi]; omega), hi, Juk _ hl, WL, hL _ (by rw [← Jdv (JC key), JkO, if_neg (by omega)]), JkO, if_neg (by omega)]
theorem JBN : Jc tau Tryz.prog 66 JE4 := Jc.mk' fun xs es k res hl hr => by
 change Jnz xs es k = some res at hr
 unfold Jnz at hr
 split at hr
 · rename_i kz kf key tz tf text
   obtain ⟨hc, hr⟩ := Ju hr
   simp only [Bool.and_eq_true, decide_eq_true_eq] at hc
   obtain ⟨⟨a1, a2⟩, h3, h4⟩ := hc
   exact J1 Jn Jut Jo JKH JKI (JyJ (Jfp 70)) [.ro] 0 0 (JPG 70) hl rfl ((e66 70 kz kf key tz tf text k).trans ((JE5 kz kf key tz tf text k a1 a2 h3 h4).trans hr))
 · cases hr
def F44 : Fns := Jr 77 JKm (Jr 66 JE4 (F0))
theorem JE6 : Jp tau Tryz.prog F44 := ((Js).add JBN JKJ).add JKn JPu
def JE7 : An := (.seq .leaf (.seq .leaf (.seq .leaf .leaf)))
abbrev Jfq (y0 : Int) (y1 : Int) (d_Id : Int) (y2 : Int) (y3 : List PV) (y4 : Int) (d_Op : List PV) (y7 : Int) (y8 : Int) := (List.take (dlB (DV.mk y0 y1 d_Id y2 y3 y4 d_Op y7 y8)).length (pu IntKind.u8 (dlB (DV.mk y0 y1 d_Id y2 y3 y4 d_Op y7 y8))))
def g44 (f : Nat) (k0_z k0_f : Bool) (k0 : List PV) (k1_z k1_f : Bool) (k1 : List PV) (k2_z k2_f : Bool) (k2 : List PV) (y0 y1 d_Id y2 : Int) (y3 : List PV) (y4 : Int) (y5 y6 : Bool) (d_Op : List PV) (y7 y8 : Int) (k : KR) : OR := bif dOk (DV.mk y0 y1 d_Id y2 y3 y4 d_Op y7 y8) then bif decide (0 <= y0) && decide (y0 < zi 3) && true then bif PV.isRo 5 (Jq (PV.st 39 [.ro 5 k0_z k0_f k0, .ro 5 k1_z k1_f k1, .ro 5 k2_z k2_f k2]) [y0.toNat]) && true then bif Jk IntKind.u8 (Jq (PV.st 39 [.ro 5 k0_z k0_f k0, .ro 5 k1_z k1_f k1, .ro 5 k2_z k2_f k2]) [y0.toNat]).els && decide ((Jq (PV.st 39 [.ro 5 k0_z k0_f k0, .ro 5 k1_z k1_f k1, .ro 5 k2_z k2_f k2]) [y0.toNat]).els.length <= 1000000000) && (Jk IntKind.u8 (Jfq y0 y1 d_Id y2 y3 y4 d_Op y7 y8) && decide ((Jfq y0 y1 d_Id y2 y3 y4 d_Op y7 y8).length <= 1000000000)) then k (Res.mk (.st 30 [.ro 5 false false (Jfq y0 y1 d_Id y2 y3 y4 d_Op y7 y8), .ar 28 (pu IntKind.u8 (Jgj (JC (Jq (PV.st 39 [.ro 5 k0_z k0_f k0, .ro 5 k1_z k1_f k1, .ro 5 k2_z k2_f k2]) [y0.toNat]).els) (JC (Jfq y0 y1 d_Id y2 y3 y4 d_Op y7 y8))))]) [] []) else none else none else none else none
theorem e44 (f : Nat) (k0_z k0_f : Bool) (k0 : List PV) (k1_z k1_f : Bool) (k1 : List PV) (k2_z k2_f : Bool) (k2 : List PV) (y0 y1 d_Id y2 : Int) (y3 : List PV) (y4 : Int) (y5 y6 : Bool) (d_Op : List PV) (y7 y8 : Int) (k : KR) : JI tau F44 Tryz.f44 (Tryz.f44.body.get!) JE7 [.ro] 0 [.st 39 [.ro 5 k0_z k0_f k0, .ro 5 k1_z k1_f k1, .ro 5 k2_z k2_f k2], .st 105 [.st 67 [.sc (.int .i64 y0), .sc (.int .i64 y1)], .sc (.int .i64 d_Id), .sc (.int .i64 y2), .ar 28 y3, .sc (.int .i64 y4), .ro 53 y5 y6 d_Op, .st 67 [.sc (.int .i64 y7), .sc (.int .i64 y8)]]] [] k = g44 f k0_z k0_f k0 k1_z k1_f k1 k2_z k2_f k2 y0 y1 d_Id y2 y3 y4 y5 y6 d_Op y7 y8 k := by kernel_rfl
theorem JPH (f : Nat) : ∀ q ∈ Jf (Tryz.f44.body.get!) JE7, q.Ok tau Tryz.prog 0 := Jv (by kernel_rfl)
theorem JKK : Tryz.prog.funcs[44]? = some Tryz.f44 := by kernel_rfl
theorem JKL : Tryz.f44.body = some (Tryz.f44.body.get!) := by kernel_rfl
theorem JPI : Enters Tryz.prog 44 := enters_of JKK (by kernel_rfl) JKL
def Juy : Jy
 | [.st 39 [.ro 5 k0_z k0_f k0, .ro 5 k1_z k1_f k1, .ro 5 k2_z k2_f k2], .st 105 [.st 67 [.sc (.int .i64 y0), .sc (.int .i64 y1)], .sc (.int .i64 d_Id), .sc (.int .i64 y2), .ar 28 y3, .sc (.int .i64 y4), .ro 53 y5 y6 d_Op, .st 67 [.sc (.int .i64 y7), .sc (.int .i64 y8)]]], [], k => g44 0 k0_z k0_f k0 k1_z k1_f k1 k2_z k2_f k2 y0 y1 d_Id y2 y3 y4 y5 y6 d_Op y7 y8 k
 | _, _, _ => none
def s44 : Sig := { own := [], run := Juy }
theorem JPJ : Jc tau Tryz.prog 44 s44 := JN Jn JE6 Jo JKK JKL JE7 [.ro] 0 [] Juy (JPH 0) fun xs es k res hr => by
 unfold Juy at hr
 split at hr
 · exact ⟨rfl, 0, (e44 0 _ _ _ _ _ _ _ _ _ _ _ _ _ _ _ _ _ _ _ _  _).trans hr⟩
 · cases hr
def F82 : Fns := Jr 123 JAC (F0)
theorem JE8 : Jp tau Tryz.prog F82 := (Js).add JDD JIu
def JE9 : An := (.seq .leaf (.seq .leaf .leaf))
def g82 (f : Nat) (b_z b_f : Bool) (b : List PV) (k : KR) : OR := bif slB b_z b then k (Res.mk (.ptr 16 []) [] [.box false 197 (PV.st 197 [.ro 5 b_z b_z b, .sc (.int .i64 0)])]) else none
theorem e82 (f : Nat) (b_z b_f : Bool) (b : List PV) (k : KR) : JI tau F82 Tryz.f82 (Tryz.f82.body.get!) JE9 [.any] 0 [.ro 5 b_z b_f b] [] k = g82 f b_z b_f b k := by kernel_rfl
theorem JPK (f : Nat) : ∀ q ∈ Jf (Tryz.f82.body.get!) JE9, q.Ok tau Tryz.prog 0 := Jv (by kernel_rfl)
theorem JKM : Tryz.prog.funcs[82]? = some Tryz.f82 := by kernel_rfl
theorem JKN : Tryz.f82.body = some (Tryz.f82.body.get!) := by kernel_rfl
theorem JKO : Enters Tryz.prog 82 := enters_of JKM (by kernel_rfl) JKN
def Juz : Jy
 | [.ro 5 b_z b_f b], [], k => g82 0 b_z b_f b k
 | _, _, _ => none
def s82 : Sig := { own := [], run := Juz }
theorem JKP : Jc tau Tryz.prog 82 s82 := JN Jn JE8 Jo JKM JKN JE9 [.any] 0 [] Juz (JPK 0) fun xs es k res hr => by
 unfold Juz at hr
 split at hr
 · exact ⟨rfl, 0, (e82 0 _ _ _  _).trans hr⟩
 · cases hr
def F83 : Fns := Jr 127 JpH (F0)
theorem JFa : Jp tau Tryz.prog F83 := (Js).add Jm4 JtN
def JFb : An := (.seq .leaf (.seq .leaf .leaf))
def g83 (f : Nat) (y0 y1 : Bool) (r_b : List PV) (r_e : Int) (k : KR) : OR := bif (!y0 || y1) && true && byB r_b then k (Res.mk (.sc (.int .i64 (Jz 8 (RS.mk r_b r_e)))) [.box false 197 (PV.st 197 [.ro 5 y0 y1 (Jb 8 (RS.mk r_b r_e)).b, .sc (.int .i64 (Jb 8 (RS.mk r_b r_e)).e)])] []) else none
theorem e83 (f : Nat) (y0 y1 : Bool) (r_b : List PV) (r_e : Int) (k : KR) : JI tau F83 Tryz.f83 (Tryz.f83.body.get!) JFb [.ro] 0 [.ptr 0 []] [.box false 197 (.st 197 [.ro 5 y0 y1 r_b, .sc (.int .i64 r_e)])] k = g83 f y0 y1 r_b r_e k := by kernel_rfl
theorem JPL (f : Nat) : ∀ q ∈ Jf (Tryz.f83.body.get!) JFb, q.Ok tau Tryz.prog 1 := Jv (by kernel_rfl)
theorem JKQ : Tryz.prog.funcs[83]? = some Tryz.f83 := by kernel_rfl
theorem JKR : Tryz.f83.body = some (Tryz.f83.body.get!) := by kernel_rfl
theorem JKS : Enters Tryz.prog 83 := enters_of JKQ (by kernel_rfl) JKR
def JuA : Jy
 | [.ptr 0 []], [.box false 197 (.st 197 [.ro 5 y0 y1 r_b, .sc (.int .i64 r_e)])], k => g83 0 y0 y1 r_b r_e k
 | _, _, _ => none
def s83 : Sig := { own := [], run := JuA }
theorem JKT : Jc tau Tryz.prog 83 s83 := JN Jn JFa Jo JKQ JKR JFb [.ro] 1 [] JuA (JPL 0) fun xs es k res hr => by
 unfold JuA at hr
 split at hr
 · exact ⟨rfl, 0, (e83 0 _ _ _ _  _).trans hr⟩
 · cases hr
def F84 : Fns := Jr 127 JpH (F0)
theorem JFc : Jp tau Tryz.prog F84 := (Js).add Jm4 JtN
def JFd : An := (.seq .leaf (.seq .leaf .leaf))
def g84 (f : Nat) (y0 y1 : Bool) (r_b : List PV) (r_e : Int) (k : KR) : OR := bif (!y0 || y1) && true && byB r_b then k (Res.mk (.sc (.int .i64 (Jz 1 (RS.mk r_b r_e)))) [.box false 197 (PV.st 197 [.ro 5 y0 y1 (Jb 1 (RS.mk r_b r_e)).b, .sc (.int .i64 (Jb 1 (RS.mk r_b r_e)).e)])] []) else none
theorem e84 (f : Nat) (y0 y1 : Bool) (r_b : List PV) (r_e : Int) (k : KR) : JI tau F84 Tryz.f84 (Tryz.f84.body.get!) JFd [.ro] 0 [.ptr 0 []] [.box false 197 (.st 197 [.ro 5 y0 y1 r_b, .sc (.int .i64 r_e)])] k = g84 f y0 y1 r_b r_e k := by kernel_rfl
theorem JPM (f : Nat) : ∀ q ∈ Jf (Tryz.f84.body.get!) JFd, q.Ok tau Tryz.prog 1 := Jv (by kernel_rfl)
theorem JKU : Tryz.prog.funcs[84]? = some Tryz.f84 := by kernel_rfl
theorem JKV : Tryz.f84.body = some (Tryz.f84.body.get!) := by kernel_rfl
theorem JKW : Enters Tryz.prog 84 := enters_of JKU (by kernel_rfl) JKV
def JuB : Jy
 | [.ptr 0 []], [.box false 197 (.st 197 [.ro 5 y0 y1 r_b, .sc (.int .i64 r_e)])], k => g84 0 y0 y1 r_b r_e k
 | _, _, _ => none
def s84 : Sig := { own := [], run := JuB }
theorem JKX : Jc tau Tryz.prog 84 s84 := JN Jn JFc Jo JKU JKV JFd [.ro] 1 [] JuB (JPM 0) fun xs es k res hr => by
 unfold JuB at hr
 split at hr
 · exact ⟨rfl, 0, (e84 0 _ _ _ _  _).trans hr⟩
 · cases hr
def F86 : Fns := F0
theorem JFe : Jp tau Tryz.prog F86 := Js
def JFf : An := (.seq .leaf (.seq (.seq .leaf (.cond (.seq .leaf .leaf) .leaf)) (.seq .leaf .leaf)))
def g86 (f : Nat) (y0 y1 : Bool) (r_b : List PV) (r_e : Int) (k : KR) : OR := bif r_e == 0 then bif decide (zi r_b.length > 0) then k (Res.mk (.sc (.int .i64 9)) [.box false 197 (PV.st 197 [.ro 5 y0 y1 r_b, .sc (.int .i64 r_e)])] []) else k (Res.mk (.sc (.int .i64 r_e)) [.box false 197 (PV.st 197 [.ro 5 y0 y1 r_b, .sc (.int .i64 r_e)])] []) else k (Res.mk (.sc (.int .i64 r_e)) [.box false 197 (PV.st 197 [.ro 5 y0 y1 r_b, .sc (.int .i64 r_e)])] [])
theorem e86 (f : Nat) (y0 y1 : Bool) (r_b : List PV) (r_e : Int) (k : KR) : JI tau F86 Tryz.f86 (Tryz.f86.body.get!) JFf [.ro] 0 [.ptr 0 []] [.box false 197 (.st 197 [.ro 5 y0 y1 r_b, .sc (.int .i64 r_e)])] k = g86 f y0 y1 r_b r_e k := by kernel_rfl
theorem JPN (f : Nat) : ∀ q ∈ Jf (Tryz.f86.body.get!) JFf, q.Ok tau Tryz.prog 1 := Jv (by kernel_rfl)
theorem JKY : Tryz.prog.funcs[86]? = some Tryz.f86 := by kernel_rfl
theorem JKZ : Tryz.f86.body = some (Tryz.f86.body.get!) := by kernel_rfl
theorem JK0 : Enters Tryz.prog 86 := enters_of JKY (by kernel_rfl) JKZ
def JuC : Jy
 | [.ptr 0 []], [.box false 197 (.st 197 [.ro 5 y0 y1 r_b, .sc (.int .i64 r_e)])], k => g86 0 y0 y1 r_b r_e k
 | _, _, _ => none
def s86 : Sig := { own := [], run := JuC }
theorem JK1 : Jc tau Tryz.prog 86 s86 := JN Jn JFe Jo JKY JKZ JFf [.ro] 1 [] JuC (JPN 0) fun xs es k res hr => by
 unfold JuC at hr
 split at hr
 · exact ⟨rfl, 0, (e86 0 _ _ _ _  _).trans hr⟩
 · cases hr
def JK2 : Fns := F0
theorem JyL : Jp tau Tryz.prog JK2 := Js
def JuD : An := (.seq .leaf (.seq (.seq .leaf (.cond (.seq .leaf .leaf) .leaf)) (.seq .leaf .leaf)))
def JK3 (f : Nat) (s_z s_f : Bool) (s : List PV) (k : KR) : OR := bif s_z then k (Res.mk (.ro 53 true true []) [] []) else bif Je (0 + s.length) 32 && true then k (Res.mk (.ro 53 false false (List.take (0 + s.length) s)) [] []) else none
theorem JPO (f : Nat) (s_z s_f : Bool) (s : List PV) (k : KR) : JI tau JK2 Tryz.f124 (Tryz.f124.body.get!) JuD [.ro] 0 [.ro 53 s_z s_f s] [] k = JK3 f s_z s_f s k := by kernel_rfl
theorem JK4 (f : Nat) : ∀ q ∈ Jf (Tryz.f124.body.get!) JuD, q.Ok tau Tryz.prog 0 := Jv (by kernel_rfl)
theorem JBO : Tryz.prog.funcs[124]? = some Tryz.f124 := by kernel_rfl
theorem JBP : Tryz.f124.body = some (Tryz.f124.body.get!) := by kernel_rfl
theorem JK5 : Enters Tryz.prog 124 := enters_of JBO (by kernel_rfl) JBP
def JnA : Jy
 | [.ro 53 s_z s_f s], [], k => JK3 0 s_z s_f s k
 | _, _, _ => none
def JK6 : Sig := { own := [], run := JnA }
theorem JK7 : Jc tau Tryz.prog 124 JK6 := JN Jn JyL Jo JBO JBP JuD [.ro] 0 [] JnA (JK4 0) fun xs es k res hr => by
 unfold JnA at hr
 split at hr
 · exact ⟨rfl, 0, (JPO 0 _ _ _  _).trans hr⟩
 · cases hr
def N87 : Nat := 50
def F87 : Fns := Jr 129 JD8 (Jr 124 JK6 (Jr 91 JxP (Jr 86 s86 (Jr 85 JEf (Jr 84 s84 (Jr 83 s83 (Jr 82 s82 (F0))))))))
theorem JuE : Jp tau Tryz.prog F87 := ((((((((Js).add JKP JKO).add JKT JKS).add JKX JKW).add JBm JJK).add JK1 JK0).add Jtq JDT).add JK7 JK5).add JBd JBc
def Jg4 : Code := Qd (Tryz.f87.body.get!) [1, 1, 1, 1, 1, 1, 0, 1, 0, 0]
def ZH : Nm := [(4, .any), (5, .any), (6, .any), (7, .any), (9, .own), (25, .any), (26, .any)]
def VF : Nm := [(4, .any), (9, .any)]
def JkW : An := (.seq .leaf (.seq (.cond .leaf .leaf) (.seq (.block none .leaf) .leaf)))
def JyM (r0 : Qt) : An := (.seq .leaf (.seq .leaf (.seq .leaf (.seq .leaf (.seq (.seq .leaf (.cond (.seq .leaf .leaf) .leaf)) (.seq .leaf (.seq (.seq .leaf (.block none (.sum ZH N87 r0))) (.seq .leaf (.seq (.seq .leaf (.cond .leaf .leaf)) (.seq (.seq .leaf (.cond (.seq .leaf .leaf) .leaf)) (.seq .leaf .leaf)))))))))))
def JbO (f : Nat) (rc : Nat -> Int -> Int -> Bool -> Bool -> List PV -> Int -> Bool -> List PV -> OR) (k0 : Nat -> Bool -> Bool -> List PV -> Int -> Bool -> List PV -> OR) (v0 : Nat) (v1 v2 : Int) (v3 v4 : Bool) (v5 : List PV) (v6 : Int) (v7 : Bool) (v8 : List PV) : OR := bif decide (v2 < v1) then bif (!v3 || v4) && true && byB v5 then bif (!v3 || v4) && true && byB (Jb 1 (RS.mk v5 v6)).b then bif (!v3 || v4) && byB (Jb 8 (Jb 1 (RS.mk v5 v6))).b then bif Je (v0 + 1) 32 && true then rc (v0 + 1) v1 (IntKind.i64.wrap (v2 + 1)) v3 v4 ((Qe (Jb 8 (Jb 1 (RS.mk v5 v6)))).b) ((Qe (Jb 8 (Jb 1 (RS.mk v5 v6)))).e) (v7 && false) (List.take v0 v8 ++ [.st 53 [.sc (.int .i64 (Jz 1 (RS.mk v5 v6))), .sc (.int .i64 (Jz 8 (Jb 1 (RS.mk v5 v6)))), .sc (.string (JT (Jb 8 (Jb 1 (RS.mk v5 v6)))))]]) else none else none else none else none else k0 v0 v3 v4 v5 v6 v7 v8
def YG (f : Nat) (k0 : Nat -> Bool -> Bool -> List PV -> Int -> Bool -> List PV -> OR) : Nat -> Nat -> Int -> Int -> Bool -> Bool -> List PV -> Int -> Bool -> List PV -> OR
 | 0, _, _, _, _, _, _, _, _, _ => none
 | n + 1, v0, v1, v2, v3, v4, v5, v6, v7, v8 => JbO f (YG f k0 n) k0 v0 v1 v2 v3 v4 v5 v6 v7 v8
theorem JyN (f : Nat) (k : Kont) (n v0 : Nat) (v1 v2 : Int) (v3 v4 : Bool) (v5 : List PV) (v6 : Int) (v7 : Bool) (v8 : List PV) : Jx tau 0 ZH (fun s k => ev tau F87 0 0 Jg4 (JkW ) s k) (n + 1) (Ji ZH N87 [.ptr 816 [], PV.fn (Fn.func 84) [.ptr 816 []] [], PV.fn (Fn.func 83) [.ptr 816 []] [], PV.fn (Fn.func 85) [.ptr 816 []] [], .ow 53 817 [] 0 v0 none, .sc (.int .i64 v1), .sc (.int .i64 v2)] [(816, .box false 197 (PV.st 197 [.ro 5 v3 v4 v5, .sc (.int .i64 v6)])), (817, .vec false 53 v7 v8)]) (JG tau 0 VF k) = JbO f (fun v0 v1 v2 v3 v4 v5 v6 v7 v8 => Jx tau 0 ZH (fun s k => ev tau F87 0 0 Jg4 (JkW ) s k) n (Ji ZH N87 [.ptr 816 [], PV.fn (Fn.func 84) [.ptr 816 []] [], PV.fn (Fn.func 83) [.ptr 816 []] [], PV.fn (Fn.func 85) [.ptr 816 []] [], .ow 53 817 [] 0 v0 none, .sc (.int .i64 v1), .sc (.int .i64 v2)] [(816, .box false 197 (PV.st 197 [.ro 5 v3 v4 v5, .sc (.int .i64 v6)])), (817, .vec false 53 v7 v8)]) (JG tau 0 VF k)) (fun x0 x1 x2 x3 x4 x5 x6 => k (Ex.exit 0) (Ji VF N87 [.ptr 816 [], .ow 53 817 [] 0 x0 none] [(816, .box false 197 (PV.st 197 [.ro 5 x1 x2 x3, .sc (.int .i64 x4)])), (817, .vec false 53 x5 x6)])) v0 v1 v2 v3 v4 v5 v6 v7 v8 := by kernel_rfl
theorem Jqa (f : Nat) (k : Kont) : ∀ (n v0 : Nat) (v1 v2 : Int) (v3 v4 : Bool) (v5 : List PV) (v6 : Int) (v7 : Bool) (v8 : List PV), Jx tau 0 ZH (fun s k => ev tau F87 0 0 Jg4 (JkW ) s k) n (Ji ZH N87 [.ptr 816 [], PV.fn (Fn.func 84) [.ptr 816 []] [], PV.fn (Fn.func 83) [.ptr 816 []] [], PV.fn (Fn.func 85) [.ptr 816 []] [], .ow 53 817 [] 0 v0 none, .sc (.int .i64 v1), .sc (.int .i64 v2)] [(816, .box false 197 (PV.st 197 [.ro 5 v3 v4 v5, .sc (.int .i64 v6)])), (817, .vec false 53 v7 v8)]) (JG tau 0 VF k) = YG f (fun x0 x1 x2 x3 x4 x5 x6 => k (Ex.exit 0) (Ji VF N87 [.ptr 816 [], .ow 53 817 [] 0 x0 none] [(816, .box false 197 (PV.st 197 [.ro 5 x1 x2 x3, .sc (.int .i64 x4)])), (817, .vec false 53 x5 x6)])) n v0 v1 v2 v3 v4 v5 v6 v7 v8 | 0, _, _, _, _, _, _, _, _, _ => rfl | n + 1, v0, v1, v2, v3, v4, v5, v6, v7, v8 => (JyN f k n v0 v1 v2 v3 v4 v5 v6 v7 v8).trans (congrArg (fun r => JbO f r (fun x0 x1 x2 x3 x4 x5 x6 => k (Ex.exit 0) (Ji VF N87 [.ptr 816 [], .ow 53 817 [] 0 x0 none] [(816, .box false 197 (PV.st 197 [.ro 5 x1 x2 x3, .sc (.int .i64 x4)])), (817, .vec false 53 x5 x6)])) v0 v1 v2 v3 v4 v5 v6 v7 v8) (by funext v0 v1 v2 v3 v4 v5 v6 v7 v8; exact Jqa f k n v0 v1 v2 v3 v4 v5 v6 v7 v8))
def Jfr (f : Nat) : List PV -> List (Nat × Ent) -> Kont -> OR
 | [.ptr 816 [], PV.fn (Fn.func 84) [.ptr 816 []] [], PV.fn (Fn.func 83) [.ptr 816 []] [], PV.fn (Fn.func 85) [.ptr 816 []] [], .ow 53 817 [] 0 v0 none, .sc (.int .i64 v1),
 PV.sc
  (Value.int IntKind.i64
   v2)], [(816, .box false 197 (PV.st 197 [.ro 5 v3 v4 v5, .sc (.int .i64 v6)])),
 (817,
  Ent.vec false 53 v7
   v8)], k => YG f (fun x0 x1 x2 x3 x4 x5 x6 => k (Ex.exit
 0) (Ji VF N87 [.ptr 816 [],
 PV.ow 53 817 [] 0 x0 none] [(816, .box false 197 (PV.st 197 [.ro 5 x1 x2 x3, .sc (.int .i64 x4)])), (817, .vec false 53 x5 x6)])) f v0 v1 v2 v3 v4 v5 v6 v7 v8
 | _, _, _ => none
theorem JFg (f : Nat) : Jf Jg4 JkW = [] := by kernel_rfl
theorem JFh (f : Nat) : (Item.l Jg4 ZH N87 (Jfr f)).Ok tau Tryz.prog 0 := Jt Jn JuE Jo (x := JkW) (nm2 := VF) (Jl _ _ (by rw [JFg f]; intro q hq; cases hq)) fun vs hp k res hr => by
 unfold Jfr at hr
 split at hr
 · exact ⟨f, 0, (Jqa f _ f _ _ _ _ _ _ _ _ _ ).trans hr⟩
 · cases hr
abbrev Xh := (Res.mk (PV.tup [PV.ro 53 true true [], PV.sc (.int .i64 0)]) [] [])
abbrev JiS := (Res.mk (PV.tup [PV.ro 53 true true [], PV.sc (.int .i64 9)]) [] [])
def g87 (f : Nat) (b_z b_f : Bool) (b : List PV) (k : KR) : OR := bif slB b_z b then bif (!b_z || b_z) && true && byB b then bif decide (Jz 1 (RS.mk b 0) > 40) then bif (Jb 1 (RS.mk b 0)).e == 0 then YG f (fun x0_0 _ _ JP x4_0 x5_0 x6_0 => bif x4_0 == 0 then bif decide (zi JP.length > 0) then k JiS else bif x4_0 == 0 then bif cOk (List.take x0_0 x6_0) then bif ckO (List.take x0_0 x6_0) != 0 then k (Res.mk (.tup [.ro 53 true true [], .sc (.int .i64 (ckO (List.take x0_0 x6_0)))]) [] []) else bif (Ent.vec false 53 x5_0 x6_0).nil then k Xh else bif Je (0 + (List.take x0_0 x6_0).length) 32 && true then k (Res.mk (.tup [.ro 53 false false (List.take (0 + (List.take x0_0 x6_0).length) (List.take x0_0 x6_0)), .sc (.int .i64 0)]) [] []) else none else none else bif x4_0 != 0 then k (Res.mk (.tup [.ro 53 true true [], .sc (.int .i64 x4_0)]) [] []) else bif (Ent.vec false 53 x5_0 x6_0).nil then k Xh else bif Je (0 + (List.take x0_0 x6_0).length) 32 && true then k (Res.mk (.tup [.ro 53 false false (List.take (0 + (List.take x0_0 x6_0).length) (List.take x0_0 x6_0)), .sc (.int .i64 0)]) [] []) else none else bif x4_0 == 0 then bif cOk (List.take x0_0 x6_0) then bif ckO (List.take x0_0 x6_0) != 0 then k (Res.mk (.tup [.ro 53 true true [], .sc (.int .i64 (ckO (List.take x0_0 x6_0)))]) [] []) else bif (Ent.vec false 53 x5_0 x6_0).nil then k Xh else bif Je (0 + (List.take x0_0 x6_0).length) 32 && true then k (Res.mk (.tup [.ro 53 false false (List.take (0 + (List.take x0_0 x6_0).length) (List.take x0_0 x6_0)), .sc (.int .i64 0)]) [] []) else none else none else bif x4_0 != 0 then k (Res.mk (.tup [.ro 53 true true [], .sc (.int .i64 x4_0)]) [] []) else bif (Ent.vec false 53 x5_0 x6_0).nil then k Xh else bif Je (0 + (List.take x0_0 x6_0).length) 32 && true then k (Res.mk (.tup [.ro 53 false false (List.take (0 + (List.take x0_0 x6_0).length) (List.take x0_0 x6_0)), .sc (.int .i64 0)]) [] []) else none) f (0) (0) (0) b_z b_z ((Jb 1 (RS.mk b 0)).b) (4) true ([]) else YG f (fun x0_1 _ _ Jf9 x4_1 x5_1 x6_1 => bif x4_1 == 0 then bif decide (zi Jf9.length > 0) then k JiS else bif x4_1 == 0 then bif cOk (List.take x0_1 x6_1) then bif ckO (List.take x0_1 x6_1) != 0 then k (Res.mk (.tup [.ro 53 true true [], .sc (.int .i64 (ckO (List.take x0_1 x6_1)))]) [] []) else bif (Ent.vec false 53 x5_1 x6_1).nil then k Xh else bif Je (0 + (List.take x0_1 x6_1).length) 32 && true then k (Res.mk (.tup [.ro 53 false false (List.take (0 + (List.take x0_1 x6_1).length) (List.take x0_1 x6_1)), .sc (.int .i64 0)]) [] []) else none else none else bif x4_1 != 0 then k (Res.mk (.tup [.ro 53 true true [], .sc (.int .i64 x4_1)]) [] []) else bif (Ent.vec false 53 x5_1 x6_1).nil then k Xh else bif Je (0 + (List.take x0_1 x6_1).length) 32 && true then k (Res.mk (.tup [.ro 53 false false (List.take (0 + (List.take x0_1 x6_1).length) (List.take x0_1 x6_1)), .sc (.int .i64 0)]) [] []) else none else bif x4_1 == 0 then bif cOk (List.take x0_1 x6_1) then bif ckO (List.take x0_1 x6_1) != 0 then k (Res.mk (.tup [.ro 53 true true [], .sc (.int .i64 (ckO (List.take x0_1 x6_1)))]) [] []) else bif (Ent.vec false 53 x5_1 x6_1).nil then k Xh else bif Je (0 + (List.take x0_1 x6_1).length) 32 && true then k (Res.mk (.tup [.ro 53 false false (List.take (0 + (List.take x0_1 x6_1).length) (List.take x0_1 x6_1)), .sc (.int .i64 0)]) [] []) else none else none else bif x4_1 != 0 then k (Res.mk (.tup [.ro 53 true true [], .sc (.int .i64 x4_1)]) [] []) else bif (Ent.vec false 53 x5_1 x6_1).nil then k Xh else bif Je (0 + (List.take x0_1 x6_1).length) 32 && true then k (Res.mk (.tup [.ro 53 false false (List.take (0 + (List.take x0_1 x6_1).length) (List.take x0_1 x6_1)), .sc (.int .i64 0)]) [] []) else none) f (0) (0) (0) b_z b_z ((Jb 1 (RS.mk b 0)).b) ((Jb 1 (RS.mk b 0)).e) true ([]) else YG f (fun x0_2 _ _ JjI x4_2 x5_2 x6_2 => bif x4_2 == 0 then bif decide (zi JjI.length > 0) then k JiS else bif x4_2 == 0 then bif cOk (List.take x0_2 x6_2) then bif ckO (List.take x0_2 x6_2) != 0 then k (Res.mk (.tup [.ro 53 true true [], .sc (.int .i64 (ckO (List.take x0_2 x6_2)))]) [] []) else bif (Ent.vec false 53 x5_2 x6_2).nil then k Xh else bif Je (0 + (List.take x0_2 x6_2).length) 32 && true then k (Res.mk (.tup [.ro 53 false false (List.take (0 + (List.take x0_2 x6_2).length) (List.take x0_2 x6_2)), .sc (.int .i64 0)]) [] []) else none else none else bif x4_2 != 0 then k (Res.mk (.tup [.ro 53 true true [], .sc (.int .i64 x4_2)]) [] []) else bif (Ent.vec false 53 x5_2 x6_2).nil then k Xh else bif Je (0 + (List.take x0_2 x6_2).length) 32 && true then k (Res.mk (.tup [.ro 53 false false (List.take (0 + (List.take x0_2 x6_2).length) (List.take x0_2 x6_2)), .sc (.int .i64 0)]) [] []) else none else bif x4_2 == 0 then bif cOk (List.take x0_2 x6_2) then bif ckO (List.take x0_2 x6_2) != 0 then k (Res.mk (.tup [.ro 53 true true [], .sc (.int .i64 (ckO (List.take x0_2 x6_2)))]) [] []) else bif (Ent.vec false 53 x5_2 x6_2).nil then k Xh else bif Je (0 + (List.take x0_2 x6_2).length) 32 && true then k (Res.mk (.tup [.ro 53 false false (List.take (0 + (List.take x0_2 x6_2).length) (List.take x0_2 x6_2)), .sc (.int .i64 0)]) [] []) else none else none else bif x4_2 != 0 then k (Res.mk (.tup [.ro 53 true true [], .sc (.int .i64 x4_2)]) [] []) else bif (Ent.vec false 53 x5_2 x6_2).nil then k Xh else bif Je (0 + (List.take x0_2 x6_2).length) 32 && true then k (Res.mk (.tup [.ro 53 false false (List.take (0 + (List.take x0_2 x6_2).length) (List.take x0_2 x6_2)), .sc (.int .i64 0)]) [] []) else none) f (0) (Jz 1 (RS.mk b 0)) (0) b_z b_z ((Jb 1 (RS.mk b 0)).b) ((Jb 1 (RS.mk b 0)).e) true ([]) else none else none
theorem e87 (f : Nat) (b_z b_f : Bool) (b : List PV) (k : KR) : JI tau F87 Tryz.f87 (Tryz.f87.body.get!) (JyM (Jfr f)) [.ro, .ro] 0 [.ro 5 b_z b_f b] [] k = g87 f b_z b_f b k := by kernel_rfl
theorem JPP (f : Nat) : Jf (Tryz.f87.body.get!) (JyM (Jfr f)) = [.l Jg4 ZH N87 (Jfr f)] := by kernel_rfl
theorem JPQ (f : Nat) : ∀ q ∈ Jf (Tryz.f87.body.get!) (JyM (Jfr f)), q.Ok tau Tryz.prog 0 := by rw [JPP f]; exact JJ (JFh f) (fun _ h => nomatch h)
theorem JK8 : Tryz.prog.funcs[87]? = some Tryz.f87 := by kernel_rfl
theorem JK9 : Tryz.f87.body = some (Tryz.f87.body.get!) := by kernel_rfl
theorem JPR : Enters Tryz.prog 87 := enters_of JK8 (by kernel_rfl) JK9
def JLa : Fns := F0
theorem JyO : Jp tau Tryz.prog JLa := Js
def JuF : An := (.seq .leaf (.seq .leaf .leaf))
def JLb (f : Nat) (b_z b_f : Bool) (b : List PV) (k : KR) : OR := k (Res.mk (.ptr 16 []) [] [.box false 210 (PV.st 210 [.ro 5 b_z b_f b, .sc (.int .i64 0), .sc (.int .i64 0)])])
theorem JPS (f : Nat) (b_z b_f : Bool) (b : List PV) (k : KR) : JI tau JLa Tryz.f101 (Tryz.f101.body.get!) JuF [.any] 0 [.ro 5 b_z b_f b] [] k = JLb f b_z b_f b k := by kernel_rfl
theorem JLc (f : Nat) : ∀ q ∈ Jf (Tryz.f101.body.get!) JuF, q.Ok tau Tryz.prog 0 := Jv (by kernel_rfl)
theorem JBQ : Tryz.prog.funcs[101]? = some Tryz.f101 := by kernel_rfl
theorem JBR : Tryz.f101.body = some (Tryz.f101.body.get!) := by kernel_rfl
theorem JBS : Enters Tryz.prog 101 := enters_of JBQ (by kernel_rfl) JBR
def JnB : Jy
 | [.ro 5 b_z b_f b], [], k => JLb 0 b_z b_f b k
 | _, _, _ => none
def JFi : Sig := { own := [], run := JnB }
theorem JBT : Jc tau Tryz.prog 101 JFi := JN Jn JyO Jo JBQ JBR JuF [.any] 0 [] JnB (JLc 0) fun xs es k res hr => by
 unfold JnB at hr
 split at hr
 · exact ⟨rfl, 0, (JPS 0 _ _ _  _).trans hr⟩
 · cases hr
def JLd : Fns := F0
theorem JyP : Jp tau Tryz.prog JLd := Js
def JuG : An := (.seq .leaf (.seq (.seq .leaf (.cond (.seq .leaf .leaf) .leaf)) (.seq .leaf .leaf)))
def JLe (f : Nat) (y0 y1 : Bool) (r_B : List PV) (r_P y2 : Int) (k : KR) : OR := bif y2 == 0 then bif decide (r_P < zi r_B.length) then k (Res.mk (.sc (.int .i64 9)) [.box false 210 (PV.st 210 [.ro 5 y0 y1 r_B, .sc (.int .i64 r_P), .sc (.int .i64 y2)])] []) else k (Res.mk (.sc (.int .i64 y2)) [.box false 210 (PV.st 210 [.ro 5 y0 y1 r_B, .sc (.int .i64 r_P), .sc (.int .i64 y2)])] []) else k (Res.mk (.sc (.int .i64 y2)) [.box false 210 (PV.st 210 [.ro 5 y0 y1 r_B, .sc (.int .i64 r_P), .sc (.int .i64 y2)])] [])
theorem JPT (f : Nat) (y0 y1 : Bool) (r_B : List PV) (r_P y2 : Int) (k : KR) : JI tau JLd Tryz.f107 (Tryz.f107.body.get!) JuG [.ro] 0 [.ptr 0 []] [.box false 210 (.st 210 [.ro 5 y0 y1 r_B, .sc (.int .i64 r_P), .sc (.int .i64 y2)])] k = JLe f y0 y1 r_B r_P y2 k := by kernel_rfl
theorem JLf (f : Nat) : ∀ q ∈ Jf (Tryz.f107.body.get!) JuG, q.Ok tau Tryz.prog 1 := Jv (by kernel_rfl)
theorem JBU : Tryz.prog.funcs[107]? = some Tryz.f107 := by kernel_rfl
theorem JBV : Tryz.f107.body = some (Tryz.f107.body.get!) := by kernel_rfl
theorem JBW : Enters Tryz.prog 107 := enters_of JBU (by kernel_rfl) JBV
def JnC : Jy
 | [.ptr 0 []], [.box false 210 (.st 210 [.ro 5 y0 y1 r_B, .sc (.int .i64 r_P), .sc (.int .i64 y2)])], k => JLe 0 y0 y1 r_B r_P y2 k
 | _, _, _ => none
def JFj : Sig := { own := [], run := JnC }
theorem JBX : Jc tau Tryz.prog 107 JFj := JN Jn JyP Jo JBU JBV JuG [.ro] 1 [] JnC (JLf 0) fun xs es k res hr => by
 unfold JnC at hr
 split at hr
 · exact ⟨rfl, 0, (JPT 0 _ _ _ _ _  _).trans hr⟩
 · cases hr
def JLg : Fns := F0
theorem JyQ : Jp tau Tryz.prog JLg := Js
def JuH : An := (.seq .leaf (.cond .leaf .leaf))
def JLh (f : Nat) (y0 y1 : Bool) (r_B : List PV) (r_P y2 e : Int) (k : KR) : OR := bif y2 == 0 then k (Res.mk (.tup []) [.box false 210 (PV.st 210 [.ro 5 y0 y1 r_B, .sc (.int .i64 r_P), .sc (.int .i64 e)])] []) else k (Res.mk (.tup []) [.box false 210 (PV.st 210 [.ro 5 y0 y1 r_B, .sc (.int .i64 r_P), .sc (.int .i64 y2)])] [])
theorem JPU (f : Nat) (y0 y1 : Bool) (r_B : List PV) (r_P y2 e : Int) (k : KR) : JI tau JLg Tryz.f145 (Tryz.f145.body.get!) JuH [] 0 [.ptr 0 [], .sc (.int .i64 e)] [.box false 210 (.st 210 [.ro 5 y0 y1 r_B, .sc (.int .i64 r_P), .sc (.int .i64 y2)])] k = JLh f y0 y1 r_B r_P y2 e k := by kernel_rfl
theorem JLi (f : Nat) : ∀ q ∈ Jf (Tryz.f145.body.get!) JuH, q.Ok tau Tryz.prog 1 := Jv (by kernel_rfl)
theorem JBY : Tryz.prog.funcs[145]? = some Tryz.f145 := by kernel_rfl
theorem JBZ : Tryz.f145.body = some (Tryz.f145.body.get!) := by kernel_rfl
theorem JLj : Enters Tryz.prog 145 := enters_of JBY (by kernel_rfl) JBZ
def JnD : Jy
 | [.ptr 0 [], .sc (.int .i64 e)], [.box false 210 (.st 210 [.ro 5 y0 y1 r_B, .sc (.int .i64 r_P), .sc (.int .i64 y2)])], k => JLh 0 y0 y1 r_B r_P y2 e k
 | _, _, _ => none
def JLk : Sig := { own := [], run := JnD }
theorem JLl : Jc tau Tryz.prog 145 JLk := JN Jn JyQ Jo JBY JBZ JuH [] 1 [] JnD (JLi 0) fun xs es k res hr => by
 unfold JnD at hr
 split at hr
 · exact ⟨rfl, 0, (JPU 0 _ _ _ _ _ _  _).trans hr⟩
 · cases hr
def JuI : Nat := 53
def JFk : Fns := Jr 145 JLk (Jr 107 JFj (Jr 106 JtR (Jr 105 JpJ (Jr 103 JpI (Jr 101 JFi (Jr 56 JxQ (F0)))))))
theorem Jqb : Jp tau Tryz.prog JFk := (((((((Js).add Jtr JDW).add JBT JBS).add Jm5 JtD).add Jm6 JtF).add JtS JA9).add JBX JBW).add JLl JLj
def JiT : Code := Qd (Tryz.f108.body.get!) [1, 1, 1, 1, 1, 0, 1, 0, 0]
def JbP : Nm := [(4, .any), (5, .any), (6, .own), (7, .any)]
def JiU : Nm := [(4, .any), (6, .any)]
def JnE : An := (.seq (.seq .leaf (.cond .leaf .leaf)) (.seq (.block none (.seq .leaf (.seq .leaf (.seq .leaf .leaf)))) .leaf))
def Jqc (r0 : Qt) : An := (.seq .leaf (.seq .leaf (.seq .leaf (.seq (.seq .leaf (.cond .leaf .leaf)) (.seq .leaf (.seq (.seq .leaf (.block none (.sum JbP JuI r0))) (.seq .leaf (.seq (.seq .leaf (.cond .leaf .leaf)) (.seq (.seq .leaf (.cond (.seq .leaf .leaf) .leaf)) (.seq .leaf .leaf))))))))))
abbrev JyR := Bool -> Bool -> List PV -> Int -> Int -> Bool -> List PV -> OR) : Nat -> Int -> Nat -> Int -> Bool -> Bool -> List PV -> Int -> Int -> Bool -> List PV -> OR
def Y0 (f : Nat) (rc : Int -> Nat -> Int -> Bool -> Bool -> List PV -> Int -> Int -> Bool -> List PV -> OR) (k0 : Nat -> Bool -> Bool -> List PV -> Int -> Int -> Bool -> List PV -> OR) (v0 : Int) (v1 : Nat) (v2 : Int) (v3 v4 : Bool) (v5 : List PV) (v6 v7 : Int) (v8 : Bool) (v9 : List PV) : OR := bif decide (v2 < v0) then bif v7 == 0 then bif okT (RT.mk v5 v6 v7) then bif okT (Jh 1 (RT.mk v5 v6 v7)) then bif okT (Jh 8 (Jh 1 (RT.mk v5 v6 v7))) then bif Je (v1 + 1) 32 && true then rc v0 (v1 + 1) (IntKind.i64.wrap (v2 + 1)) v3 v4 ((Q0 (Jh 8 (Jh 1 (RT.mk v5 v6 v7)))).B) ((Q0 (Jh 8 (Jh 1 (RT.mk v5 v6 v7)))).P) ((Q0 (Jh 8 (Jh 1 (RT.mk v5 v6 v7)))).e) (v8 && false) (List.take v1 v9 ++ [.st 53 [.sc (.int .i64 (Qk 1 (RT.mk v5 v6 v7))), .sc (.int .i64 (Qk 8 (Jh 1 (RT.mk v5 v6 v7)))), .sc (.string (X4 (Jh 8 (Jh 1 (RT.mk v5 v6 v7)))))]]) else none else none else none else none else k0 v1 v3 v4 v5 v6 v7 v8 v9 else k0 v1 v3 v4 v5 v6 v7 v8 v9
def WO (f : Nat) (k0 : Nat -> JyR
 | 0 => fun _ _ _ _ _ _ _ _ _ _ => none
 | n + 1 => Y0 f (WO f k0 n) k0
def Gb (k : Kont) := fun x0 x1 x2 x3 x4 x5 x6 x7 => k (Ex.exit 0) (Ji JiU JuI [.ptr 864 [], .ow 53 865 [] 0 x0 none] [(864, .box false 210 (PV.st 210 [.ro 5 x1 x2 x3, .sc (.int .i64 x4), .sc (.int .i64 x5)])), (865, .vec false 53 x6 x7)])
def JiV (f : Nat) (k : Kont) (n : Nat) (v0 : Int) (v1 : Nat) (v2 : Int) (v3 v4 : Bool) (v5 : List PV) (v6 v7 : Int) (v8 : Bool) (v9 : List PV) : OR := Jx tau 0 JbP (fun s k => ev tau JFk 0 0 JiT (JnE ) s k) n (Ji JbP JuI [.ptr 864 [], .sc (.int .i64 v0), .ow 53 865 [] 0 v1 none, .sc (.int .i64 v2)] [(864, .box false 210 (PV.st 210 [.ro 5 v3 v4 v5, .sc (.int .i64 v6), .sc (.int .i64 v7)])), (865, .vec false 53 v8 v9)]) (JG tau 0 JiU k)
theorem JuJ (f : Nat) (k : Kont) (n : Nat) : JiV f k (n + 1) = Y0 f (JiV f k n) (Gb k) := by kernel_rfl
theorem JkX (f : Nat) (k : Kont) : ∀ n, JiV f k n = WO f (Gb k) n
 | 0 => rfl
 | n + 1 => (JuJ f k n).trans (congrArg (fun r => Y0 f r (Gb k)) (JkX f k n))
def G9 (f : Nat) : List PV -> List (Nat × Ent) -> Kont -> OR
 | [.ptr 864 [], .sc (.int .i64 v0), .ow 53 865 [] 0 v1 none,
 PV.sc
  (Value.int IntKind.i64
   v2)], [(864, .box false 210 (PV.st 210 [.ro 5 v3 v4 v5, .sc (.int .i64 v6), .sc (.int .i64 v7)])),
 (865,
  Ent.vec false 53 v8
   v9)], k => WO f (Gb k) f v0 v1 v2 v3 v4 v5 v6 v7 v8 v9
 | _, _, _ => none
theorem JyS (f : Nat) : Jf JiT JnE = [] := by kernel_rfl
theorem JyT (f : Nat) : (Item.l JiT JbP JuI (G9 f)).Ok tau Tryz.prog 0 := Jt Jn Jqb Jo (x := JnE) (nm2 := JiU) (Jl _ _ (by rw [JyS f]; intro q hq; cases hq)) fun vs hp k res hr => by
 unfold G9 at hr
 split at hr
 · rw [← JkX f] at hr; exact ⟨f, 0, hr⟩
 · cases hr
abbrev Jd1 := (Res.mk (PV.tup [PV.ro 53 true true [], PV.sc (.int .i64 9)]) [] [])
def JFl (f : Nat) (b_z b_f : Bool) (b : List PV) (k : KR) : OR := bif okT (RT.mk b 0 0) then bif decide (Qk 1 (RT.mk b 0 0) > 40) then bif (Jh 1 (RT.mk b 0 0)).e == 0 then WO f (fun x0_0 _ _ JP x4_0 x5_0 x6_0 x7_0 => bif x5_0 == 0 then bif decide (x4_0 < zi JP.length) then k Jd1 else bif x5_0 == 0 then bif cOk (List.take x0_0 x7_0) then bif ckO (List.take x0_0 x7_0) != 0 then k (Res.mk (.tup [.ro 53 true true [], .sc (.int .i64 (ckO (List.take x0_0 x7_0)))]) [] []) else k (Res.mk (.tup [.ro 53 (Ent.vec false 53 x6_0 x7_0).nil false (List.take x0_0 x7_0), .sc (.int .i64 0)]) [] []) else none else bif x5_0 != 0 then k (Res.mk (.tup [.ro 53 true true [], .sc (.int .i64 x5_0)]) [] []) else k (Res.mk (.tup [.ro 53 (Ent.vec false 53 x6_0 x7_0).nil false (List.take x0_0 x7_0), .sc (.int .i64 0)]) [] []) else bif x5_0 == 0 then bif cOk (List.take x0_0 x7_0) then bif ckO (List.take x0_0 x7_0) != 0 then k (Res.mk (.tup [.ro 53 true true [], .sc (.int .i64 (ckO (List.take x0_0 x7_0)))]) [] []) else k (Res.mk (.tup [.ro 53 (Ent.vec false 53 x6_0 x7_0).nil false (List.take x0_0 x7_0), .sc (.int .i64 0)]) [] []) else none else bif x5_0 != 0 then k (Res.mk (.tup [.ro 53 true true [], .sc (.int .i64 x5_0)]) [] []) else k (Res.mk (.tup [.ro 53 (Ent.vec false 53 x6_0 x7_0).nil false (List.take x0_0 x7_0), .sc (.int .i64 0)]) [] [])) f (Qk 1 (RT.mk b 0 0)) (0) (0) b_z b_f ((Jh 1 (RT.mk b 0 0)).B) ((Jh 1 (RT.mk b 0 0)).P) (4) true ([]) else WO f (fun x0_1 _ _ Jf9 x4_1 x5_1 x6_1 x7_1 => bif x5_1 == 0 then bif decide (x4_1 < zi Jf9.length) then k Jd1 else bif x5_1 == 0 then bif cOk (List.take x0_1 x7_1) then bif ckO (List.take x0_1 x7_1) != 0 then k (Res.mk (.tup [.ro 53 true true [], .sc (.int .i64 (ckO (List.take x0_1 x7_1)))]) [] []) else k (Res.mk (.tup [.ro 53 (Ent.vec false 53 x6_1 x7_1).nil false (List.take x0_1 x7_1), .sc (.int .i64 0)]) [] []) else none else bif x5_1 != 0 then k (Res.mk (.tup [.ro 53 true true [], .sc (.int .i64 x5_1)]) [] []) else k (Res.mk (.tup [.ro 53 (Ent.vec false 53 x6_1 x7_1).nil false (List.take x0_1 x7_1), .sc (.int .i64 0)]) [] []) else bif x5_1 == 0 then bif cOk (List.take x0_1 x7_1) then bif ckO (List.take x0_1 x7_1) != 0 then k (Res.mk (.tup [.ro 53 true true [], .sc (.int .i64 (ckO (List.take x0_1 x7_1)))]) [] []) else k (Res.mk (.tup [.ro 53 (Ent.vec false 53 x6_1 x7_1).nil false (List.take x0_1 x7_1), .sc (.int .i64 0)]) [] []) else none else bif x5_1 != 0 then k (Res.mk (.tup [.ro 53 true true [], .sc (.int .i64 x5_1)]) [] []) else k (Res.mk (.tup [.ro 53 (Ent.vec false 53 x6_1 x7_1).nil false (List.take x0_1 x7_1), .sc (.int .i64 0)]) [] [])) f (Qk 1 (RT.mk b 0 0)) (0) (0) b_z b_f ((Jh 1 (RT.mk b 0 0)).B) ((Jh 1 (RT.mk b 0 0)).P) ((Jh 1 (RT.mk b 0 0)).e) true ([]) else WO f (fun x0_2 _ _ JjI x4_2 x5_2 x6_2 x7_2 => bif x5_2 == 0 then bif decide (x4_2 < zi JjI.length) then k Jd1 else bif x5_2 == 0 then bif cOk (List.take x0_2 x7_2) then bif ckO (List.take x0_2 x7_2) != 0 then k (Res.mk (.tup [.ro 53 true true [], .sc (.int .i64 (ckO (List.take x0_2 x7_2)))]) [] []) else k (Res.mk (.tup [.ro 53 (Ent.vec false 53 x6_2 x7_2).nil false (List.take x0_2 x7_2), .sc (.int .i64 0)]) [] []) else none else bif x5_2 != 0 then k (Res.mk (.tup [.ro 53 true true [], .sc (.int .i64 x5_2)]) [] []) else k (Res.mk (.tup [.ro 53 (Ent.vec false 53 x6_2 x7_2).nil false (List.take x0_2 x7_2), .sc (.int .i64 0)]) [] []) else bif x5_2 == 0 then bif cOk (List.take x0_2 x7_2) then bif ckO (List.take x0_2 x7_2) != 0 then k (Res.mk (.tup [.ro 53 true true [], .sc (.int .i64 (ckO (List.take x0_2 x7_2)))]) [] []) else k (Res.mk (.tup [.ro 53 (Ent.vec false 53 x6_2 x7_2).nil false (List.take x0_2 x7_2), .sc (.int .i64 0)]) [] []) else none else bif x5_2 != 0 then k (Res.mk (.tup [.ro 53 true true [], .sc (.int .i64 x5_2)]) [] []) else k (Res.mk (.tup [.ro 53 (Ent.vec false 53 x6_2 x7_2).nil false (List.take x0_2 x7_2), .sc (.int .i64 0)]) [] [])) f (Qk 1 (RT.mk b 0 0)) (0) (0) b_z b_f ((Jh 1 (RT.mk b 0 0)).B) ((Jh 1 (RT.mk b 0 0)).P) ((Jh 1 (RT.mk b 0 0)).e) true ([]) else none
theorem JPV (f : Nat) (b_z b_f : Bool) (b : List PV) (k : KR) : JI tau JFk Tryz.f108 (Tryz.f108.body.get!) (Jqc (G9 f)) [.ro, .ro] 0 [.ro 5 b_z b_f b] [] k = JFl f b_z b_f b k := by kernel_rfl
theorem JLm (f : Nat) : Jf (Tryz.f108.body.get!) (Jqc (G9 f)) = [.l JiT JbP JuI (G9 f)] := by kernel_rfl
theorem JLn (f : Nat) : ∀ q ∈ Jf (Tryz.f108.body.get!) (Jqc (G9 f)), q.Ok tau Tryz.prog 0 := by rw [JLm f]; exact JJ (JyT f) (fun _ h => nomatch h)
theorem JB0 : Tryz.prog.funcs[108]? = some Tryz.f108 := by kernel_rfl
theorem JB1 : Tryz.f108.body = some (Tryz.f108.body.get!) := by kernel_rfl
theorem JLo : Enters Tryz.prog 108 := enters_of JB0 (by kernel_rfl) JB1
def cpN (s : RS) : RS := Qe (Jb 8 (Jb 1 s))
def cpV (s : RS) : PV := .st 53 [.sc (.int .i64 (Jz 1 s)), .sc (.int .i64 (Jz 8 (Jb 1 s))), .sc (.string (JT (Jb 8 (Jb 1 s))))]
def cpR : Nat -> RS -> RS
 | 0, s => s
 | n + 1, s => cpR n (cpN s)
def cpL : Nat -> RS -> List PV
 | 0, _ => []
 | n + 1, s => cpV s :: cpL n (cpN s)
theorem Jaa : ∀ (n : Nat) (s : RS), (cpL n s).length = n
 | 0, _ => rfl
 | n + 1, s => by rw [cpL, List.length_cons, Jaa n]
theorem JuK : ∀ (n : Nat) (s : RS), (cpL n s).all isCp = true
 | 0, _ => rfl
 | n + 1, s => by rw [cpL, List.all_cons, JuK n, Bool.and_true]; exact Je9.2 ⟨_, _, _, rfl⟩
theorem JyU {s : RS} (h : byB s.b = true) : byB (cpN s).b = true := JpP (Qj (Qj h 1) 8)
def opN (b : List PV) : Nat := bif decide (Jz 1 ⟨b, 0⟩ > 40) then 0 else (Jz 1 ⟨b, 0⟩).toNat
def opS (b : List PV) : RS := bif decide (Jz 1 ⟨b, 0⟩ > 40) then Vt 4 (Jb 1 ⟨b, 0⟩) else Jb 1 ⟨b, 0⟩
def ZI (b : List PV) : Int := bif (cpR (opN b) (opS b)).e == 0 then (bif decide ((cpR (opN b) (opS b)).b.length > 0) then 9 else ckO (cpL (opN b) (opS b))) else (cpR (opN b) (opS b)).e
def opE : List PV -> Int := hid ZI
def opL : List PV -> List PV := hid fun b => bif ZI b == 0 then cpL (opN b) (opS b) else []
def opF : List PV -> Bool := hid fun b => !(ZI b == 0)
theorem Jfs (b : List PV) : opE b = ZI b := by rw [opE, hid_eq]
theorem Jft (b : List PV) : opL b = bif ZI b == 0 then cpL (opN b) (opS b) else [] := by rw [opL, hid_eq]
theorem JnF (b : List PV) : opF b = !(ZI b == 0) := by rw [opF, hid_eq]
def WW (e : Int) : PV := .tup [.ro 53 true true [], .sc (.int .i64 e)]
def opP (b : List PV) : PV := .tup [.ro 53 (opL b).isEmpty (opL b).isEmpty (opL b), .sc (.int .i64 (opE b))]
def opQ (b : List PV) : PV := .tup [.ro 53 (opL b).isEmpty (opF b) (opL b), .sc (.int .i64 (opE b))]
theorem JiW {b : List PV} {e : Int} (h : ZI b = e) (h0 : (e == 0) = false) : opP b = WW e := by
 simp only [opP, WW, Jft, Jfs, h, h0, cond_false, List.isEmpty_nil]
theorem JiX {b : List PV} {e : Int} (h : ZI b = e) (h0 : (e == 0) = false) : opQ b = WW e := by
 simp only [opQ, WW, Jft, Jfs, JnF, h, h0, cond_false, List.isEmpty_nil, Bool.not_false]
theorem JFm {b : List PV} (h : ZI b = 0) : opP b = .tup [.ro 53 (cpL (opN b) (opS b)).isEmpty (cpL (opN b) (opS b)).isEmpty (cpL (opN b) (opS b)), .sc (.int .i64 0)] := by
 simp only [opP, Jft, Jfs, h, beq_self_eq_true, cond_true]
theorem JFn {b : List PV} (h : ZI b = 0) : opQ b = .tup [.ro 53 (cpL (opN b) (opS b)).isEmpty false (cpL (opN b) (opS b)), .sc (.int .i64 0)] := by
 simp only [opQ, Jft, Jfs, JnF, h, beq_self_eq_true, cond_true, Bool.not_true]
theorem JnG {b : List PV} (h : byB b = true) : opN b <= 40 := by
 unfold opN
 have h0 : 0 <= Jz 1 ⟨b, 0⟩ := by rw [Zl]; exact (X3 (s := ⟨b, 0⟩) h (n := 1) (by omega)).1
 cases hc : decide (Jz 1 ⟨b, 0⟩ > 40) with
 | true => exact Nat.zero_le _
 | false =>
  have : ¬ Jz 1 ⟨b, 0⟩ > 40 := by simpa using hc
  rw [cond_false]; omega
theorem JyV {b : List PV} (h : byB b = true) : byB (opS b).b = true := by
 have := Qj (s := ⟨b, 0⟩) h 1
 unfold opS Vt
 cases decide (Jz 1 ⟨b, 0⟩ > 40) <;> exact this
theorem JiY {n : Nat} (h : n <= 40) (s : RS) : cOk (cpL n s) = true := Wh.2 ⟨JuK n s, by rw [Jaa]; omega⟩
theorem JB2 (f : Nat) (k0 : Nat -> Bool -> Bool -> List PV -> Int -> Bool -> List PV -> OR) (z fl : Bool) (hz : (!z || fl) = true) (N : Nat) (hN : N <= 40) : ∀ (d i n : Nat) (s : RS) (nl : Bool) (L : List PV), i + d = N -> d < n -> byB s.b = true -> L.length = i ->
  YG f k0 n L.length (N : Int) (i : Int) z fl s.b s.e nl L = k0 (L ++ cpL d s).length z fl (cpR d s).b (cpR d s).e (nl && (cpL d s).isEmpty) (L ++ cpL d s)
 | 0, i, n + 1, s, nl, L, h, hn, hb, hL => by
   obtain rfl : i = N := by omega
   simp only [YG, JbO, cpR, cpL, List.append_nil, List.isEmpty_nil, Bool.and_true]
   exact Jd (by simp)
 | d + 1, i, n + 1, s, nl, L, h, hn, hb, hL => by
   have w := wI (i := i) (by omega)
   have hm : RS.mk s.b s.e = s := rfl
   have hn1 : Qe (Jb 8 (Jb 1 s)) = cpN s := rfl
   have hv1 : PV.st 53 [.sc (.int .i64 (Jz 1 s)), .sc (.int .i64 (Jz 8 (Jb 1 s))), .sc (.string (JT (Jb 8 (Jb 1 s))))] = cpV s := rfl
   simp only [YG, JbO, w, hm, hn1, hv1, List.take_length]
   refine (Ja (by simp; omega)).trans ((Ja (by rw [hb, hz]; rfl)).trans ((Ja (by rw [Qj hb 1, hz]; rfl)).trans ((Ja (by rw [Qj (Qj hb 1) 8, hz]; rfl)).trans ((Ja (by simp [Je]; omega)).trans ?_))))
   have := JB2 f k0 z fl hz N hN d (i + 1) n (cpN s) (nl && false) (L ++ [cpV s]) (by omega) (by omega) (JyU hb) (by simp [hL])
   rw [List.length_append] at this
   refine Eq.trans this ?_
   simp only [cpR, cpL, Bool.and_false, Bool.false_and, List.isEmpty_cons, List.append_assoc, List.cons_append, List.nil_append]
theorem JFo (z f : Bool) (b : List PV) (hz : slB z b = true) (hb : byB b = true) (k : KR) :
  g87 50 z f b k = k ⟨opP b, [], []⟩ := by
 have hE : ZI b = ZI b := rfl
 conv at hE => rhs; unfold ZI
 have hN := JnG hb
 have hS := JyV hb
 have key : ∀ (N : Nat) (s : RS) (K : Nat -> Bool -> Bool -> List PV -> Int -> Bool -> List PV -> OR), opN b = N -> opS b = s ->
   (∀ (e : Int) (x1 x2 : Bool), ZI b = (bif (cpR N s).e == 0 then (bif decide ((cpR N s).b.length > 0) then 9 else ckO (cpL N s)) else (cpR N s).e) -> K (cpL N s).length x1 x2 (cpR N s).b (cpR N s).e (true && (cpL N s).isEmpty) ([] ++ cpL N s) = k ⟨opP b, [], []⟩) ->
   YG 50 K 50 0 (N : Int) 0 z z s.b s.e true [] = k ⟨opP b, [], []⟩ := by
  intro N s K h1 h2 h3
  subst h1; subst h2
  refine (JB2 50 K z z (by cases z <;> rfl) (opN b) hN (opN b) 0 50 (opS b) true [] (by omega) (by omega) hS rfl).trans ?_
  exact h3 0 z z hE
 have fin : ∀ (N : Nat) (s : RS), opN b = N -> opS b = s -> ZI b = (bif (cpR N s).e == 0 then (bif decide ((cpR N s).b.length > 0) then 9 else ckO (cpL N s)) else (cpR N s).e) ->
   (bif (cpR N s).e == 0 then
    bif decide (zi (cpR N s).b.length > 0) then k ⟨WW 9, [], []⟩
    else bif (cpR N s).e == 0 then
     bif cOk (List.take (cpL N s).length ([] ++ cpL N s)) then
      bif ckO (List.take (cpL N s).length ([] ++ cpL N s)) != 0 then k ⟨WW (ckO (List.take (cpL N s).length ([] ++ cpL N s))), [], []⟩
      else bif (Ent.vec false 53 (true && (cpL N s).isEmpty) ([] ++ cpL N s)).nil then k ⟨WW 0, [], []⟩
      else bif Je (0 + (List.take (cpL N s).length ([] ++ cpL N s)).length) 32 && true then k ⟨.tup [.ro 53 false false (List.take (0 + (List.take (cpL N s).length ([] ++ cpL N s)).length) (List.take (cpL N s).length ([] ++ cpL N s))), .sc (.int .i64 0)], [], []⟩ else none
     else none
    else bif (cpR N s).e != 0 then k ⟨WW (cpR N s).e, [], []⟩
    else bif (Ent.vec false 53 (true && (cpL N s).isEmpty) ([] ++ cpL N s)).nil then k ⟨WW 0, [], []⟩
      else bif Je (0 + (List.take (cpL N s).length ([] ++ cpL N s)).length) 32 && true then k ⟨.tup [.ro 53 false false (List.take (0 + (List.take (cpL N s).length ([] ++ cpL N s)).length) (List.take (cpL N s).length ([] ++ cpL N s))), .sc (.int .i64 0)], [], []⟩ else none
   else bif (cpR N s).e == 0 then
     bif cOk (List.take (cpL N s).length ([] ++ cpL N s)) then
      bif ckO (List.take (cpL N s).length ([] ++ cpL N s)) != 0 then k ⟨WW (ckO (List.take (cpL N s).length ([] ++ cpL N s))), [], []⟩
      else bif (Ent.vec false 53 (true && (cpL N s).isEmpty) ([] ++ cpL N s)).nil then k ⟨WW 0, [], []⟩
      else bif Je (0 + (List.take (cpL N s).length ([] ++ cpL N s)).length) 32 && true then k ⟨.tup [.ro 53 false false (List.take (0 + (List.take (cpL N s).length ([] ++ cpL N s)).length) (List.take (cpL N s).length ([] ++ cpL N s))), .sc (.int .i64 0)], [], []⟩ else none
     else none
    else bif (cpR N s).e != 0 then k ⟨WW (cpR N s).e, [], []⟩
    else bif (Ent.vec false 53 (true && (cpL N s).isEmpty) ([] ++ cpL N s)).nil then k ⟨WW 0, [], []⟩
      else bif Je (0 + (List.take (cpL N s).length ([] ++ cpL N s)).length) 32 && true then k ⟨.tup [.ro 53 false false (List.take (0 + (List.take (cpL N s).length ([] ++ cpL N s)).length) (List.take (cpL N s).length ([] ++ cpL N s))), .sc (.int .i64 0)], [], []⟩ else none) = k ⟨opP b, [], []⟩ := by
  intro N s h1 h2 h3
  have hco : cOk (cpL N s) = true := JiY (by omega) s
  have hnl : (Ent.vec false 53 (cpL N s).isEmpty (cpL N s)).nil = (cpL N s).isEmpty := by simp [Ent.nil]
  have hlen : (cpL N s).length <= 40 := by rw [Jaa]; omega
  have hz9 : decide (zi (cpR N s).b.length > 0) = decide ((cpR N s).b.length > 0) := by apply decide_eq_decide.2; simp only [zi]; omega
  simp only [List.nil_append, List.take_length, Bool.true_and, Nat.zero_add, hco, hnl, hz9, cond_true]
  cases he : ((cpR N s).e == 0) with
  | false =>
   rw [he, cond_false] at h3
   rw [JiW h3 he]
   simp only [cond_false]
   exact Ja (by rw [bne, he]; rfl)
  | true =>
   rw [he, cond_true] at h3
   cases h9 : decide ((cpR N s).b.length > 0) with
   | true =>
    rw [h9, cond_true] at h3
    rw [JiW h3 (by decide)]
    rfl
   | false =>
    rw [h9, cond_false] at h3
    simp only [cond_true, cond_false]
    cases hc : (ckO (cpL N s) == 0) with
    | false =>
     rw [JiW h3 hc]
     exact Ja (by rw [bne, hc]; rfl)
    | true =>
     have hc' : ckO (cpL N s) = 0 := by simpa using hc
     rw [hc'] at h3
     rw [JFm h3, h1, h2]
     refine (Jd (by rw [bne, hc]; rfl)).trans ?_
     cases hl : cpL N s with
     | nil => rfl
     | cons p ps =>
      rw [hl] at hlen
      refine (Jd rfl).trans ((Ja (by simp [Je] at hlen ⊢; omega)).trans rfl)
 unfold g87 JiS Xh
 refine (Ja hz).trans ((Ja (by rw [hb]; cases z <;> rfl)).trans ?_)
 have h0 : 0 <= Jz 1 ⟨b, 0⟩ := by rw [Zl]; exact (X3 (s := ⟨b, 0⟩) hb (n := 1) (by omega)).1
 cases h4 : decide (Jz 1 ⟨b, 0⟩ > 40) with
 | true =>
  have hN0 : opN b = 0 := by unfold opN; rw [h4]; rfl
  have hS0 : opS b = Vt 4 (Jb 1 ⟨b, 0⟩) := by unfold opS; rw [h4]; rfl
  rw [cond_true]
  cases he : ((Jb 1 ⟨b, 0⟩).e == 0) with
  | true =>
   rw [cond_true]
   have hs : opS b = ⟨(Jb 1 ⟨b, 0⟩).b, 4⟩ := by rw [hS0]; unfold Vt; rw [he]; rfl
   exact key 0 ⟨(Jb 1 ⟨b, 0⟩).b, 4⟩ _ hN0 hs fun _ _ _ h => fin 0 _ hN0 hs h
  | false =>
   rw [cond_false]
   have hs : opS b = ⟨(Jb 1 ⟨b, 0⟩).b, (Jb 1 ⟨b, 0⟩).e⟩ := by rw [hS0]; unfold Vt; rw [he]; rfl
   exact key 0 ⟨(Jb 1 ⟨b, 0⟩).b, (Jb 1 ⟨b, 0⟩).e⟩ _ hN0 hs fun _ _ _ h => fin 0 _ hN0 hs h
 | false =>
  have hN0 : opN b = (Jz 1 ⟨b, 0⟩).toNat := by unfold opN; rw [h4]; rfl
  have hS0 : opS b = Jb 1 ⟨b, 0⟩ := by unfold opS; rw [h4]; rfl
  rw [cond_false]
  have q := fun K hK => key (Jz 1 ⟨b, 0⟩).toNat (Jb 1 ⟨b, 0⟩) K hN0 hS0 hK
  rw [Int.toNat_of_nonneg h0] at q
  exact q _ fun _ _ _ h => fin _ _ hN0 hS0 h
def JnH : Jy
 | [.ro 5 z f b], [], k => bif slB z b && byB b then k ⟨opP b, [], []⟩ else none
 | _, _, _ => none
def JLp : Sig := { own := [], run := JnH }
theorem JLq : Jc tau Tryz.prog 87 JLp := Jc.mk' fun xs es k res hl hr => by
 change JnH xs es k = some res at hr
 unfold JnH at hr
 split at hr
 · rename_i z f b
   obtain ⟨hc, hr⟩ := Ju hr
   rw [Bool.and_eq_true] at hc
   have hg := (JFo z f b hc.1 hc.2 k).trans hr
   exact J1 Jn JuE Jo JK8 JK9 (JyM (Jfr 50)) [.ro, .ro] 0 0 (JPQ 50) hl rfl ((e87 50 z f b k).trans hg)
 · cases hr
/-! The document's. -/
theorem JyW {s : RS} (h : s.e ≠ 0) : cpN s = s := by
 unfold cpN; rw [X2, X2, Ja7 h, Ja7 h, JdS]; unfold Jku; rw [Ja7 h 2, Ja7 h]
theorem Jqd : ∀ (n : Nat) {s : RS}, s.e ≠ 0 -> cpR n s = s
 | 0, _, _ => rfl
 | n + 1, s, h => by show cpR n (cpN s) = s; rw [JyW h, Jqd n h]
theorem JnI (f : Nat) (k0 : Nat -> Bool -> Bool -> List PV -> Int -> Int -> Bool -> List PV -> OR) (n : Nat) {N i : Int} {z fl : Bool} {B : List PV} {P e : Int} (he : (e == 0) = false) {m : Nat} {nl : Bool} {L : List PV} :
  WO f k0 (n + 1) N m i z fl B P e nl L = k0 m z fl B P e nl L := by
 simp only [WO, Y0, he, cond_false]
 cases decide (i < N) <;> rfl
theorem JuL (f : Nat) (k0 : Nat -> Bool -> Bool -> List PV -> Int -> Int -> Bool -> List PV -> OR) (R : OR) {z fl : Bool} (N : Nat) (hN : N <= 40) :
  ∀ (d i n : Nat) (t : RT) (nl : Bool) (L : List PV), i + d = N -> d < n -> okT t = true -> L.length <= i ->
  (∀ (t' : RT) (nl' : Bool) (L' : List PV), okT t' = true -> t'.view = cpR d t.view -> L'.length <= 40 -> (t'.view.e = 0 -> L' = L ++ cpL d t.view /\ nl' = (nl && (cpL d t.view).isEmpty)) -> k0 L'.length z fl t'.B t'.P t'.e nl' L' = R) ->
  WO f k0 n (N : Int) L.length (i : Int) z fl t.B t.P t.e nl L = R
 | 0, i, n + 1, t, nl, L, h, hn, ht, hL, hk => by
   simp only [WO, Y0]
   exact (Jd (by simp; omega)).trans (hk t nl L ht rfl (by omega) fun _ => by simp [cpL])
 | d + 1, i, n + 1, t, nl, L, h, hn, ht, hL, hk => by
   cases he : (t.e == 0) with
   | false =>
    have he' : t.view.e ≠ 0 := by simpa [RT.view] using he
    rw [JnI f k0 n he]
    exact hk t nl L ht (Jqd _ he').symm (by omega) fun h0 => absurd h0 he'
   | true =>
    have w := wI (i := i) (by omega)
    have hm : RT.mk t.B t.P t.e = t := rfl
    have o1 := QE ht 1
    have o2 := QE o1 8
    have hview : (Q0 (Jh 8 (Jh 1 t))).view = cpN t.view := by simp only [JgR, Ql, cpN]
    have hv1 : PV.st 53 [.sc (.int .i64 (Qk 1 t)), .sc (.int .i64 (Qk 8 (Jh 1 t))), .sc (.string (X4 (Jh 8 (Jh 1 t))))] = cpV t.view := by simp only [WM, JgS, Ql, cpV]
    simp only [WO, Y0, w, hm, List.take_length, he]
    refine (Ja (by simp; omega)).trans ((Ja rfl).trans ((Ja ht).trans ((Ja o1).trans ((Ja o2).trans ((Ja (by simp [Je]; omega)).trans ?_)))))
    rw [hv1]
    have := JuL f k0 R (z := z) (fl := fl) N hN d (i + 1) n (Q0 (Jh 8 (Jh 1 t))) (nl && false) (L ++ [cpV t.view]) (by omega) (by omega) (Jkx o2) (by simp; omega) fun t' nl' L' h1 h2 h3 h4 => hk t' nl' L' h1 (by rw [h2, hview]; rfl) h3 fun h0 => by
     obtain ⟨q1, q2⟩ := h4 h0
     rw [hview] at q1 q2
     exact ⟨by rw [q1]; simp [cpL], by rw [q2]; simp [cpL]⟩
    rw [List.length_append] at this
    exact this
theorem JyX (z f : Bool) (b : List PV) (hb : byB b = true) (hlen : b.length <= 1000000000) (k : KR) :
  JFl 50 z f b k = k ⟨opQ b, [], []⟩ := by
 have hE : ZI b = ZI b := rfl
 conv at hE => rhs; unfold ZI
 have hN := JnG hb
 have hok0 : okT (RT.mk b 0 0) = true := by simp [okT, hb]; omega
 have hv0 : (RT.mk b 0 0).view = RS.mk b 0 := rfl
 have fin : ∀ (t' : RT) (nl' : Bool) (L' : List PV), okT t' = true -> t'.view = cpR (opN b) (opS b) -> L'.length <= 40 -> (t'.view.e = 0 -> L' = cpL (opN b) (opS b) /\ nl' = (cpL (opN b) (opS b)).isEmpty) ->
   (bif t'.e == 0 then
     bif decide (t'.P < zi t'.B.length) then k ⟨WW 9, [], []⟩
     else bif t'.e == 0 then
      bif cOk (List.take L'.length L') then
       bif ckO (List.take L'.length L') != 0 then k ⟨WW (ckO (List.take L'.length L')), [], []⟩
       else k ⟨.tup [.ro 53 (Ent.vec false 53 nl' L').nil false (List.take L'.length L'), .sc (.int .i64 0)], [], []⟩
      else none
     else bif t'.e != 0 then k ⟨WW t'.e, [], []⟩
     else k ⟨.tup [.ro 53 (Ent.vec false 53 nl' L').nil false (List.take L'.length L'), .sc (.int .i64 0)], [], []⟩
   else bif t'.e == 0 then
      bif cOk (List.take L'.length L') then
       bif ckO (List.take L'.length L') != 0 then k ⟨WW (ckO (List.take L'.length L')), [], []⟩
       else k ⟨.tup [.ro 53 (Ent.vec false 53 nl' L').nil false (List.take L'.length L'), .sc (.int .i64 0)], [], []⟩
      else none
     else bif t'.e != 0 then k ⟨WW t'.e, [], []⟩
     else k ⟨.tup [.ro 53 (Ent.vec false 53 nl' L').nil false (List.take L'.length L'), .sc (.int .i64 0)], [], []⟩) = k ⟨opQ b, [], []⟩ := by
  intro t' nl' L' ht hV hL hq
  have hve : t'.e = (cpR (opN b) (opS b)).e := by rw [← hV]; rfl
  have hvP : decide (t'.P < zi t'.B.length) = decide ((cpR (opN b) (opS b)).b.length > 0) := by
   rw [← hV]
   show decide _ = decide ((List.drop _ _).length > 0)
   rw [List.length_drop]
   simp only [okT, Bool.and_eq_true, decide_eq_true_eq] at ht
   apply decide_eq_decide.2
   simp only [zi]; omega
  simp only [hvP, List.take_length]
  cases he : (t'.e == 0) with
  | false =>
   have he2 : ((cpR (opN b) (opS b)).e == 0) = false := by rw [← hve]; exact he
   rw [he2, cond_false, ← hve] at hE
   rw [JiX hE he]
   simp only [cond_false]
   exact Ja (by rw [bne, he]; rfl)
  | true =>
   have he2 : ((cpR (opN b) (opS b)).e == 0) = true := by rw [← hve]; exact he
   rw [he2, cond_true] at hE
   cases h9 : decide ((cpR (opN b) (opS b)).b.length > 0) with
   | true =>
     rw [h9, cond_true] at hE
     rw [JiX hE (by decide)]
     rfl
   | false =>
     rw [h9, cond_false] at hE
     obtain ⟨w1, w2⟩ := hq (by have := he; rw [beq_iff_eq] at this; exact this)
     simp only [cond_true, cond_false]
     rw [w1, w2]
     have hco : cOk (cpL (opN b) (opS b)) = true := JiY hN _
     have hnl : (Ent.vec false 53 (cpL (opN b) (opS b)).isEmpty (cpL (opN b) (opS b))).nil = (cpL (opN b) (opS b)).isEmpty := by simp [Ent.nil]
     refine (Ja hco).trans ?_
     cases hc : (ckO (cpL (opN b) (opS b)) == 0) with
     | false =>
      rw [JiX hE hc]
      exact Ja (by rw [bne, hc]; rfl)
     | true =>
      have hc' : ckO (cpL (opN b) (opS b)) = 0 := by simpa using hc
      rw [hc'] at hE
      rw [JFn hE, hnl]
      exact (Jd (by rw [bne, hc]; rfl))
 unfold JFl Jd1
 refine (Ja hok0).trans ?_
 have hn : Qk 1 (RT.mk b 0 0) = Jz 1 ⟨b, 0⟩ := by rw [WM, hv0]
 have hvs : (Jh 1 (RT.mk b 0 0)).view = Jb 1 ⟨b, 0⟩ := by rw [Ql, hv0]
 have hos : okT (Jh 1 (RT.mk b 0 0)) = true := QE hok0 1
 generalize hst : Jh 1 (RT.mk b 0 0) = st at *
 have hse : st.e = (Jb 1 ⟨b, 0⟩).e := by rw [← hvs]; rfl
 rw [hn]
 have h0 : 0 <= Jz 1 ⟨b, 0⟩ := by rw [Zl]; exact (X3 (s := ⟨b, 0⟩) hb (n := 1) (by omega)).1
 cases h4 : decide (Jz 1 ⟨b, 0⟩ > 40) with
 | true =>
  have hN0 : opN b = 0 := by unfold opN; rw [h4]; rfl
  have hS0 : opS b = Vt 4 (Jb 1 ⟨b, 0⟩) := by unfold opS; rw [h4]; rfl
  rw [cond_true]
  cases he : (st.e == 0) with
  | true =>
   rw [cond_true]
   refine (JnI 50 _ 49 (by decide)).trans ?_
   refine fin ⟨st.B, st.P, 4⟩ true [] hos ?_ (by decide) fun h => ?_
   · rw [hN0, hS0, ← hvs]
     show RS.mk _ _ = Vt 4 st.view
     unfold Vt
     rw [show (st.view.e == 0) = true from he]; rfl
   · have h' : (4 : Int) = 0 := h
     exact absurd h' (by decide)
  | false =>
   rw [cond_false]
   refine (JnI 50 _ 49 he).trans ?_
   refine fin st true [] hos ?_ (by decide) fun h => ?_
   · rw [hN0, hS0, ← hvs]
     show st.view = Vt 4 st.view
     unfold Vt
     rw [show (st.view.e == 0) = false from he]; rfl
   · have h' : st.e = 0 := h
     rw [h'] at he; exact absurd he (by decide)
 | false =>
  have hN0 : opN b = (Jz 1 ⟨b, 0⟩).toNat := by unfold opN; rw [h4]; rfl
  have hS0 : opS b = Jb 1 ⟨b, 0⟩ := by unfold opS; rw [h4]; rfl
  rw [cond_false]
  have hcn : Jz 1 ⟨b, 0⟩ = ((opN b : Nat) : Int) := by rw [hN0]; exact (Int.toNat_of_nonneg h0).symm
  rw [hcn]
  refine JuL 50 _ _ (opN b) hN (opN b) 0 50 st true [] (by omega) (by omega) hos (by decide) fun t' nl' L' q1 q2 q3 q4 => ?_
  have hVt : st.view = opS b := by rw [hS0, hvs]
  rw [hVt] at q2 q4
  exact fin t' nl' L' q1 q2 q3 fun h => by
   obtain ⟨w1, w2⟩ := q4 h
   exact ⟨by rw [w1, List.nil_append], by rw [w2, Bool.true_and]⟩
def JiZ : Jy
 | [.ro 5 z f b], [], k => bif byB b && Nat.ble b.length 1000000000 then k ⟨opQ b, [], []⟩ else none
 | _, _, _ => none
def JB3 : Sig := { own := [], run := JiZ }
theorem JFp : Jc tau Tryz.prog 108 JB3 := Jc.mk' fun xs es k res hl hr => by
 change JiZ xs es k = some res at hr
 unfold JiZ at hr
 split at hr
 · rename_i z f b
   obtain ⟨hc, hr⟩ := Ju hr
   rw [Bool.and_eq_true, Nat.ble_eq] at hc
   have hg := (JyX z f b hc.1 hc.2 k).trans hr
   exact J1 Jn Jqb Jo JB0 JB1 (Jqc (G9 50)) [.ro, .ro] 0 0 (JLn 50) hl rfl ((JPV 50 z f b k).trans hg)
 · cases hr
def N48 : Nat := 62
def F48 : Fns := Jr 88 JKo (Jr 87 JLp (Jr 86 s86 (Jr 85 JEf (Jr 84 s84 (Jr 83 s83 (Jr 82 s82 (F0)))))))
theorem JuM : Jp tau Tryz.prog F48 := (((((((Js).add JKP JKO).add JKT JKS).add JKX JKW).add JBm JJK).add JK1 JK0).add JLq JPR).add JKp JO2
def Jqe : Code := Qd (Tryz.f48.body.get!) [1, 1, 1, 0, 1, 0, 0]
def Jfu : Nm := [(2, .any), (4, .any), (5, .any), (21, .any)]
def JnJ : Nm := [(2, .any), (4, .any), (5, .any)]
def JuN : An := (.seq .leaf (.seq (.cond .leaf .leaf) (.seq (.block none (.seq .leaf .leaf)) .leaf)))
def JyY (r0 : Qt) : An := (.seq .leaf (.seq .leaf (.seq .leaf (.seq (.seq .leaf (.block none (.sum Jfu N48 r0))) (.seq .leaf (.seq .leaf (.seq .leaf (.seq .leaf (.seq (.seq .leaf (.cond .leaf .leaf)) (.seq (.seq .leaf (.cond .leaf .leaf)) (.seq (.seq .leaf (.cond (.seq .leaf .leaf) .leaf)) (.seq .leaf .leaf))))))))))))
abbrev JuO := Int -> Int -> Int -> Int -> Int -> List PV -> Int -> List PV -> Int -> Int -> Bool -> Bool -> List PV -> Int -> Int -> Int -> Int -> Int -> List PV -> Int -> List PV -> Int -> Int -> OR
def JbQ (f : Nat) (rc : JuO) (k0 : Int -> Int -> Int -> Int -> List PV -> Int -> List PV -> Int -> Int -> Bool -> Bool -> List PV -> Int -> Int -> Int -> Int -> Int -> List PV -> Int -> List PV -> Int -> Int -> OR) (v0 v1 v2 v3 v4 : Int) (v5 : List PV) (v6 : Int) (v7 : List PV) (v8 v9 : Int) (v10 v11 : Bool) (v12 : List PV) (v13 v14 v15 v16 v17 : Int) (v18 : List PV) (v19 : Int) (v20 : List PV) (v21 v22 : Int) : OR := bif decide (v0 < 32) then bif (!v10 || v11) && true && byB v12 then bif decide (0 <= v0) && decide (v0 < zi 32) && true then rc (IntKind.i64.wrap (v0 + 1)) v1 v2 v3 v4 v5 v6 v7 v8 v9 v10 v11 ((Jb 1 (RS.mk v12 v13)).b) ((Jb 1 (RS.mk v12 v13)).e) v14 v15 v16 v17 (v18.set v0.toNat (.sc (.int .u8 (IntKind.u8.wrap (Jz 1 (RS.mk v12 v13)))))) v19 v20 v21 v22 else none else none else k0 v1 v2 v3 v4 v5 v6 v7 v8 v9 v10 v11 v12 v13 v14 v15 v16 v17 v18 v19 v20 v21 v22
def Jab (f : Nat) (k0 : Int -> Int -> Int -> Int -> List PV -> Int -> List PV -> Int -> Int -> Bool -> Bool -> List PV -> Int -> Int -> Int -> Int -> Int -> List PV -> Int -> List PV -> Int -> Int -> OR) : Nat -> JuO
 | 0 => fun _ _ _ _ _ _ _ _ _ _ _ _ _ _ _ _ _ _ _ _ _ _ _ => none
 | n + 1 => JbQ f (Jab f k0 n) k0
def JbR (k : Kont) := fun x0 x1 x2 x3 x4 x5 x6 x7 x8 x9 x10 x11 x12 x13 x14 x15 x16 x17 x18 x19 x20 x21 => k (Ex.exit 0) (Ji JnJ N48 [.ptr 1008 [], .ptr 1009 [], .ptr 1010 []] [(1008, .box false 105 (PV.st 105 [.st 67 [.sc (.int .i64 x0), .sc (.int .i64 x1)], .sc (.int .i64 x2), .sc (.int .i64 x3), .ar 28 x4, .sc (.int .i64 x5), .ro 53 true true x6, .st 67 [.sc (.int .i64 x7), .sc (.int .i64 x8)]])), (1009, .box false 197 (PV.st 197 [.ro 5 x9 x10 x11, .sc (.int .i64 x12)])), (1010, .box false 105 (PV.st 105 [.st 67 [.sc (.int .i64 x13), .sc (.int .i64 x14)], .sc (.int .i64 x15), .sc (.int .i64 x16), .ar 28 x17, .sc (.int .i64 x18), .ro 53 true true x19, .st 67 [.sc (.int .i64 x20), .sc (.int .i64 x21)]]))])
def JnK (f : Nat) (k : Kont) (n : Nat) (v0 v1 v2 v3 v4 : Int) (v5 : List PV) (v6 : Int) (v7 : List PV) (v8 v9 : Int) (v10 v11 : Bool) (v12 : List PV) (v13 v14 v15 v16 v17 : Int) (v18 : List PV) (v19 : Int) (v20 : List PV) (v21 v22 : Int) : OR := Jx tau 0 Jfu (fun s k => ev tau F48 0 0 Jqe (JuN ) s k) n (Ji Jfu N48 [.ptr 1008 [], .ptr 1009 [], .ptr 1010 [], .sc (.int .i64 v0)] [(1008, .box false 105 (PV.st 105 [.st 67 [.sc (.int .i64 v1), .sc (.int .i64 v2)], .sc (.int .i64 v3), .sc (.int .i64 v4), .ar 28 v5, .sc (.int .i64 v6), .ro 53 true true v7, .st 67 [.sc (.int .i64 v8), .sc (.int .i64 v9)]])), (1009, .box false 197 (PV.st 197 [.ro 5 v10 v11 v12, .sc (.int .i64 v13)])), (1010, .box false 105 (PV.st 105 [.st 67 [.sc (.int .i64 v14), .sc (.int .i64 v15)], .sc (.int .i64 v16), .sc (.int .i64 v17), .ar 28 v18, .sc (.int .i64 v19), .ro 53 true true v20, .st 67 [.sc (.int .i64 v21), .sc (.int .i64 v22)]]))]) (JG tau 0 JnJ k)
theorem JyZ (f : Nat) (k : Kont) (n : Nat) : JnK f k (n + 1) = JbQ f (JnK f k n) (JbR k) := by kernel_rfl
theorem Jqf (f : Nat) (k : Kont) : ∀ n, JnK f k n = Jab f (JbR k) n
 | 0 => rfl
 | n + 1 => (JyZ f k n).trans (congrArg (fun r => JbQ f r (JbR k)) (Jqf f k n))
def Jfv (f : Nat) : List PV -> List (Nat × Ent) -> Kont -> OR
 | [.ptr 1008 [], .ptr 1009 [], .ptr 1010 [],
 PV.sc
  (Value.int IntKind.i64
   v0)], [(1008,
  Ent.box false 105
   (PV.st 105
    [.st 67 [.sc (.int .i64 v1), .sc (.int .i64 v2)], .sc (.int .i64 v3), .sc (.int .i64 v4), .ar 28 v5,
     .sc (.int .i64 v6), .ro 53 true true v7, .st 67 [.sc (.int .i64 v8), .sc (.int .i64 v9)]])),
 (1009, .box false 197 (PV.st 197 [.ro 5 v10 v11 v12, .sc (.int .i64 v13)])),
 (1010,
  Ent.box false 105
   (PV.st 105
    [.st 67 [.sc (.int .i64 v14), .sc (.int .i64 v15)], .sc (.int .i64 v16), .sc (.int .i64 v17), .ar 28 v18,
     .sc (.int .i64 v19), .ro 53 true true v20,
     PV.st 67
      [.sc (.int .i64 v21),
       PV.sc
        (Value.int IntKind.i64
         v22)]]))], k => Jab f (JbR k) f v0 v1 v2 v3 v4 v5 v6 v7 v8 v9 v10 v11 v12 v13 v14 v15 v16 v17 v18 v19 v20 v21 v22
 | _, _, _ => none
theorem JFq (f : Nat) : Jf Jqe JuN = [] := by kernel_rfl
theorem JFr (f : Nat) : (Item.l Jqe Jfu N48 (Jfv f)).Ok tau Tryz.prog 0 := Jt Jn JuM Jo (x := JuN) (nm2 := JnJ) (Jl _ _ (by rw [JFq f]; intro q hq; cases hq)) fun vs hp k res hr => by
 unfold Jfv at hr
 split at hr
 · rw [← Jqf f] at hr; exact ⟨f, 0, hr⟩
 · cases hr
abbrev Xy := JcG
abbrev Jfw (b : List PV) := (Jb 8 (Jb 8 (Jb 8 (RS.mk b 0))))
def g48 (f : Nat) (b_z b_f : Bool) (b : List PV) (k : KR) : OR := bif slB b_z b then bif (!b_z || b_z) && true && byB b then bif (!b_z || b_z) && true && byB (Jb 8 (RS.mk b 0)).b then bif (!b_z || b_z) && true && byB (Jb 8 (Jb 8 (RS.mk b 0))).b then bif (!b_z || b_z) && true && byB (Jfw b).b then Jab f (fun _ _ _ _ _ _ _ _ _ x9_0 x10_0 x11_0 x12_0 x13_0 x14_0 x15_0 Q9 x17_0 _ XA _ _ => bif (!x9_0 || x10_0) && true && byB x11_0 then bif (!x9_0 || x10_0) && byB (Jb 1 (RS.mk x11_0 x12_0)).b then bif (!x9_0 || x10_0) && true && byB (Qe (Jb 1 (RS.mk x11_0 x12_0))).b then bif (!x9_0 || x10_0) && true && byB (Jb 8 (Qe (Jb 1 (RS.mk x11_0 x12_0)))).b then bif (Jb 8 (Jb 8 (Qe (Jb 1 (RS.mk x11_0 x12_0))))).e == 0 then bif decide (zi (Jb 8 (Jb 8 (Qe (Jb 1 (RS.mk x11_0 x12_0))))).b.length > 0) then k (Res.mk (.tup [.st 105 [.st 67 [.sc (.int .i64 0), .sc (.int .i64 0)], .sc (.int .i64 0), .sc (.int .i64 0), .ar 28 Xy, .sc (.int .i64 0), .ro 53 true true [], .st 67 [.sc (.int .i64 0), .sc (.int .i64 0)]], .sc (.int .i64 9)]) [] []) else bif (Jb 8 (Jb 8 (Qe (Jb 1 (RS.mk x11_0 x12_0))))).e == 0 then bif Je (JT (Jb 1 (RS.mk x11_0 x12_0))).size 1 && true then bif slB (Ent.vec false 5 false (Jj (JT (Jb 1 (RS.mk x11_0 x12_0))))).nil (List.take (JT (Jb 1 (RS.mk x11_0 x12_0))).size (List.drop 0 (Jj (JT (Jb 1 (RS.mk x11_0 x12_0)))))) && byB (List.take (JT (Jb 1 (RS.mk x11_0 x12_0))).size (Jj (JT (Jb 1 (RS.mk x11_0 x12_0))))) then bif opE (List.take (JT (Jb 1 (RS.mk x11_0 x12_0))).size (Jj (JT (Jb 1 (RS.mk x11_0 x12_0))))) == 0 then bif cOk (opL (List.take (JT (Jb 1 (RS.mk x11_0 x12_0))).size (Jj (JT (Jb 1 (RS.mk x11_0 x12_0)))))) then bif dCk (DV.mk x13_0 x14_0 x15_0 Q9 x17_0 (Jz 1 (RS.mk x11_0 x12_0)) (opL (List.take (JT (Jb 1 (RS.mk x11_0 x12_0))).size (Jj (JT (Jb 1 (RS.mk x11_0 x12_0)))))) (Jz 8 (Qe (Jb 1 (RS.mk x11_0 x12_0)))) (Jz 8 (Jb 8 (Qe (Jb 1 (RS.mk x11_0 x12_0)))))) != 0 then k (Res.mk (.tup [.st 105 [.st 67 [.sc (.int .i64 0), .sc (.int .i64 0)], .sc (.int .i64 0), .sc (.int .i64 0), .ar 28 Xy, .sc (.int .i64 0), .ro 53 true true [], .st 67 [.sc (.int .i64 0), .sc (.int .i64 0)]], .sc (.int .i64 (dCk (DV.mk x13_0 x14_0 x15_0 Q9 x17_0 (Jz 1 (RS.mk x11_0 x12_0)) (opL (List.take (JT (Jb 1 (RS.mk x11_0 x12_0))).size (Jj (JT (Jb 1 (RS.mk x11_0 x12_0)))))) (Jz 8 (Qe (Jb 1 (RS.mk x11_0 x12_0)))) (Jz 8 (Jb 8 (Qe (Jb 1 (RS.mk x11_0 x12_0))))))))]) [] []) else k (Res.mk (.tup [.st 105 [.st 67 [.sc (.int .i64 x13_0), .sc (.int .i64 x14_0)], .sc (.int .i64 x15_0), .sc (.int .i64 Q9), .ar 28 x17_0, .sc (.int .i64 (Jz 1 (RS.mk x11_0 x12_0))), .ro 53 (opL (List.take (JT (Jb 1 (RS.mk x11_0 x12_0))).size (Jj (JT (Jb 1 (RS.mk x11_0 x12_0)))))).isEmpty (opL (List.take (JT (Jb 1 (RS.mk x11_0 x12_0))).size (Jj (JT (Jb 1 (RS.mk x11_0 x12_0)))))).isEmpty (opL (List.take (JT (Jb 1 (RS.mk x11_0 x12_0))).size (Jj (JT (Jb 1 (RS.mk x11_0 x12_0)))))), .st 67 [.sc (.int .i64 (Jz 8 (Qe (Jb 1 (RS.mk x11_0 x12_0))))), .sc (.int .i64 (Jz 8 (Jb 8 (Qe (Jb 1 (RS.mk x11_0 x12_0))))))]], .sc (.int .i64 0)]) [] []) else none else bif opE (List.take (JT (Jb 1 (RS.mk x11_0 x12_0))).size (Jj (JT (Jb 1 (RS.mk x11_0 x12_0))))) != 0 then k (Res.mk (.tup [.st 105 [.st 67 [.sc (.int .i64 0), .sc (.int .i64 0)], .sc (.int .i64 0), .sc (.int .i64 0), .ar 28 Xy, .sc (.int .i64 0), .ro 53 true true [], .st 67 [.sc (.int .i64 0), .sc (.int .i64 0)]], .sc (.int .i64 (opE (List.take (JT (Jb 1 (RS.mk x11_0 x12_0))).size (Jj (JT (Jb 1 (RS.mk x11_0 x12_0)))))))]) [] []) else k (Res.mk (.tup [.st 105 [.st 67 [.sc (.int .i64 x13_0), .sc (.int .i64 x14_0)], .sc (.int .i64 x15_0), .sc (.int .i64 Q9), .ar 28 x17_0, .sc (.int .i64 (Jz 1 (RS.mk x11_0 x12_0))), .ro 53 (opL (List.take (JT (Jb 1 (RS.mk x11_0 x12_0))).size (Jj (JT (Jb 1 (RS.mk x11_0 x12_0)))))).isEmpty (opL (List.take (JT (Jb 1 (RS.mk x11_0 x12_0))).size (Jj (JT (Jb 1 (RS.mk x11_0 x12_0)))))).isEmpty (opL (List.take (JT (Jb 1 (RS.mk x11_0 x12_0))).size (Jj (JT (Jb 1 (RS.mk x11_0 x12_0)))))), .st 67 [.sc (.int .i64 (Jz 8 (Qe (Jb 1 (RS.mk x11_0 x12_0))))), .sc (.int .i64 (Jz 8 (Jb 8 (Qe (Jb 1 (RS.mk x11_0 x12_0))))))]], .sc (.int .i64 0)]) [] []) else none else none else bif (Jb 8 (Jb 8 (Qe (Jb 1 (RS.mk x11_0 x12_0))))).e == 0 then bif cOk XA then bif dCk (DV.mk x13_0 x14_0 x15_0 Q9 x17_0 (Jz 1 (RS.mk x11_0 x12_0)) XA (Jz 8 (Qe (Jb 1 (RS.mk x11_0 x12_0)))) (Jz 8 (Jb 8 (Qe (Jb 1 (RS.mk x11_0 x12_0)))))) != 0 then k (Res.mk (.tup [.st 105 [.st 67 [.sc (.int .i64 0), .sc (.int .i64 0)], .sc (.int .i64 0), .sc (.int .i64 0), .ar 28 Xy, .sc (.int .i64 0), .ro 53 true true [], .st 67 [.sc (.int .i64 0), .sc (.int .i64 0)]], .sc (.int .i64 (dCk (DV.mk x13_0 x14_0 x15_0 Q9 x17_0 (Jz 1 (RS.mk x11_0 x12_0)) XA (Jz 8 (Qe (Jb 1 (RS.mk x11_0 x12_0)))) (Jz 8 (Jb 8 (Qe (Jb 1 (RS.mk x11_0 x12_0))))))))]) [] []) else k (Res.mk (.tup [.st 105 [.st 67 [.sc (.int .i64 x13_0), .sc (.int .i64 x14_0)], .sc (.int .i64 x15_0), .sc (.int .i64 Q9), .ar 28 x17_0, .sc (.int .i64 (Jz 1 (RS.mk x11_0 x12_0))), .ro 53 true true XA, .st 67 [.sc (.int .i64 (Jz 8 (Qe (Jb 1 (RS.mk x11_0 x12_0))))), .sc (.int .i64 (Jz 8 (Jb 8 (Qe (Jb 1 (RS.mk x11_0 x12_0))))))]], .sc (.int .i64 0)]) [] []) else none else bif (Jb 8 (Jb 8 (Qe (Jb 1 (RS.mk x11_0 x12_0))))).e != 0 then k (Res.mk (.tup [.st 105 [.st 67 [.sc (.int .i64 0), .sc (.int .i64 0)], .sc (.int .i64 0), .sc (.int .i64 0), .ar 28 Xy, .sc (.int .i64 0), .ro 53 true true [], .st 67 [.sc (.int .i64 0), .sc (.int .i64 0)]], .sc (.int .i64 (Jb 8 (Jb 8 (Qe (Jb 1 (RS.mk x11_0 x12_0))))).e)]) [] []) else k (Res.mk (.tup [.st 105 [.st 67 [.sc (.int .i64 x13_0), .sc (.int .i64 x14_0)], .sc (.int .i64 x15_0), .sc (.int .i64 Q9), .ar 28 x17_0, .sc (.int .i64 (Jz 1 (RS.mk x11_0 x12_0))), .ro 53 true true XA, .st 67 [.sc (.int .i64 (Jz 8 (Qe (Jb 1 (RS.mk x11_0 x12_0))))), .sc (.int .i64 (Jz 8 (Jb 8 (Qe (Jb 1 (RS.mk x11_0 x12_0))))))]], .sc (.int .i64 0)]) [] []) else bif (Jb 8 (Jb 8 (Qe (Jb 1 (RS.mk x11_0 x12_0))))).e == 0 then bif Je (JT (Jb 1 (RS.mk x11_0 x12_0))).size 1 && true then bif slB (Ent.vec false 5 false (Jj (JT (Jb 1 (RS.mk x11_0 x12_0))))).nil (List.take (JT (Jb 1 (RS.mk x11_0 x12_0))).size (List.drop 0 (Jj (JT (Jb 1 (RS.mk x11_0 x12_0)))))) && byB (List.take (JT (Jb 1 (RS.mk x11_0 x12_0))).size (Jj (JT (Jb 1 (RS.mk x11_0 x12_0))))) then bif opE (List.take (JT (Jb 1 (RS.mk x11_0 x12_0))).size (Jj (JT (Jb 1 (RS.mk x11_0 x12_0))))) == 0 then bif cOk (opL (List.take (JT (Jb 1 (RS.mk x11_0 x12_0))).size (Jj (JT (Jb 1 (RS.mk x11_0 x12_0)))))) then bif dCk (DV.mk x13_0 x14_0 x15_0 Q9 x17_0 (Jz 1 (RS.mk x11_0 x12_0)) (opL (List.take (JT (Jb 1 (RS.mk x11_0 x12_0))).size (Jj (JT (Jb 1 (RS.mk x11_0 x12_0)))))) (Jz 8 (Qe (Jb 1 (RS.mk x11_0 x12_0)))) (Jz 8 (Jb 8 (Qe (Jb 1 (RS.mk x11_0 x12_0)))))) != 0 then k (Res.mk (.tup [.st 105 [.st 67 [.sc (.int .i64 0), .sc (.int .i64 0)], .sc (.int .i64 0), .sc (.int .i64 0), .ar 28 Xy, .sc (.int .i64 0), .ro 53 true true [], .st 67 [.sc (.int .i64 0), .sc (.int .i64 0)]], .sc (.int .i64 (dCk (DV.mk x13_0 x14_0 x15_0 Q9 x17_0 (Jz 1 (RS.mk x11_0 x12_0)) (opL (List.take (JT (Jb 1 (RS.mk x11_0 x12_0))).size (Jj (JT (Jb 1 (RS.mk x11_0 x12_0)))))) (Jz 8 (Qe (Jb 1 (RS.mk x11_0 x12_0)))) (Jz 8 (Jb 8 (Qe (Jb 1 (RS.mk x11_0 x12_0))))))))]) [] []) else k (Res.mk (.tup [.st 105 [.st 67 [.sc (.int .i64 x13_0), .sc (.int .i64 x14_0)], .sc (.int .i64 x15_0), .sc (.int .i64 Q9), .ar 28 x17_0, .sc (.int .i64 (Jz 1 (RS.mk x11_0 x12_0))), .ro 53 (opL (List.take (JT (Jb 1 (RS.mk x11_0 x12_0))).size (Jj (JT (Jb 1 (RS.mk x11_0 x12_0)))))).isEmpty (opL (List.take (JT (Jb 1 (RS.mk x11_0 x12_0))).size (Jj (JT (Jb 1 (RS.mk x11_0 x12_0)))))).isEmpty (opL (List.take (JT (Jb 1 (RS.mk x11_0 x12_0))).size (Jj (JT (Jb 1 (RS.mk x11_0 x12_0)))))), .st 67 [.sc (.int .i64 (Jz 8 (Qe (Jb 1 (RS.mk x11_0 x12_0))))), .sc (.int .i64 (Jz 8 (Jb 8 (Qe (Jb 1 (RS.mk x11_0 x12_0))))))]], .sc (.int .i64 0)]) [] []) else none else bif opE (List.take (JT (Jb 1 (RS.mk x11_0 x12_0))).size (Jj (JT (Jb 1 (RS.mk x11_0 x12_0))))) != 0 then k (Res.mk (.tup [.st 105 [.st 67 [.sc (.int .i64 0), .sc (.int .i64 0)], .sc (.int .i64 0), .sc (.int .i64 0), .ar 28 Xy, .sc (.int .i64 0), .ro 53 true true [], .st 67 [.sc (.int .i64 0), .sc (.int .i64 0)]], .sc (.int .i64 (opE (List.take (JT (Jb 1 (RS.mk x11_0 x12_0))).size (Jj (JT (Jb 1 (RS.mk x11_0 x12_0)))))))]) [] []) else k (Res.mk (.tup [.st 105 [.st 67 [.sc (.int .i64 x13_0), .sc (.int .i64 x14_0)], .sc (.int .i64 x15_0), .sc (.int .i64 Q9), .ar 28 x17_0, .sc (.int .i64 (Jz 1 (RS.mk x11_0 x12_0))), .ro 53 (opL (List.take (JT (Jb 1 (RS.mk x11_0 x12_0))).size (Jj (JT (Jb 1 (RS.mk x11_0 x12_0)))))).isEmpty (opL (List.take (JT (Jb 1 (RS.mk x11_0 x12_0))).size (Jj (JT (Jb 1 (RS.mk x11_0 x12_0)))))).isEmpty (opL (List.take (JT (Jb 1 (RS.mk x11_0 x12_0))).size (Jj (JT (Jb 1 (RS.mk x11_0 x12_0)))))), .st 67 [.sc (.int .i64 (Jz 8 (Qe (Jb 1 (RS.mk x11_0 x12_0))))), .sc (.int .i64 (Jz 8 (Jb 8 (Qe (Jb 1 (RS.mk x11_0 x12_0))))))]], .sc (.int .i64 0)]) [] []) else none else none else bif (Jb 8 (Jb 8 (Qe (Jb 1 (RS.mk x11_0 x12_0))))).e == 0 then bif cOk XA then bif dCk (DV.mk x13_0 x14_0 x15_0 Q9 x17_0 (Jz 1 (RS.mk x11_0 x12_0)) XA (Jz 8 (Qe (Jb 1 (RS.mk x11_0 x12_0)))) (Jz 8 (Jb 8 (Qe (Jb 1 (RS.mk x11_0 x12_0)))))) != 0 then k (Res.mk (.tup [.st 105 [.st 67 [.sc (.int .i64 0), .sc (.int .i64 0)], .sc (.int .i64 0), .sc (.int .i64 0), .ar 28 Xy, .sc (.int .i64 0), .ro 53 true true [], .st 67 [.sc (.int .i64 0), .sc (.int .i64 0)]], .sc (.int .i64 (dCk (DV.mk x13_0 x14_0 x15_0 Q9 x17_0 (Jz 1 (RS.mk x11_0 x12_0)) XA (Jz 8 (Qe (Jb 1 (RS.mk x11_0 x12_0)))) (Jz 8 (Jb 8 (Qe (Jb 1 (RS.mk x11_0 x12_0))))))))]) [] []) else k (Res.mk (.tup [.st 105 [.st 67 [.sc (.int .i64 x13_0), .sc (.int .i64 x14_0)], .sc (.int .i64 x15_0), .sc (.int .i64 Q9), .ar 28 x17_0, .sc (.int .i64 (Jz 1 (RS.mk x11_0 x12_0))), .ro 53 true true XA, .st 67 [.sc (.int .i64 (Jz 8 (Qe (Jb 1 (RS.mk x11_0 x12_0))))), .sc (.int .i64 (Jz 8 (Jb 8 (Qe (Jb 1 (RS.mk x11_0 x12_0))))))]], .sc (.int .i64 0)]) [] []) else none else bif (Jb 8 (Jb 8 (Qe (Jb 1 (RS.mk x11_0 x12_0))))).e != 0 then k (Res.mk (.tup [.st 105 [.st 67 [.sc (.int .i64 0), .sc (.int .i64 0)], .sc (.int .i64 0), .sc (.int .i64 0), .ar 28 Xy, .sc (.int .i64 0), .ro 53 true true [], .st 67 [.sc (.int .i64 0), .sc (.int .i64 0)]], .sc (.int .i64 (Jb 8 (Jb 8 (Qe (Jb 1 (RS.mk x11_0 x12_0))))).e)]) [] []) else k (Res.mk (.tup [.st 105 [.st 67 [.sc (.int .i64 x13_0), .sc (.int .i64 x14_0)], .sc (.int .i64 x15_0), .sc (.int .i64 Q9), .ar 28 x17_0, .sc (.int .i64 (Jz 1 (RS.mk x11_0 x12_0))), .ro 53 true true XA, .st 67 [.sc (.int .i64 (Jz 8 (Qe (Jb 1 (RS.mk x11_0 x12_0))))), .sc (.int .i64 (Jz 8 (Jb 8 (Qe (Jb 1 (RS.mk x11_0 x12_0))))))]], .sc (.int .i64 0)]) [] []) else none else none else none else none) f (0) (0) (0) (0) (0) (Xy) (0) ([]) (0) (0) b_z b_z ((Jb 8 (Jfw b)).b) ((Jb 8 (Jfw b)).e) (Jz 8 (RS.mk b 0)) (Jz 8 (Jb 8 (RS.mk b 0))) (Jz 8 (Jb 8 (Jb 8 (RS.mk b 0)))) (Jz 8 (Jfw b)) (Xy) (0) ([]) (0) (0) else none else none else none else none else none
theorem e48 (f : Nat) (b_z b_f : Bool) (b : List PV) (k : KR) : JI tau F48 Tryz.f48 (Tryz.f48.body.get!) (JyY (Jfv f)) [.ro, .ro] 0 [.ro 5 b_z b_f b] [] k = g48 f b_z b_f b k := by kernel_rfl
theorem JPW (f : Nat) : Jf (Tryz.f48.body.get!) (JyY (Jfv f)) = [.l Jqe Jfu N48 (Jfv f)] := by kernel_rfl
theorem JPX (f : Nat) : ∀ q ∈ Jf (Tryz.f48.body.get!) (JyY (Jfv f)), q.Ok tau Tryz.prog 0 := by rw [JPW f]; exact JJ (JFr f) (fun _ h => nomatch h)
theorem JLr : Tryz.prog.funcs[48]? = some Tryz.f48 := by kernel_rfl
theorem JLs : Tryz.f48.body = some (Tryz.f48.body.get!) := by kernel_rfl
theorem JPY : Enters Tryz.prog 48 := enters_of JLr (by kernel_rfl) JLs
def JLt : Fns := Jr 103 JpI (F0)
theorem Jy0 : Jp tau Tryz.prog JLt := (Js).add Jm5 JtD
def JuP : An := (.seq .leaf (.seq .leaf (.seq .leaf (.seq .leaf .leaf))))
def JLu (f : Nat) (y0 y1 : Bool) (r_B : List PV) (r_P y2 : Int) (k : KR) : OR := bif okT (RT.mk r_B r_P y2) then bif okT (Jh 8 (RT.mk r_B r_P y2)) then k (Res.mk (.st 67 [.sc (.int .i64 (Qk 8 (RT.mk r_B r_P y2))), .sc (.int .i64 (Qk 8 (Jh 8 (RT.mk r_B r_P y2))))]) [.box false 210 (PV.st 210 [.ro 5 y0 y1 (Jh 8 (Jh 8 (RT.mk r_B r_P y2))).B, .sc (.int .i64 (Jh 8 (Jh 8 (RT.mk r_B r_P y2))).P), .sc (.int .i64 (Jh 8 (Jh 8 (RT.mk r_B r_P y2))).e)])] []) else none else none
theorem JPZ (f : Nat) (y0 y1 : Bool) (r_B : List PV) (r_P y2 : Int) (k : KR) : JI tau JLt Tryz.f102 (Tryz.f102.body.get!) JuP [.ro] 0 [.ptr 0 []] [.box false 210 (.st 210 [.ro 5 y0 y1 r_B, .sc (.int .i64 r_P), .sc (.int .i64 y2)])] k = JLu f y0 y1 r_B r_P y2 k := by kernel_rfl
theorem JLv (f : Nat) : ∀ q ∈ Jf (Tryz.f102.body.get!) JuP, q.Ok tau Tryz.prog 1 := Jv (by kernel_rfl)
theorem JB4 : Tryz.prog.funcs[102]? = some Tryz.f102 := by kernel_rfl
theorem JB5 : Tryz.f102.body = some (Tryz.f102.body.get!) := by kernel_rfl
theorem JLw : Enters Tryz.prog 102 := enters_of JB4 (by kernel_rfl) JB5
def JnL : Jy
 | [.ptr 0 []], [.box false 210 (.st 210 [.ro 5 y0 y1 r_B, .sc (.int .i64 r_P), .sc (.int .i64 y2)])], k => JLu 0 y0 y1 r_B r_P y2 k
 | _, _, _ => none
def JLx : Sig := { own := [], run := JnL }
theorem JLy : Jc tau Tryz.prog 102 JLx := JN Jn Jy0 Jo JB4 JB5 JuP [.ro] 1 [] JnL (JLv 0) fun xs es k res hr => by
 unfold JnL at hr
 split at hr
 · exact ⟨rfl, 0, (JPZ 0 _ _ _ _ _  _).trans hr⟩
 · cases hr
def F54 : Fns := Jr 109 JBA (Jr 108 JB3 (Jr 107 JFj (Jr 106 JtR (Jr 105 JpJ (Jr 104 JBl (Jr 103 JpI (Jr 102 JLx (Jr 101 JFi (F0)))))))))
theorem JFs : Jp tau Tryz.prog F54 := (((((((((Js).add JBT JBS).add JLy JLw).add Jm5 JtD).add JEc JJH).add Jm6 JtF).add JtS JA9).add JBX JBW).add JFp JLo).add JEN JJj
def JFt : An := (.seq .leaf (.seq .leaf (.seq .leaf (.seq .leaf (.seq .leaf (.seq .leaf (.seq .leaf (.seq .leaf (.seq .leaf (.seq .leaf (.seq (.seq .leaf (.cond .leaf .leaf)) (.seq (.seq .leaf (.cond .leaf .leaf)) (.seq (.seq .leaf (.cond (.seq .leaf .leaf) .leaf)) (.seq .leaf .leaf))))))))))))))
abbrev WP (b : List PV) := (Jh 8 (Jh 8 (Jh 8 (RT.mk b 0 0))))
abbrev J4 (b : List PV) := (Jh 1 (hashT (Jh 8 (WP b))))
abbrev JcR := JcG
abbrev JbS (b : List PV) := (Qk 8 (Jh 8 (Jh 8 (RT.mk b 0 0))))
abbrev JbT (b : List PV) := (pu IntKind.u8 (hashVT (Jh 8 (WP b))))
abbrev WQ (b : List PV) := (List.take (X4 (J4 b)).size (Jj (X4 (J4 b))))
abbrev Jfx (b : List PV) := (Res.mk (PV.tup [PV.st 105 [PV.st 67 [PV.sc (.int .i64 (Qk 8 (RT.mk b 0 0))), PV.sc (.int .i64 (Qk 8 (Jh 8 (RT.mk b 0 0))))], PV.sc (.int .i64 (JbS b)), PV.sc (.int .i64 (Qk 8 (WP b))), PV.ar 28 (JbT b), PV.sc (.int .i64 (Qk 1 (hashT (Jh 8 (WP b))))), PV.ro 53 (opL (WQ b)).isEmpty (opF (WQ b)) (opL (WQ b)), PV.st 67 [PV.sc (.int .i64 (Qk 8 (Q0 (J4 b)))), PV.sc (.int .i64 (Qk 8 (Jh 8 (Q0 (J4 b)))))]], PV.sc (.int .i64 0)]) [] [])
abbrev Jfy (b : List PV) := (Res.mk (PV.tup [PV.st 105 [PV.st 67 [PV.sc (.int .i64 (Qk 8 (RT.mk b 0 0))), PV.sc (.int .i64 (Qk 8 (Jh 8 (RT.mk b 0 0))))], PV.sc (.int .i64 (JbS b)), PV.sc (.int .i64 (Qk 8 (WP b))), PV.ar 28 (JbT b), PV.sc (.int .i64 (Qk 1 (hashT (Jh 8 (WP b))))), PV.ro 53 true true [], PV.st 67 [PV.sc (.int .i64 (Qk 8 (Q0 (J4 b)))), PV.sc (.int .i64 (Qk 8 (Jh 8 (Q0 (J4 b)))))]], PV.sc (.int .i64 0)]) [] [])
abbrev Ji0 (b : List PV) := (DV.mk (Qk 8 (RT.mk b 0 0)) (Qk 8 (Jh 8 (RT.mk b 0 0))) (JbS b) (Qk 8 (WP b)) (JbT b) (Qk 1 (hashT (Jh 8 (WP b)))) (opL (WQ b)) (Qk 8 (Q0 (J4 b))) (Qk 8 (Jh 8 (Q0 (J4 b)))))
abbrev Ji1 (b : List PV) := (DV.mk (Qk 8 (RT.mk b 0 0)) (Qk 8 (Jh 8 (RT.mk b 0 0))) (JbS b) (Qk 8 (WP b)) (JbT b) (Qk 1 (hashT (Jh 8 (WP b)))) [] (Qk 8 (Q0 (J4 b))) (Qk 8 (Jh 8 (Q0 (J4 b)))))
abbrev JnM (b : List PV) := (Res.mk (PV.tup [PV.st 105 [PV.st 67 [PV.sc (.int .i64 0), PV.sc (.int .i64 0)], PV.sc (.int .i64 0), PV.sc (.int .i64 0), PV.ar 28 JcR, PV.sc (.int .i64 0), PV.ro 53 true true [], PV.st 67 [PV.sc (.int .i64 0), PV.sc (.int .i64 0)]], PV.sc (.int .i64 (Jh 8 (Jh 8 (Q0 (J4 b)))).e)]) [] [])
abbrev JnN (b : List PV) := (Res.mk (PV.tup [PV.st 105 [PV.st 67 [PV.sc (.int .i64 0), PV.sc (.int .i64 0)], PV.sc (.int .i64 0), PV.sc (.int .i64 0), PV.ar 28 JcR, PV.sc (.int .i64 0), PV.ro 53 true true [], PV.st 67 [PV.sc (.int .i64 0), PV.sc (.int .i64 0)]], PV.sc (.int .i64 (dCk (Ji0 b)))]) [] [])
abbrev Ji2 (b : List PV) := (Res.mk (PV.tup [PV.st 105 [PV.st 67 [PV.sc (.int .i64 0), PV.sc (.int .i64 0)], PV.sc (.int .i64 0), PV.sc (.int .i64 0), PV.ar 28 JcR, PV.sc (.int .i64 0), PV.ro 53 true true [], PV.st 67 [PV.sc (.int .i64 0), PV.sc (.int .i64 0)]], PV.sc (.int .i64 (opE (WQ b)))]) [] [])
abbrev Ji3 (b : List PV) := (Res.mk (PV.tup [PV.st 105 [PV.st 67 [PV.sc (.int .i64 0), PV.sc (.int .i64 0)], PV.sc (.int .i64 0), PV.sc (.int .i64 0), PV.ar 28 JcR, PV.sc (.int .i64 0), PV.ro 53 true true [], PV.st 67 [PV.sc (.int .i64 0), PV.sc (.int .i64 0)]], PV.sc (.int .i64 (dCk (Ji1 b)))]) [] [])
def g54 (f : Nat) (b_z b_f : Bool) (b : List PV) (k : KR) : OR := bif okT (RT.mk b 0 0) then bif okT (Jh 8 (RT.mk b 0 0)) then bif okT (Jh 8 (Jh 8 (RT.mk b 0 0))) then bif okT (WP b) then bif okT (Jh 8 (WP b)) then bif okT (hashT (Jh 8 (WP b))) then bif okT (J4 b) then bif okT (Q0 (J4 b)) then bif okT (Jh 8 (Q0 (J4 b))) then bif (Jh 8 (Jh 8 (Q0 (J4 b)))).e == 0 then bif decide ((Jh 8 (Jh 8 (Q0 (J4 b)))).P < zi (Jh 8 (Jh 8 (Q0 (J4 b)))).B.length) then k (Res.mk (.tup [.st 105 [.st 67 [.sc (.int .i64 0), .sc (.int .i64 0)], .sc (.int .i64 0), .sc (.int .i64 0), .ar 28 JcR, .sc (.int .i64 0), .ro 53 true true [], .st 67 [.sc (.int .i64 0), .sc (.int .i64 0)]], .sc (.int .i64 9)]) [] []) else bif (Jh 8 (Jh 8 (Q0 (J4 b)))).e == 0 then bif Je (X4 (J4 b)).size 1 && true then bif byB (WQ b) && (List.take (X4 (J4 b)).size (List.drop 0 (Jj (X4 (J4 b))))).length.ble 1000000000 then bif opE (WQ b) == 0 then bif cOk (opL (WQ b)) then bif dCk (Ji0 b) != 0 then k (JnN b) else k (Jfx b) else none else bif opE (WQ b) != 0 then k (Ji2 b) else k (Jfx b) else none else none else bif (Jh 8 (Jh 8 (Q0 (J4 b)))).e == 0 then bif cOk [] then bif dCk (Ji1 b) != 0 then k (Ji3 b) else k (Jfy b) else none else bif (Jh 8 (Jh 8 (Q0 (J4 b)))).e != 0 then k (JnM b) else k (Jfy b) else bif (Jh 8 (Jh 8 (Q0 (J4 b)))).e == 0 then bif Je (X4 (J4 b)).size 1 && true then bif byB (WQ b) && (List.take (X4 (J4 b)).size (List.drop 0 (Jj (X4 (J4 b))))).length.ble 1000000000 then bif opE (WQ b) == 0 then bif cOk (opL (WQ b)) then bif dCk (Ji0 b) != 0 then k (JnN b) else k (Jfx b) else none else bif opE (WQ b) != 0 then k (Ji2 b) else k (Jfx b) else none else none else bif (Jh 8 (Jh 8 (Q0 (J4 b)))).e == 0 then bif cOk [] then bif dCk (Ji1 b) != 0 then k (Ji3 b) else k (Jfy b) else none else bif (Jh 8 (Jh 8 (Q0 (J4 b)))).e != 0 then k (JnM b) else k (Jfy b) else none else none else none else none else none else none else none else none else none
theorem e54 (f : Nat) (b_z b_f : Bool) (b : List PV) (k : KR) : JI tau F54 Tryz.f54 (Tryz.f54.body.get!) JFt [.ro, .ro] 0 [.ro 5 b_z b_f b] [] k = g54 f b_z b_f b k := by kernel_rfl
theorem JP0 (f : Nat) : ∀ q ∈ Jf (Tryz.f54.body.get!) JFt, q.Ok tau Tryz.prog 0 := Jv (by kernel_rfl)
theorem JLz : Tryz.prog.funcs[54]? = some Tryz.f54 := by kernel_rfl
theorem JLA : Tryz.f54.body = some (Tryz.f54.body.get!) := by kernel_rfl
theorem JP1 : Enters Tryz.prog 54 := enters_of JLz (by kernel_rfl) JLA
def JuQ : Jy
 | [.ro 5 b_z b_f b], [], k => g54 0 b_z b_f b k
 | _, _, _ => none
def s54 : Sig := { own := [], run := JuQ }
theorem JP2 : Jc tau Tryz.prog 54 s54 := JN Jn JFs Jo JLz JLA JFt [.ro, .ro] 0 [] JuQ (JP0 0) fun xs es k res hr => by
 unfold JuQ at hr
 split at hr
 · exact ⟨rfl, 0, (e54 0 _ _ _  _).trans hr⟩
 · cases hr
theorem JuR (t : ByteArray) : byB (Jj t) = true := by
 unfold byB Jj
 refine List.all_eq_true.2 fun p hp => ?_
 obtain ⟨x, hx, rfl⟩ := List.mem_map.1 hp
 have := x.toNat_lt
 rw [Bool.and_eq_true, Bool.and_eq_true]
 refine ⟨rfl, decide_eq_true ?_, decide_eq_true ?_⟩
 · exact Int.natCast_nonneg _
 · exact Int.ofNat_lt.2 this
def d4 (b : List PV) : RS := Jb 8 (Jb 8 (Jb 8 (Jb 8 ⟨b, 0⟩)))
def d5 (b : List PV) : RS := hashS (d4 b)
def d7 (b : List PV) : RS := Qe (Jb 1 (d5 b))
def d9 (b : List PV) : RS := Jb 8 (Jb 8 (d7 b))
def dt (b : List PV) : List PV := Jj (JT (Jb 1 (d5 b)))
def dv (b : List PV) : DV := ⟨Jz 8 ⟨b, 0⟩, Jz 8 (Jb 8 ⟨b, 0⟩), Jz 8 (Jb 8 (Jb 8 ⟨b, 0⟩)), Jz 8 (Jb 8 (Jb 8 (Jb 8 ⟨b, 0⟩))), pu .u8 (hashV (d4 b)), Jz 1 (d5 b), opL (dt b), Jz 8 (d7 b), Jz 8 (Jb 8 (d7 b))⟩
def dE0 (b : List PV) : Int := bif (d9 b).e == 0 then (bif decide ((d9 b).b.length > 0) then 9 else bif opE (dt b) == 0 then dCk (dv b) else opE (dt b)) else (d9 b).e
def dE : List PV -> Int := hid dE0
def dN (b : List PV) : Nat -> Int
 | 0 => (dv b).ad
 | 1 => (dv b).au
 | 2 => (dv b).id
 | 3 => (dv b).ve
 | 4 => (dv b).kd
 | 5 => (dv b).wd
 | _ => (dv b).wu
def dF : Nat -> List PV -> Int := hid fun i b => bif dE0 b == 0 then dN b i else 0
def dH : List PV -> List Int := hid fun b => bif dE0 b == 0 then hashV (d4 b) else List.replicate 32 0
def dO : List PV -> List PV := hid fun b => bif dE0 b == 0 then opL (dt b) else []
def dOF : List PV -> Bool := hid fun b => !(dE0 b == 0)
theorem Jqg (b : List PV) : dE b = dE0 b := by rw [dE, hid_eq]
theorem Jqh (i : Nat) (b : List PV) : dF i b = bif dE0 b == 0 then dN b i else 0 := by rw [dF, hid_eq]
theorem Jqi (b : List PV) : dH b = bif dE0 b == 0 then hashV (d4 b) else List.replicate 32 0 := by rw [dH, hid_eq]
theorem Jqj (b : List PV) : dO b = bif dE0 b == 0 then opL (dt b) else [] := by rw [dO, hid_eq]
theorem JuS (b : List PV) : dOF b = !(dE0 b == 0) := by rw [dOF, hid_eq]
def Jqk (e : Int) : PV := .tup [.st 105 [.st 67 [.sc (.int .i64 0), .sc (.int .i64 0)], .sc (.int .i64 0), .sc (.int .i64 0), .ar 28 (pu .u8 (List.replicate 32 0)), .sc (.int .i64 0), .ro 53 true true [], .st 67 [.sc (.int .i64 0), .sc (.int .i64 0)]], .sc (.int .i64 e)]
def dP (b : List PV) : PV := .tup [.st 105 [.st 67 [.sc (.int .i64 (dF 0 b)), .sc (.int .i64 (dF 1 b))], .sc (.int .i64 (dF 2 b)), .sc (.int .i64 (dF 3 b)), .ar 28 (pu .u8 (dH b)), .sc (.int .i64 (dF 4 b)), .ro 53 (dO b).isEmpty (dO b).isEmpty (dO b), .st 67 [.sc (.int .i64 (dF 5 b)), .sc (.int .i64 (dF 6 b))]], .sc (.int .i64 (dE b))]
def dQ (b : List PV) : PV := .tup [.st 105 [.st 67 [.sc (.int .i64 (dF 0 b)), .sc (.int .i64 (dF 1 b))], .sc (.int .i64 (dF 2 b)), .sc (.int .i64 (dF 3 b)), .ar 28 (pu .u8 (dH b)), .sc (.int .i64 (dF 4 b)), .ro 53 (dO b).isEmpty (dOF b) (dO b), .st 67 [.sc (.int .i64 (dF 5 b)), .sc (.int .i64 (dF 6 b))]], .sc (.int .i64 (dE b))]
theorem Ji4 {b : List PV} {e : Int} (h : dE0 b = e) (h0 : (e == 0) = false) : dP b = Jqk e := by
 simp only [dP, Jqk, Jqh, Jqi, Jqj, Jqg, h, h0, cond_false, List.isEmpty_nil]
theorem Ji5 {b : List PV} {e : Int} (h : dE0 b = e) (h0 : (e == 0) = false) : dQ b = Jqk e := by
 simp only [dQ, Jqk, Jqh, Jqi, Jqj, Jqg, JuS, h, h0, cond_false, List.isEmpty_nil, Bool.not_false]
theorem JLB {b : List PV} (h : dE0 b = 0) : dP b = .tup [.st 105 [.st 67 [.sc (.int .i64 (Jz 8 ⟨b, 0⟩)), .sc (.int .i64 (Jz 8 (Jb 8 ⟨b, 0⟩)))], .sc (.int .i64 (Jz 8 (Jb 8 (Jb 8 ⟨b, 0⟩)))), .sc (.int .i64 (Jz 8 (Jb 8 (Jb 8 (Jb 8 ⟨b, 0⟩))))), .ar 28 (pu .u8 (hashV (d4 b))), .sc (.int .i64 (Jz 1 (d5 b))), .ro 53 (opL (dt b)).isEmpty (opL (dt b)).isEmpty (opL (dt b)), .st 67 [.sc (.int .i64 (Jz 8 (d7 b))), .sc (.int .i64 (Jz 8 (Jb 8 (d7 b))))]], .sc (.int .i64 0)] := by
 simp only [dP, Jqh, Jqi, Jqj, Jqg, h, beq_self_eq_true, cond_true, dN, dv]
theorem JLC {b : List PV} (h : dE0 b = 0) : dQ b = .tup [.st 105 [.st 67 [.sc (.int .i64 (Jz 8 ⟨b, 0⟩)), .sc (.int .i64 (Jz 8 (Jb 8 ⟨b, 0⟩)))], .sc (.int .i64 (Jz 8 (Jb 8 (Jb 8 ⟨b, 0⟩)))), .sc (.int .i64 (Jz 8 (Jb 8 (Jb 8 (Jb 8 ⟨b, 0⟩))))), .ar 28 (pu .u8 (hashV (d4 b))), .sc (.int .i64 (Jz 1 (d5 b))), .ro 53 (opL (dt b)).isEmpty false (opL (dt b)), .st 67 [.sc (.int .i64 (Jz 8 (d7 b))), .sc (.int .i64 (Jz 8 (Jb 8 (d7 b))))]], .sc (.int .i64 0)] := by
 simp only [dQ, Jqh, Jqi, Jqj, Jqg, JuS, h, beq_self_eq_true, cond_true, Bool.not_true, dN, dv]
theorem Jql {b : List PV} (h : byB b = true) : cOk (opL b) = true := by
 rw [Jft]
 cases ZI b == 0 with
 | true => exact JiY (JnG h) _
 | false => exact Wh.2 ⟨rfl, Nat.zero_le _⟩
theorem JB6 (f : Nat) (k0 : Int -> Int -> Int -> Int -> List PV -> Int -> List PV -> Int -> Int -> Bool -> Bool -> List PV -> Int -> Int -> Int -> Int -> Int -> List PV -> Int -> List PV -> Int -> Int -> OR) (z fl : Bool) (hz : (!z || fl) = true) (x1 x2 x3 x4 : Int) (x5 : List PV) (x6 : Int) (x7 : List PV) (x8 x9 y14 y15 y16 y17 y19 : Int) (y20 : List PV) (y21 y22 : Int) : ∀ (d i n : Nat) (s : RS) (L : List Int), i + d = 32 -> d < n -> byB s.b = true -> L.length = 32 ->
  Jab f k0 n (i : Int) x1 x2 x3 x4 x5 x6 x7 x8 x9 z fl s.b s.e y14 y15 y16 y17 (pu .u8 L) y19 y20 y21 y22 = k0 x1 x2 x3 x4 x5 x6 x7 x8 x9 z fl (Jfa d s).b (Jfa d s).e y14 y15 y16 y17 (pu .u8 (L.take i ++ Jbt d s)) y19 y20 y21 y22
 | 0, i, n + 1, s, L, h, hn, hb, hL => by
   obtain rfl : i = 32 := by omega
   simp only [Jab, JbQ, Jfa, Jbt, List.append_nil]
   rw [List.take_of_length_le (by omega)]
   exact Jd (by decide)
 | d + 1, i, n + 1, s, L, h, hn, hb, hL => by
   have g1 := tI i
   have w1 := wI (i := i) (by omega)
   have hm : RS.mk s.b s.e = s := rfl
   simp only [Jab, JbQ, g1, w1, hm, Xx]
   refine (Ja (by simp; omega)).trans ((Ja (by rw [hb, hz]; rfl)).trans ((Ja (by simp [zi]; omega)).trans ?_))
   have := JB6 f k0 z fl hz x1 x2 x3 x4 x5 x6 x7 x8 x9 y14 y15 y16 y17 y19 y20 y21 y22 d (i + 1) n (Qi 1 s) (L.set i (IntKind.u8.wrap (Jz 1 s))) (by omega) (by omega) (YW hb 1) (by simpa using hL)
   rw [X2]
   refine Eq.trans this ?_
   have hset : (L.set i (IntKind.u8.wrap (Jz 1 s))).take (i + 1) = L.take i ++ [IntKind.u8.wrap (Jz 1 s)] := by
    rw [List.take_add_one, List.take_set_of_le (Nat.le_refl i), List.getElem?_set_self (by omega)]; rfl
   rw [hset, Zl]
   simp only [Jfa, Jbt, List.append_assoc, List.cons_append, List.nil_append]
theorem JFu (z f : Bool) (b : List PV) (hz : slB z b = true) (hb : byB b = true) (k : KR) :
  g48 40 z f b k = k ⟨dP b, [], []⟩ := by
 have hE : dE0 b = dE0 b := rfl
 conv at hE => rhs; unfold dE0
 have hzz : (!z || z) = true := by cases z <;> rfl
 have c1 := Qj (s := ⟨b, 0⟩) hb 8
 have c2 := Qj c1 8
 have c3 := Qj c2 8
 have c4 : byB (d4 b).b = true := Qj c3 8
 have c5 : byB (d5 b).b = true := by unfold d5; rw [hashS_eq]; exact Jiq 32 c4
 have c6 := Qj c5 1
 have c7 : byB (d7 b).b = true := JpP c6
 have c8 := Qj c7 8
 unfold g48 Jfw Xy
 refine (Ja hz).trans ((Ja (by rw [hb, hzz]; rfl)).trans ((Ja (by rw [c1, hzz]; rfl)).trans ((Ja (by rw [c2, hzz]; rfl)).trans ((Ja (by rw [c3, hzz]; rfl)).trans ?_))))
 refine (JB6 40 _ z z hzz _ _ _ _ _ _ _ _ _ _ _ _ _ _ _ _ _ 32 0 40 (d4 b) (List.replicate 32 0) (by omega) (by omega) c4 (by simp)).trans ?_
 have hr : Jfa 32 (d4 b) = d5 b := by unfold d5; rw [hashS_eq]
 have hv : Jbt 32 (d4 b) = hashV (d4 b) := by rw [hashV_eq]
 have hm : RS.mk (d5 b).b (d5 b).e = d5 b := rfl
 have h7 : Qe (Jb 1 (d5 b)) = d7 b := rfl
 have h9 : Jb 8 (Jb 8 (d7 b)) = d9 b := rfl
 have hsz := JgV c6
 have htk : List.take (JT (Jb 1 (d5 b))).size (dt b) = dt b := List.take_of_length_le (by unfold dt; rw [Yt]; exact Nat.le_refl _)
 have hto : Jj (JT (Jb 1 (d5 b))) = dt b := rfl
 have hbt : byB (dt b) = true := JuR _
 have hlt : (dt b).length <= 65535 := by unfold dt; rw [Yt]; exact hsz
 have hsl : slB (Ent.vec false 5 false (dt b)).nil (dt b) = true := XG.2 ⟨fun h => by simp [Ent.nil] at h, by omega⟩
 have hz9 : decide (zi (d9 b).b.length > 0) = decide ((d9 b).b.length > 0) := by apply decide_eq_decide.2; simp only [zi]; omega
 have hdv : DV.mk (Jz 8 ⟨b, 0⟩) (Jz 8 (Jb 8 ⟨b, 0⟩)) (Jz 8 (Jb 8 (Jb 8 ⟨b, 0⟩))) (Jz 8 (Jb 8 (Jb 8 (Jb 8 ⟨b, 0⟩)))) (pu .u8 (hashV (d4 b))) (Jz 1 (d5 b)) (opL (dt b)) (Jz 8 (d7 b)) (Jz 8 (Jb 8 (d7 b))) = dv b := rfl
 simp only [hr, hv, hm, h7, h9, List.take_zero, List.nil_append, List.drop_zero, htk, hto, hz9, hdv, hsl, hbt, hzz, c5, c6, c7, c8, Jql hbt, Bool.true_and, Bool.and_true, cond_true]
 cases he : ((d9 b).e == 0) with
 | false =>
  rw [he, cond_false] at hE
  rw [Ji4 hE he]
  simp only [cond_false]
  exact Ja (by rw [bne, he]; rfl)
 | true =>
  rw [he, cond_true] at hE
  cases h9 : decide ((d9 b).b.length > 0) with
  | true =>
   rw [h9, cond_true] at hE
   rw [Ji4 hE (by decide)]
   rfl
  | false =>
   rw [h9, cond_false] at hE
   simp only [cond_true, cond_false]
   refine (Ja (by simp [Je]; omega)).trans ?_
   cases ho : (opE (dt b) == 0) with
   | false =>
    rw [ho, cond_false] at hE
    try simp only [cond_false]
    rw [Ji4 hE ho]
    exact Ja (by rw [bne, ho]; rfl)
   | true =>
    rw [ho, cond_true] at hE
    try simp only [cond_true]
    cases hd : (dCk (dv b) == 0) with
    | false =>
     rw [Ji4 hE hd]
     exact Ja (by rw [bne, hd]; rfl)
    | true =>
     have hd' : dCk (dv b) = 0 := by simpa using hd
     rw [hd'] at hE
     rw [JLB hE]
     exact Jd (by rw [bne, hd]; rfl)
def JnO : Jy
 | [.ro 5 z f b], [], k => bif slB z b && byB b then k ⟨dP b, [], []⟩ else none
 | _, _, _ => none
def JLD : Sig := { own := [], run := JnO }
theorem JLE : Jc tau Tryz.prog 48 JLD := Jc.mk' fun xs es k res hl hr => by
 change JnO xs es k = some res at hr
 unfold JnO at hr
 split at hr
 · rename_i z f b
   obtain ⟨hc, hr⟩ := Ju hr
   rw [Bool.and_eq_true] at hc
   have hg := (JFu z f b hc.1 hc.2 k).trans hr
   exact J1 Jn JuM Jo JLr JLs (JyY (Jfv 40)) [.ro, .ro] 0 0 (JPX 40) hl rfl ((e48 40 z f b k).trans hg)
 · cases hr
theorem JFv (z f : Bool) (b : List PV) (hb : byB b = true) (hlen : b.length <= 1000000000) (k : KR) :
  g54 0 z f b k = k ⟨dQ b, [], []⟩ := by
 have hE : dE0 b = dE0 b := rfl
 conv at hE => rhs; unfold dE0
 have c0 : okT (RT.mk b 0 0) = true := by simp [okT, hb]; omega
 have hv0 : (RT.mk b 0 0).view = RS.mk b 0 := rfl
 have c1 := QE c0 8
 have c2 := QE c1 8
 have c3 := QE c2 8
 have c4 := QE c3 8
 have c5 := JtV c4
 have c6 := QE c5 1
 have c7 := Jkx c6
 have c8 := QE c7 8
 have c9 := QE c8 8
 have b1 := Qj (s := ⟨b, 0⟩) hb 8
 have b4 : byB (d4 b).b = true := Qj (Qj (Qj b1 8) 8) 8
 have b5 : byB (d5 b).b = true := by unfold d5; rw [hashS_eq]; exact Jiq 32 b4
 have b6 := Qj b5 1
 have v4 : (Jh 8 (Jh 8 (Jh 8 (Jh 8 (RT.mk b 0 0))))).view = d4 b := by simp only [Ql, hv0, d4]
 have v5 : (hashT (Jh 8 (Jh 8 (Jh 8 (Jh 8 (RT.mk b 0 0)))))).view = d5 b := by rw [hashT_view, v4, d5]
 have v7 : (Q0 (Jh 1 (hashT (Jh 8 (Jh 8 (Jh 8 (Jh 8 (RT.mk b 0 0)))))))).view = d7 b := by rw [JgR, Ql, v5, d7]
 have v9 : (Jh 8 (Jh 8 (Q0 (Jh 1 (hashT (Jh 8 (Jh 8 (Jh 8 (Jh 8 (RT.mk b 0 0)))))))))).view = d9 b := by rw [Ql, Ql, v7, d9]
 have n0 : Qk 8 (RT.mk b 0 0) = Jz 8 ⟨b, 0⟩ := by rw [WM, hv0]
 have n1 : Qk 8 (Jh 8 (RT.mk b 0 0)) = Jz 8 (Jb 8 ⟨b, 0⟩) := by simp only [WM, Ql, hv0]
 have n2 : Qk 8 (Jh 8 (Jh 8 (RT.mk b 0 0))) = Jz 8 (Jb 8 (Jb 8 ⟨b, 0⟩)) := by simp only [WM, Ql, hv0]
 have n3 : Qk 8 (Jh 8 (Jh 8 (Jh 8 (RT.mk b 0 0)))) = Jz 8 (Jb 8 (Jb 8 (Jb 8 ⟨b, 0⟩))) := by simp only [WM, Ql, hv0]
 have n4 : hashVT (Jh 8 (Jh 8 (Jh 8 (Jh 8 (RT.mk b 0 0))))) = hashV (d4 b) := by rw [hashVT_val, v4]
 have n5 : Qk 1 (hashT (Jh 8 (Jh 8 (Jh 8 (Jh 8 (RT.mk b 0 0)))))) = Jz 1 (d5 b) := by rw [WM, v5]
 have n6 : X4 (Jh 1 (hashT (Jh 8 (Jh 8 (Jh 8 (Jh 8 (RT.mk b 0 0))))))) = JT (Jb 1 (d5 b)) := by rw [JgS, Ql, v5]
 have n7 : Qk 8 (Q0 (Jh 1 (hashT (Jh 8 (Jh 8 (Jh 8 (Jh 8 (RT.mk b 0 0)))))))) = Jz 8 (d7 b) := by rw [WM, v7]
 have n8 : Qk 8 (Jh 8 (Q0 (Jh 1 (hashT (Jh 8 (Jh 8 (Jh 8 (Jh 8 (RT.mk b 0 0))))))))) = Jz 8 (Jb 8 (d7 b)) := by rw [WM, Ql, v7]
 unfold g54 Ji3 Ji2 JnN JnM Ji1 Ji0 Jfy Jfx WQ JbT JbS JcR J4 WP
 refine (Ja c0).trans ((Ja c1).trans ((Ja c2).trans ((Ja c3).trans ((Ja c4).trans ((Ja c5).trans ((Ja c6).trans ((Ja c7).trans ((Ja c8).trans ?_))))))))
 simp only [n0, n1, n2, n3, n4, n5, n6, n7, n8]
 generalize Jh 8 (Jh 8 (Q0 (Jh 1 (hashT (Jh 8 (Jh 8 (Jh 8 (Jh 8 (RT.mk b 0 0))))))))) = t at *
 have hte : t.e = (d9 b).e := by rw [← v9]; rfl
 have htP : decide (t.P < zi t.B.length) = decide ((d9 b).b.length > 0) := by
  rw [← v9]
  show decide _ = decide ((List.drop _ _).length > 0)
  rw [List.length_drop]
  simp only [okT, Bool.and_eq_true, decide_eq_true_eq] at c9
  apply decide_eq_decide.2
  simp only [zi]; omega
 have hsz := JgV b6
 have htk : List.take (JT (Jb 1 (d5 b))).size (dt b) = dt b := List.take_of_length_le (by unfold dt; rw [Yt]; exact Nat.le_refl _)
 have hto : Jj (JT (Jb 1 (d5 b))) = dt b := rfl
 have hbt : byB (dt b) = true := JuR _
 have hlt : (dt b).length <= 65535 := by unfold dt; rw [Yt]; exact hsz
 have hble : (dt b).length.ble 1000000000 = true := by rw [Nat.ble_eq]; omega
 have hdv : DV.mk (Jz 8 ⟨b, 0⟩) (Jz 8 (Jb 8 ⟨b, 0⟩)) (Jz 8 (Jb 8 (Jb 8 ⟨b, 0⟩))) (Jz 8 (Jb 8 (Jb 8 (Jb 8 ⟨b, 0⟩)))) (pu .u8 (hashV (d4 b))) (Jz 1 (d5 b)) (opL (dt b)) (Jz 8 (d7 b)) (Jz 8 (Jb 8 (d7 b))) = dv b := rfl
 simp only [hte, htP, List.drop_zero, htk, hto, hdv, hbt, hble, Jql hbt, Bool.true_and, Bool.and_true, cond_true]
 cases he : ((d9 b).e == 0) with
 | false =>
  rw [he, cond_false] at hE
  rw [Ji5 hE he]
  simp only [cond_false]
  exact Ja (by rw [bne, he]; rfl)
 | true =>
  rw [he, cond_true] at hE
  cases h9 : decide ((d9 b).b.length > 0) with
  | true =>
   rw [h9, cond_true] at hE
   rw [Ji5 hE (by decide)]
   rfl
  | false =>
   rw [h9, cond_false] at hE
   simp only [cond_true, cond_false]
   refine (Ja (by simp [Je]; omega)).trans ?_
   cases ho : (opE (dt b) == 0) with
   | false =>
    rw [ho, cond_false] at hE
    try simp only [cond_false]
    rw [Ji5 hE ho]
    exact Ja (by rw [bne, ho]; rfl)
   | true =>
    have hoF : opF (dt b) = false := by rw [JnF, ← Jfs, ho]; rfl
    rw [ho, cond_true] at hE
    try simp only [cond_true]
    cases hd : (dCk (dv b) == 0) with
    | false =>
     rw [Ji5 hE hd]
     exact Ja (by rw [bne, hd]; rfl)
    | true =>
     have hd' : dCk (dv b) = 0 := by simpa using hd
     rw [hd'] at hE
     rw [JLC hE, hoF]
     exact Jd (by rw [bne, hd]; rfl)
def JnP : Jy
 | [.ro 5 z f b], [], k => bif byB b && Nat.ble b.length 1000000000 then k ⟨dQ b, [], []⟩ else none
 | _, _, _ => none
def JLF : Sig := { own := [], run := JnP }
theorem JLG : Jc tau Tryz.prog 54 JLF := JP2.of fun xs es k res hr => by
 change JnP xs es k = some res at hr
 unfold JnP at hr
 split at hr
 · rename_i z f b
   obtain ⟨hc, hr⟩ := Ju hr
   rw [Bool.and_eq_true, Nat.ble_eq] at hc
   exact (JFv z f b hc.1 hc.2 k).trans hr
 · cases hr

def F20 : Fns := Jr 47 JEJ (Jr 46 JyI (F0))
theorem JFw : Jp tau Tryz.prog F20 := ((Js).add Jus JE0).add JBz JKj
def JFx : An := (.seq .leaf (.seq .leaf .leaf))
abbrev Ji6 (prev : List PV) (y2 : List PV) (y3 : List PV) (e_At : Int) (e_Op : List PV) := (List.take (0 + (List.take 32 prev).length + (List.take (JZ (EV.mk y2 y3 e_At e_Op)).length (pu IntKind.u8 (JZ (EV.mk y2 y3 e_At e_Op)))).length) (List.take (0 + (List.take 32 prev).length) (List.take 32 prev) ++ List.take (JZ (EV.mk y2 y3 e_At e_Op)).length (pu IntKind.u8 (JZ (EV.mk y2 y3 e_At e_Op)))))
def g20 (f : Nat) (prev : List PV) (y0 y1 : Bool) (y2 y3 : List PV) (e_At : Int) (y4 y5 : Bool) (e_Op y6 y7 : List PV) (k : KR) : OR := bif Je (0 + (List.take 32 prev).length) 1 && true then bif eOk (EV.mk y2 y3 e_At e_Op) then bif Je (0 + (List.take 32 prev).length + (List.take (JZ (EV.mk y2 y3 e_At e_Op)).length (pu IntKind.u8 (JZ (EV.mk y2 y3 e_At e_Op)))).length) 1 && true then bif Jk IntKind.u8 (Ji6 prev y2 y3 e_At e_Op) && decide ((Ji6 prev y2 y3 e_At e_Op).length <= 140737488355000) then k (Res.mk (.ar 28 (pu IntKind.u8 (JX (JC (Ji6 prev y2 y3 e_At e_Op))))) [] []) else none else none else none else none
theorem e20 (f : Nat) (prev : List PV) (y0 y1 : Bool) (y2 y3 : List PV) (e_At : Int) (y4 y5 : Bool) (e_Op y6 y7 : List PV) (k : KR) : JI tau F20 Tryz.f20 (Tryz.f20.body.get!) JFx [.ro] 0 [.ar 28 prev, .st 34 [.st 30 [.ro 5 y0 y1 y2, .ar 28 y3], .sc (.int .i64 e_At), .ro 53 y4 y5 e_Op, .ar 28 y6, .ar 28 y7]] [] k = g20 f prev y0 y1 y2 y3 e_At y4 y5 e_Op y6 y7 k := by kernel_rfl
theorem JP3 (f : Nat) : ∀ q ∈ Jf (Tryz.f20.body.get!) JFx, q.Ok tau Tryz.prog 0 := Jv (by kernel_rfl)
theorem JLH : Tryz.prog.funcs[20]? = some Tryz.f20 := by kernel_rfl
theorem JLI : Tryz.f20.body = some (Tryz.f20.body.get!) := by kernel_rfl
theorem JFy : Enters Tryz.prog 20 := enters_of JLH (by kernel_rfl) JLI
def JuT : Jy
 | [.ar 28 prev, .st 34 [.st 30 [.ro 5 y0 y1 y2, .ar 28 y3], .sc (.int .i64 e_At), .ro 53 y4 y5 e_Op, .ar 28 y6, .ar 28 y7]], [], k => g20 0 prev y0 y1 y2 y3 e_At y4 y5 e_Op y6 y7 k
 | _, _, _ => none
def s20 : Sig := { own := [], run := JuT }
theorem JLJ : Jc tau Tryz.prog 20 s20 := JN Jn JFw Jo JLH JLI JFx [.ro] 0 [] JuT (JP3 0) fun xs es k res hr => by
 unfold JuT at hr
 split at hr
 · exact ⟨rfl, 0, (e20 0 _ _ _ _ _ _ _ _ _ _ _  _).trans hr⟩
 · cases hr
theorem EntRep.free_none {τ : Tab} {im : Im} {ow : Own} {i : Nat} {e : Ent} {w : World} (he : EntRep τ im ow i e w) (hf : e.free = true) {l : Loc} {b : Nat} (hl : ow i = some l) (hb : l.blk = some b) : im b = none := by
 obtain ⟨loc, h1, h2⟩ := he
 obtain rfl : loc = l := Option.some.inj (h1.symm.trans hl)
 cases e with
 | dead => cases hf
 | box fz t v =>
  obtain ⟨k1, k2, b', cells, el, fr, pre, mid, post, q1, q2, q3, q4, q5, q6, q7, q8⟩ := h2
  have : fz = false := by cases fz with | true => cases hf | false => rfl
  obtain rfl : b = b' := Option.some.inj (hb.symm.trans q1)
  exact q8.1 this
 | vec fz t nl els =>
  obtain ⟨k1, k2, k3⟩ := h2
  have : fz = false := by cases fz with | true => cases hf | false => rfl
  rcases k3 with k3 | ⟨_, b', cells, el, fr, pre, mid, post, q1, q2, q3, q4, q5, q6, q7, q8⟩
  · rw [k3.1] at hb; cases hb
  · obtain rfl : b = b' := Option.some.inj (hb.symm.trans q1)
    exact q8.1 this
theorem Jc.dead {τ : Tab} {P : Program} {g : FuncId} {sg : Sig} (h : Jc τ P g sg) :
   Jc τ P g { own := sg.own, run := fun xs es k => sg.run xs es fun r => bif r.news.isEmpty && decide (r.pars.length <= 15) then k ⟨r.val, r.pars, [.dead]⟩ else none } := by
 intro xs es k res hl hrun
 obtain ⟨r, hk, H⟩ := h xs es _ res hl hrun
 obtain ⟨hn, hk'⟩ := Ju hk
 rw [Bool.and_eq_true, decide_eq_true_eq] at hn
 refine ⟨⟨r.val, r.pars, [.dead]⟩, hk', fun im ow w us hx hi => (H im ow w us hx hi).mono fun e w' hp => ?_⟩
 obtain ⟨u, im', ow', h1, h2, G⟩ := hp
 have hn0 : r.news = [] := List.isEmpty_iff.1 hn.1
 rw [hn0] at G
 have e16 : JQ r.pars [] 16 = none := rfl
 have d16 : JQ r.pars [.dead] 16 = some .dead := rfl
 have same : ∀ i, i ≠ 16 -> JQ r.pars [.dead] i = JQ r.pars [] i := by
   intro i hi
   unfold JQ
   by_cases h16 : i < 16
   · rw [if_pos h16, if_pos h16]
   · rw [if_neg h16, if_neg h16]
     obtain ⟨m, hm⟩ : ∃ m, i - 16 = m + 1 := ⟨i - 17, by omega⟩
     rw [hm]; rfl
 have o16 : ow' 16 = none := by
   cases ho : ow' 16 with
   | none => rfl
   | some l =>
     obtain ⟨e, he⟩ := G.inv.dom 16 l ho
     rw [e16] at he; cases he
 let ow2 : Own := XD ow' 16 ⟨none, 0, .box 0, 0⟩
 have t16 : ow2 16 = some ⟨none, 0, .box 0, 0⟩ := if_pos rfl
 have tne : ∀ i, i ≠ 16 -> ow2 i = ow' i := fun i hi => if_neg hi
 have how : ∀ i l, ow' i = some l -> ow2 i = some l := by
   intro i l hil
   by_cases h16 : i = 16
   · subst h16; rw [o16] at hil; cases hil
   · rw [tne i h16]; exact hil
 have live : ∀ i b, Live (JQ r.pars [.dead]) ow2 i b -> Live (JQ r.pars []) ow' i b := by
   rintro i b ⟨e, l, q1, q2, q3, q4⟩
   by_cases h16 : i = 16
   · subst h16; rw [d16] at q1; obtain rfl := Option.some.inj q1; cases q2
   · exact ⟨e, l, by rw [← same i h16]; exact q1, q2, by rw [← tne i h16]; exact q3, q4⟩
 refine ⟨u, im', ow2, h1, Jg.mono (fun _ _ h => h) how _ _ h2, ⟨G.imX, fun i l hil => how i l (G.owX i l hil), ⟨G.inv.imOk, ?_, ?_, ?_⟩, G.size, G.keep, G.newim, fun i b hb => G.newlive i b (live i b hb), G.rest⟩⟩
 · intro i e he
   by_cases h16 : i = 16
   · subst h16; rw [d16] at he; obtain rfl := Option.some.inj he; exact ⟨_, t16, trivial⟩
   · rw [same i h16] at he
     have q := G.inv.ent i e he
     exact EntRep.keep (fun _ _ h => h) how (fun _ _ _ _ _ => rfl) (fun hf l b hl hb => q.free_none hf hl hb) q
 · intro i j b hi hj
   exact G.inv.inj i j b (live i b hi) (live j b hj)
 · intro i l hil
   by_cases h16 : i = 16
   · subst h16; exact ⟨_, d16⟩
   · rw [tne i h16] at hil
     obtain ⟨e, he⟩ := G.inv.dom i l hil
     exact ⟨e, by rw [same i h16]; exact he⟩
def JLK : Sig := { own := s20.own, run := fun xs es k => s20.run xs es fun r => bif r.news.isEmpty && decide (r.pars.length <= 15) then k ⟨r.val, r.pars, [.dead]⟩ else none }
theorem JLL : Jc tau Tryz.prog 20 JLK := JLJ.dead
end
end Go.Proofs.YthpmachmnoljeaaGreat.Rx
