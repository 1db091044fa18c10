/- What the functions of this law compute, and their plain laws. Conditions: none. -/
import Derived.KernelRfl
import Derived.Test.YtcklhipdldpkhaaSignDeltasP1
namespace Go.Proofs.Ytcklhipdldpkhaa.Rx
noncomputable section
open Go
set_option linter.unusedVariables false
set_option linter.unusedSimpArgs false
set_option maxRecDepth 100000
set_option maxHeartbeats 0
-- FN sha.padded
def JuX (n : Int) (i : Nat) : Int := IntKind.u8.wrap (JD .u64 n (56 - 8 * (i : Int)))
theorem Jsq (f : Nat) (N : Int) (k0 : Nat -> Bool -> List PV -> Option Res) (L : List Int) (hL : L.length <= 140737488355300) : ∀ (d i n : Nat) (z : Bool), i + d = 8 -> d < n -> (d = 0 -> z = false) ->
  XO f k0 n (L.length + i) N (i : Int) z (pu .u8 (L ++ (List.range i).map (JuX N))) = k0 (L.length + 8) false (pu .u8 (L ++ (List.range 8).map (JuX N)))
 | 0, i, n + 1, z, h, hn, hz => by
   obtain rfl : i = 8 := by omega
   simp only [XO, Gw]
   rw [hz rfl]
   exact Jv (by decide)
 | d + 1, i, n + 1, z, h, hn, hz => by
   have h1 : IntKind.i64.wrap ((i : Int) + 1) = ((i + 1 : Nat) : Int) := by rw [wrap_i64 (by omega) (by omega)]; omega
   have h8 : IntKind.i64.wrap (8 * (i : Int)) = 8 * (i : Int) := wrap_i64 (by omega) (by omega)
   have h9 : IntKind.i64.wrap (56 - 8 * (i : Int)) = 56 - 8 * (i : Int) := wrap_i64 (by omega) (by omega)
   have c1 : decide ((i : Int) < 8) = true := by simp; omega
   have c2 : decide (0 <= 56 - 8 * (i : Int)) = true := by simp; omega
   have c3 : Jl (L.length + i + 1) 1 = true := by simp [Jl]; omega
   have hlen : (L ++ (List.range i).map (JuX N)).length = L.length + i := by simp
   simp only [XO, Gw, h1, h8, h9, c1, c2, c3, Bool.and_true, cond_true, Xt, Bool.and_false]
   rw [List.take_of_length_le (by omega)]
   have := Jsq f N k0 L hL d (i + 1) n false (by omega) (by omega) (fun _ => rfl)
   rw [List.range_succ, List.map_append, ← List.append_assoc, JU] at this
   exact this
theorem Jsr (f : Nat) (N : Int) (k0 : Nat -> Bool -> List PV -> Option Res) (hf : 9 <= f) : ∀ (d n : Nat) (L : List Int) (z : Bool), zs L.length = d -> d < n -> L.length + d <= 140737488355200 ->
  VF f k0 n L.length N z (pu .u8 L) = XO f k0 f (L.length + d) N 0 (z && decide (d = 0)) (pu .u8 (L ++ List.replicate d 0))
 | 0, n + 1, L, z, hd, hn, hL => by
   simp only [VF, Gx, Jb7]
   refine (Jv (by simp [zs] at hd ⊢; omega)).trans ?_
   simp
 | d + 1, n + 1, L, z, hd, hn, hL => by
   have hlt : d + 1 < 64 := by rw [← hd]; unfold zs; omega
   have c3 : Jl (L.length + 1) 1 = true := by simp [Jl]; omega
   simp only [VF, Gx, Jb7, c3, Bool.and_true, cond_true, Xt, Bool.and_false]
   refine (Jb (by simp [zs] at hd ⊢; omega)).trans ?_
   rw [List.take_of_length_le (Nat.le_refl _)]
   have := Jsr f N k0 hf d n (L ++ [0]) false (by simp [zs] at hd ⊢; omega) (by omega) (by simp; omega)
   simp only [List.length_append, List.length_cons, List.length_nil, Nat.zero_add, JU] at this
   refine this.trans ?_
   rw [show L.length + 1 + d = L.length + (d + 1) from by omega, List.replicate_succ]
   simp
theorem JuY (nl : Bool) (bs : List Int) (hb : bs.length <= 140737488355000) (k : Res -> Option Res) : g69 100 nl (pu .u8 bs) bs.length k = k ⟨.ow 5 16 [] 0 (QC bs).length none, [.dead], [.vec false 5 false (pu .u8 (QC bs))]⟩ := by
 have c1 : (Jl (bs.length + 1) 1 && true) = true := by simp [Jl]; omega
 have c2 : (Jl (bs.length + 1 + 1) 1 && true) = true := by simp [Jl]; omega
 have hlen : (QC bs).length = bs.length + 1 + zs (bs.length + 1) + 8 := by simp [QC, Jpr]; omega
 have hz : zs (bs.length + 1) < 64 := by unfold zs; omega
 refine (Jb c1).trans ?_
 rw [Jb7, Xt, List.take_of_length_le (Nat.le_refl _)]
 have fin : ∀ z, XO 100 (fun x0_2 x1_2 x2_2 => k (Res.mk (PV.ow 5 16 [] 0 x0_2 none) [Ent.dead] [Ent.vec false 5 x1_2 x2_2])) 100 (bs.length + 1 + zs (bs.length + 1)) (IntKind.u64.wrap (IntKind.u64.wrap (zi bs.length) * 8)) 0 z (pu .u8 (bs ++ [128] ++ List.replicate (zs (bs.length + 1)) 0)) = k ⟨.ow 5 16 [] 0 (QC bs).length none, [.dead], [.vec false 5 false (pu .u8 (QC bs))]⟩ := by
  intro z
  have := Jsq 100 (IntKind.u64.wrap (IntKind.u64.wrap (zi bs.length) * 8)) (fun x0_2 x1_2 x2_2 => k (Res.mk (PV.ow 5 16 [] 0 x0_2 none) [Ent.dead] [Ent.vec false 5 x1_2 x2_2])) (bs ++ [128] ++ List.replicate (zs (bs.length + 1)) 0) (by simp; omega) 8 0 100 z (by omega) (by omega) (by omega)
  have hl2 : (bs ++ [128] ++ List.replicate (zs (bs.length + 1)) 0).length = bs.length + 1 + zs (bs.length + 1) := by simp; omega
  rw [hl2] at this
  simp only [List.range_zero, List.map_nil, List.append_nil, Nat.add_zero] at this
  rw [hlen]
  exact this
 cases hc : (((((bs.length + 1) % 64 : Nat) : Int)) != 56) with
 | true =>
  refine (Jb rfl).trans ((Jb c2).trans ?_)
  have hc' : ((bs.length + 1) % 64 : Nat) ≠ 56 := by simp at hc; omega
  have hz1 : zs (bs.length + 1 + 1) + 1 = zs (bs.length + 1) := by unfold zs; omega
  have := Jsr 100 (IntKind.u64.wrap (IntKind.u64.wrap (zi bs.length) * 8)) (fun x0_1 x1_1 x2_1 => k (Res.mk (PV.ow 5 16 [] 0 x0_1 none) [Ent.dead] [Ent.vec false 5 x1_1 x2_1])) (by omega) (zs (bs.length + 1 + 1)) 100 (bs ++ [128] ++ [0]) (nl && false && false) (by simp) (by unfold zs; omega) (by simp; omega)
  have h0 : pu .u8 (bs ++ [128] ++ [0]) = List.take (bs.length + 1) (pu .u8 bs ++ [PV.sc (Value.int IntKind.u8 128)]) ++ [PV.sc (Value.int IntKind.u8 0)] := by
   rw [List.take_of_length_le (by simp)]; simp
  rw [h0] at this
  simp only [List.length_append, List.length_cons, List.length_nil, Nat.zero_add] at this
  refine this.trans ?_
  have h3 : bs ++ [128] ++ [0] ++ List.replicate (zs (bs.length + 1 + 1)) 0 = bs ++ [128] ++ List.replicate (zs (bs.length + 1)) 0 := by
   rw [← hz1, List.replicate_succ]; simp
  rw [h3, show bs.length + 1 + 1 + zs (bs.length + 1 + 1) = bs.length + 1 + zs (bs.length + 1) from by omega]
  exact fin _
 | false =>
  refine (Jv rfl).trans ?_
  have hc' : ((bs.length + 1) % 64 : Nat) = 56 := by simp at hc; omega
  have hz0 : zs (bs.length + 1) = 0 := by unfold zs; omega
  have := fin (nl && false)
  rw [hz0] at this
  simpa using this
def Jid : List PV -> List Ent -> (Res -> Option Res) -> Option Res
 | [.ow 5 0 [] 0 n none], [.vec false 5 nl l], k => bif Jh .u8 l && (decide (n = l.length) && decide (l.length <= 140737488355000)) then k ⟨.ow 5 16 [] 0 (QC (Ji l)).length none, [.dead], [.vec false 5 false (pu .u8 (QC (Ji l)))]⟩ else none
 | _, _, _ => none
def Jy9 : Sig := { own := [true], run := Jid }
theorem Jza : Jf tau Try.prog 69 Jy9 := JP Jq Jic Jr Jy7 Jy8 _ [] 1 [true] Jid (JEq 100) fun xs es k res hr => by
 unfold Jid at hr
 split at hr
 · obtain ⟨hc, hr⟩ := JG hr
   simp only [Bool.and_eq_true, decide_eq_true_eq] at hc
   refine ⟨rfl, 0, (e69 100 _ _ _ _).trans ?_⟩
   rw [hc.2.1, Qc hc.1, JJ, JuY _ _ (by simpa using hc.2.2)]
   exact hr
 · cases hr
def F68 : Fns := F0
theorem JuZ : Ju tau Try.prog F68 := JB
def JpG : An := (.seq .leaf (.seq .leaf .leaf))
def g68 (f : Nat) (k : Res -> Option Res) : Option Res := k (Res.mk (.ar 113 [.sc (.int .u32 1779033703), .sc (.int .u32 3144134277), .sc (.int .u32 1013904242), .sc (.int .u32 2773480762), .sc (.int .u32 1359893119), .sc (.int .u32 2600822924), .sc (.int .u32 528734635), .sc (.int .u32 1541459225)]) [] [])
theorem e68 (f : Nat) (k : Res -> Option Res) : JN tau F68 Try.f68 (Try.f68.body.get!) JpG [.ro] 0 [] [] k = g68 f k := by kernel_rfl
theorem JEs (f : Nat) : Je (Try.f68.body.get!) JpG = [] := by kernel_rfl
theorem JEt (f : Nat) : ∀ q ∈ Je (Try.f68.body.get!) JpG, q.Ok tau Try.prog 0 := by
 rw [JEs f]; intro q hq; cases hq
theorem Jzb : Try.prog.funcs[68]? = some Try.f68 := by kernel_rfl
theorem Jzc : Try.f68.body = some (Try.f68.body.get!) := by kernel_rfl
theorem JEu : Enters Try.prog 68 := enters_of Jzb (by kernel_rfl) Jzc
def JmK : List PV -> List Ent -> (Res -> Option Res) -> Option Res
 | [], [], k => g68 0  k
 | _, _, _ => none
def s68 : Sig := { own := [], run := JmK }
theorem JEv : Jf tau Try.prog 68 s68 := JP Jq JuZ Jr Jzb Jzc JpG [.ro] 0 [] JmK (JEt 0) fun xs es k res hr => by
 unfold JmK at hr
 split at hr
 · exact ⟨rfl, 0, (e68 0  _).trans hr⟩
 · cases hr
def N27 : Nat := 37
def F27 : Fns := JC 68 s68 (JC 69 Jy9 (JC 70 JpD (JC 71 JyT F0)))
theorem Jie : Ju tau Try.prog F27 := (((JB.add JyU JEl).add JmJ JuS).add Jza JEr).add JEv JEu
def JdD : Code := Qu (Try.f27.body.get!) [1, 1, 0, 1, 0, 0]
def Yt : Nm := [(2, .any), (3, .any), (4, .ro)]
def Zx : Nm := [(2, .any), (3, .any)]
def Jgq : An := (.seq (.seq .leaf (.cond .leaf .leaf)) (.seq (.block none .leaf) .leaf))
def JdE : Code := Qu (Try.f27.body.get!) [1, 1, 1, 1, 0, 1, 0, 0]
def Yu : Nm := [(2, .any), (3, .any), (5, .any), (20, .any)]
def Zy : Nm := [(2, .any), (5, .any)]
def Jgr : An := (.seq .leaf (.seq (.cond .leaf .leaf) (.seq (.block none (.seq .leaf .leaf)) .leaf)))
def JpH (r0 : QJ) (r1 : QJ) : An := (.seq .leaf (.seq .leaf (.seq (.seq .leaf (.block none (.sum Yt N27 r0))) (.seq .leaf (.seq (.seq .leaf (.block none (.sum Yu N27 r1))) (.seq .leaf .leaf))))))
def Gy (f : Nat) (rc : List PV -> List PV -> List PV -> Option Res) (k0 : List PV -> List PV -> Option Res) (v0 v1 v2 : List PV) : Option Res := bif decide (zi v0.length > 0) then bif decide (64 <= v0.length) && true then bif Jh IntKind.u32 v2 && decide (v2.length = 8) && (Jh IntKind.u8 (List.take 64 v0) && decide ((List.take 64 v0).length = 64)) then bif decide (64 <= v0.length) && decide (v0.length <= v0.length) && true then rc (List.drop 64 (List.take v0.length v0)) v1 (pu IntKind.u32 (Jgh (Ji v2) (Ji (List.take 64 v0)))) else none else none else none else k0 v1 v2
def Zz (f : Nat) (k0 : List PV -> List PV -> Option Res) : Nat -> List PV -> List PV -> List PV -> Option Res
 | 0, _, _, _ => none
 | n + 1, v0, v1, v2 => Gy f (Zz f k0 n) k0 v0 v1 v2
theorem JpI (f : Nat) (k : Kont) (n : Nat) (v0 v1 v2 : List PV) : Jn tau 0 Yt (fun s k => ev tau F27 0 0 JdD (Jgq ) s k) (n + 1) (Jd Yt N27 [.ptr 608 [], .ptr 609 [], .ro 5 false false v0] [(608, .box false 37 (PV.ar 37 v1)), (609, .box false 113 (PV.ar 113 v2))]) (Jt tau 0 Zx k) = Gy f (fun v0 v1 v2 => Jn tau 0 Yt (fun s k => ev tau F27 0 0 JdD (Jgq ) s k) n (Jd Yt N27 [.ptr 608 [], .ptr 609 [], .ro 5 false false v0] [(608, .box false 37 (PV.ar 37 v1)), (609, .box false 113 (PV.ar 113 v2))]) (Jt tau 0 Zx k)) (fun x0 x1 => k (Ex.exit 0) (Jd Zx N27 [.ptr 608 [], .ptr 609 []] [(608, .box false 37 (PV.ar 37 x0)), (609, .box false 113 (PV.ar 113 x1))])) v0 v1 v2 := by kernel_rfl
theorem JjV (f : Nat) (k : Kont) : ∀ (n : Nat) (v0 v1 v2 : List PV), Jn tau 0 Yt (fun s k => ev tau F27 0 0 JdD (Jgq ) s k) n (Jd Yt N27 [.ptr 608 [], .ptr 609 [], .ro 5 false false v0] [(608, .box false 37 (PV.ar 37 v1)), (609, .box false 113 (PV.ar 113 v2))]) (Jt tau 0 Zx k) = Zz f (fun x0 x1 => k (Ex.exit 0) (Jd Zx N27 [.ptr 608 [], .ptr 609 []] [(608, .box false 37 (PV.ar 37 x0)), (609, .box false 113 (PV.ar 113 x1))])) n v0 v1 v2 | 0, _, _, _ => rfl | n + 1, v0, v1, v2 => (JpI f k n v0 v1 v2).trans (congrArg (fun r => Gy f r (fun x0 x1 => k (Ex.exit 0) (Jd Zx N27 [.ptr 608 [], .ptr 609 []] [(608, .box false 37 (PV.ar 37 x0)), (609, .box false 113 (PV.ar 113 x1))])) v0 v1 v2) (by funext v0 v1 v2; exact JjV f k n v0 v1 v2))
def Jcd (f : Nat) : List PV -> List (Nat × Ent) -> Kont -> Option Res
 | [.ptr 608 [], .ptr 609 [],
 PV.ro 5 false false
  v0], [(608, .box false 37 (PV.ar 37 v1)),
 (609,
  Ent.box false 113
   (PV.ar 113
    v2))], k => Zz f (fun x0 x1 => k (Ex.exit 0) (Jd Zx N27 [.ptr 608 [], .ptr 609 []] [(608, .box false 37 (PV.ar 37 x0)), (609, .box false 113 (PV.ar 113 x1))])) f v0 v1 v2
 | _, _, _ => none
theorem Ju0 (f : Nat) : Je JdD Jgq = [] := by kernel_rfl
theorem Jzd (f : Nat) : (Item.l JdD Yt N27 (Jcd f)).Ok tau Try.prog 0 := JI Jq Jie Jr (x := Jgq) (nm2 := Zx) (Js _ _ (by rw [Ju0 f]; intro q hq; cases hq)) fun vs hp k res hr => by
 unfold Jcd at hr
 split at hr
 · exact ⟨f, 0, (JjV f _ f _ _ _ ).trans hr⟩
 · cases hr
def Gz (f : Nat) (rc : Int -> List PV -> List PV -> List PV -> Option Res) (k0 : List PV -> List PV -> Option Res) (v0 : Int) (v1 v2 v3 : List PV) : Option Res := bif decide (v0 < 32) then bif decide (0 <= IntKind.i64.wrap (v0.tdiv 4)) && decide (IntKind.i64.wrap (v0.tdiv 4) < zi 8) && true then bif PV.isInt IntKind.u32 (Jm (PV.ar 113 v2) [(IntKind.i64.wrap (v0.tdiv 4)).toNat]) && true then bif decide (0 <= IntKind.i64.wrap (24 - IntKind.i64.wrap (8 * v0.tmod 4))) && true then bif decide (0 <= v0) && decide (v0 < zi 32) && true then rc (IntKind.i64.wrap (v0 + 1)) v1 v2 (v3.set v0.toNat (.sc (.int .u8 (IntKind.u8.wrap (JD IntKind.u32 (Jm (PV.ar 113 v2) [(IntKind.i64.wrap (v0.tdiv 4)).toNat]).int (IntKind.i64.wrap (24 - IntKind.i64.wrap (8 * v0.tmod 4)))))))) else none else none else none else none else k0 v1 v3
def ZA (f : Nat) (k0 : List PV -> List PV -> Option Res) : Nat -> Int -> List PV -> List PV -> List PV -> Option Res
 | 0, _, _, _, _ => none
 | n + 1, v0, v1, v2, v3 => Gz f (ZA f k0 n) k0 v0 v1 v2 v3
theorem JpJ (f : Nat) (k : Kont) (n : Nat) (v0 : Int) (v1 v2 v3 : List PV) : Jn tau 0 Yu (fun s k => ev tau F27 0 0 JdE (Jgr ) s k) (n + 1) (Jd Yu N27 [.ptr 608 [], .ptr 609 [], .ptr 610 [], .sc (.int .i64 v0)] [(608, .box false 37 (PV.ar 37 v1)), (609, .box false 113 (PV.ar 113 v2)), (610, .box false 37 (PV.ar 37 v3))]) (Jt tau 0 Zy k) = Gz f (fun v0 v1 v2 v3 => Jn tau 0 Yu (fun s k => ev tau F27 0 0 JdE (Jgr ) s k) n (Jd Yu N27 [.ptr 608 [], .ptr 609 [], .ptr 610 [], .sc (.int .i64 v0)] [(608, .box false 37 (PV.ar 37 v1)), (609, .box false 113 (PV.ar 113 v2)), (610, .box false 37 (PV.ar 37 v3))]) (Jt tau 0 Zy k)) (fun x0 x1 => k (Ex.exit 2) (Jd Zy N27 [.ptr 608 [], .ptr 609 []] [(608, .box false 37 (PV.ar 37 x0)), (609, .box false 37 (PV.ar 37 x1))])) v0 v1 v2 v3 := by kernel_rfl
theorem JjW (f : Nat) (k : Kont) : ∀ (n : Nat) (v0 : Int) (v1 v2 v3 : List PV), Jn tau 0 Yu (fun s k => ev tau F27 0 0 JdE (Jgr ) s k) n (Jd Yu N27 [.ptr 608 [], .ptr 609 [], .ptr 610 [], .sc (.int .i64 v0)] [(608, .box false 37 (PV.ar 37 v1)), (609, .box false 113 (PV.ar 113 v2)), (610, .box false 37 (PV.ar 37 v3))]) (Jt tau 0 Zy k) = ZA f (fun x0 x1 => k (Ex.exit 2) (Jd Zy N27 [.ptr 608 [], .ptr 609 []] [(608, .box false 37 (PV.ar 37 x0)), (609, .box false 37 (PV.ar 37 x1))])) n v0 v1 v2 v3 | 0, _, _, _, _ => rfl | n + 1, v0, v1, v2, v3 => (JpJ f k n v0 v1 v2 v3).trans (congrArg (fun r => Gz f r (fun x0 x1 => k (Ex.exit 2) (Jd Zy N27 [.ptr 608 [], .ptr 609 []] [(608, .box false 37 (PV.ar 37 x0)), (609, .box false 37 (PV.ar 37 x1))])) v0 v1 v2 v3) (by funext v0 v1 v2 v3; exact JjW f k n v0 v1 v2 v3))
def Jce (f : Nat) : List PV -> List (Nat × Ent) -> Kont -> Option Res
 | [.ptr 608 [], .ptr 609 [], .ptr 610 [],
 PV.sc
  (Value.int IntKind.i64
   v0)], [(608, .box false 37 (PV.ar 37 v1)), (609, .box false 113 (PV.ar 113 v2)),
 (610,
  Ent.box false 37
   (PV.ar 37
    v3))], k => ZA f (fun x0 x1 => k (Ex.exit 2) (Jd Zy N27 [.ptr 608 [], .ptr 609 []] [(608, .box false 37 (PV.ar 37 x0)), (609, .box false 37 (PV.ar 37 x1))])) f v0 v1 v2 v3
 | _, _, _ => none
theorem Ju1 (f : Nat) : Je JdE Jgr = [] := by kernel_rfl
theorem Jze (f : Nat) : (Item.l JdE Yu N27 (Jce f)).Ok tau Try.prog 0 := JI Jq Jie Jr (x := Jgr) (nm2 := Zy) (Js _ _ (by rw [Ju1 f]; intro q hq; cases hq)) fun vs hp k res hr => by
 unfold Jce at hr
 split at hr
 · exact ⟨f, 0, (JjW f _ f _ _ _ _ ).trans hr⟩
 · cases hr
def g27 (f : Nat) (nl fl : Bool) (l : List PV) (k : Res -> Option Res) : Option Res := bif l.all (PV.isRo 5) && (decide ((Jo l).length <= 140737488355328) && decide (l.length <= 140737488355328)) then bif Jh IntKind.u8 (Jo l) && (decide ((Jo l).length = (Jo l).length) && decide ((Jo l).length <= 140737488355000)) then Zz f (fun x0_0 x1_0 => ZA f (fun x0_1 x1_1 => k (Res.mk (.ar 37 x1_1) [] [])) f (0) x0_0 x1_0 ([.sc (.int .u8 0), .sc (.int .u8 0), .sc (.int .u8 0), .sc (.int .u8 0), .sc (.int .u8 0), .sc (.int .u8 0), .sc (.int .u8 0), .sc (.int .u8 0), .sc (.int .u8 0), .sc (.int .u8 0), .sc (.int .u8 0), .sc (.int .u8 0), .sc (.int .u8 0), .sc (.int .u8 0), .sc (.int .u8 0), .sc (.int .u8 0), .sc (.int .u8 0), .sc (.int .u8 0), .sc (.int .u8 0), .sc (.int .u8 0), .sc (.int .u8 0), .sc (.int .u8 0), .sc (.int .u8 0), .sc (.int .u8 0), .sc (.int .u8 0), .sc (.int .u8 0), .sc (.int .u8 0), .sc (.int .u8 0), .sc (.int .u8 0), .sc (.int .u8 0), .sc (.int .u8 0), .sc (.int .u8 0)])) f (List.take (QC (Ji (Jo l))).length (pu IntKind.u8 (QC (Ji (Jo l))))) ([.sc (.int .u8 0), .sc (.int .u8 0), .sc (.int .u8 0), .sc (.int .u8 0), .sc (.int .u8 0), .sc (.int .u8 0), .sc (.int .u8 0), .sc (.int .u8 0), .sc (.int .u8 0), .sc (.int .u8 0), .sc (.int .u8 0), .sc (.int .u8 0), .sc (.int .u8 0), .sc (.int .u8 0), .sc (.int .u8 0), .sc (.int .u8 0), .sc (.int .u8 0), .sc (.int .u8 0), .sc (.int .u8 0), .sc (.int .u8 0), .sc (.int .u8 0), .sc (.int .u8 0), .sc (.int .u8 0), .sc (.int .u8 0), .sc (.int .u8 0), .sc (.int .u8 0), .sc (.int .u8 0), .sc (.int .u8 0), .sc (.int .u8 0), .sc (.int .u8 0), .sc (.int .u8 0), .sc (.int .u8 0)]) ([.sc (.int .u32 1779033703), .sc (.int .u32 3144134277), .sc (.int .u32 1013904242), .sc (.int .u32 2773480762), .sc (.int .u32 1359893119), .sc (.int .u32 2600822924), .sc (.int .u32 528734635), .sc (.int .u32 1541459225)]) else none else none
theorem e27 (f : Nat) (nl fl : Bool) (l : List PV) (k : Res -> Option Res) : JN tau F27 Try.f27 (Try.f27.body.get!) (JpH (Jcd f) (Jce f)) [] 0 [.ro 29 nl fl l] [] k = g27 f nl fl l k := by kernel_rfl
theorem JEw (f : Nat) : Je (Try.f27.body.get!) (JpH (Jcd f) (Jce f)) = [.l JdD Yt N27 (Jcd f), .l JdE Yu N27 (Jce f)] := by kernel_rfl
theorem JEx (f : Nat) : ∀ q ∈ Je (Try.f27.body.get!) (JpH (Jcd f) (Jce f)), q.Ok tau Try.prog 0 := by
 rw [JEw f]; simp only [List.forall_mem_cons, List.not_mem_nil, false_implies, implies_true, and_true]; exact ⟨Jzd f, Jze f⟩
theorem Jzf : Try.prog.funcs[27]? = some Try.f27 := by kernel_rfl
theorem Jzg : Try.f27.body = some (Try.f27.body.get!) := by kernel_rfl
theorem JEy : Enters Try.prog 27 := enters_of Jzf (by kernel_rfl) Jzg
-- FN sha.Sum
theorem JdF : iv.length = 8 := rfl
theorem Jss (P : List Int) (m : Nat) (hP : P.length = 64 * m) (f : Nat) (k0 : List PV -> List PV -> Option Res) (a : List PV) : ∀ (d i n : Nat), i + d = m -> d < n ->
  Zz f k0 n (pu .u8 (P.drop (64 * i))) a (pu .u32 (Wg iv P i)) = k0 a (pu .u32 (Wg iv P m))
 | 0, i, n + 1, h, hn => by
   obtain rfl : i = m := by omega
   have hl : (P.drop (64 * i)).length = 0 := by rw [List.length_drop]; omega
   simp only [Zz, Gy, JJ, hl]
   exact Jv (by decide)
 | d + 1, i, n + 1, h, hn => by
   have hl : 64 <= (P.drop (64 * i)).length := by rw [List.length_drop]; omega
   have hf := WW iv P JdF i
   simp only [Zz, Gy, JJ, Xt, JO, hf, QW]
   refine (Jb (by simp; omega)).trans ?_
   refine (Jb (by simp at hl ⊢; omega)).trans ?_
   refine (Jb (by simp at hl ⊢; omega)).trans ?_
   refine (Jb (by simp at hl ⊢; omega)).trans ?_
   rw [List.take_of_length_le (Nat.le_refl _), Jjs, List.drop_drop]
   have := Jss P m hP f k0 a d (i + 1) n (by omega) (by omega)
   rw [show 64 * i + 64 = 64 * (i + 1) from by omega]
   exact this
theorem Jst (s : List Int) (hs : s.length = 8) (f : Nat) (k0 : List PV -> List PV -> Option Res) (a : List PV) (t : List Int) (ht : t.length = 32) : ∀ (d i n : Nat), i + d = 32 -> d < n ->
  ZA f k0 n (i : Int) a (pu .u32 s) (pu .u8 (QB (YX s) t i)) = k0 a (pu .u8 (Jls s))
 | 0, i, n + 1, h, hn => by
   obtain rfl : i = 32 := by omega
   simp only [ZA, Gz]
   refine (Jv (by decide)).trans ?_
   have := Q2 (YX s) t
   rw [ht] at this; rw [this]; rfl
 | d + 1, i, n + 1, h, hn => by
   have e1 : ((i : Int)).tdiv 4 = ((i / 4 : Nat) : Int) := by rw [Int.tdiv_eq_ediv_of_nonneg (by omega)]; omega
   have e2 : ((i : Int)).tmod 4 = ((i % 4 : Nat) : Int) := by rw [Int.tmod_eq_emod_of_nonneg (by omega)]; omega
   have h1 : IntKind.i64.wrap ((i : Int) + 1) = ((i + 1 : Nat) : Int) := by rw [wrap_i64 (by omega) (by omega)]; omega
   have h2 : IntKind.i64.wrap ((i / 4 : Nat) : Int) = ((i / 4 : Nat) : Int) := wrap_i64 (by omega) (by omega)
   have h3 : IntKind.i64.wrap (8 * ((i % 4 : Nat) : Int)) = 8 * ((i % 4 : Nat) : Int) := wrap_i64 (by omega) (by omega)
   have h4 : IntKind.i64.wrap (24 - 8 * ((i % 4 : Nat) : Int)) = 24 - 8 * ((i % 4 : Nat) : Int) := wrap_i64 (by omega) (by omega)
   have g1 : ((i : Int)).toNat = i := by omega
   have g2 : (((i / 4 : Nat) : Int)).toNat = i / 4 := by omega
   have c0 : decide ((i : Int) < 32) = true := by simp; omega
   have c1 : (decide (0 <= ((i / 4 : Nat) : Int)) && decide (((i / 4 : Nat) : Int) < zi 8) && true) = true := by simp; omega
   have c2 : (decide (0 <= 24 - 8 * ((i % 4 : Nat) : Int)) && true) = true := by simp; omega
   have c3 : (decide (0 <= (i : Int)) && decide ((i : Int) < zi 32) && true) = true := by simp; omega
   simp only [ZA, Gz, e1, e2, h1, h2, h3, h4, g1, g2, WR, c0, c1, c2, c3, Zs hs (i / 4) (by omega), PV.isInt, PV.int, decide_true, Bool.and_true, cond_true, Ws]
   have := Jst s hs f k0 a t ht d (i + 1) n (by omega) (by omega)
   rw [← Qw (YX s) t i (by omega)] at this
   exact this
theorem Ju2 (nl fl : Bool) (l : List PV) (k : Res -> Option Res) (hl : l.all (PV.isRo 5) = true) (hn : l.length <= 140737488355328) (hi : Jh .u8 (Jo l) = true) (hs : (Jo l).length <= 140737488355000) :
  g27 ((QC (Ji (Jo l))).length / 64 + 100) nl fl l k = k ⟨.ar 37 (pu .u8 (JE (Ji (Jo l)))), [], []⟩ := by
 refine (Jb (by simp only [hl, Bool.true_and, Bool.and_eq_true, decide_eq_true_eq]; omega)).trans ?_
 refine (Jb (by simp only [hi, Bool.true_and, Bool.and_eq_true, decide_eq_true_eq, true_and]; exact hs)).trans ?_
 rw [Xt, List.take_of_length_le (Nat.le_refl _)]
 generalize hP : QC (Ji (Jo l)) = P
 have hlen : P.length = 64 * (P.length / 64) := by rw [← hP]; exact JaZ _
 have h0 : ∀ k0 a, Zz (P.length / 64 + 100) k0 (P.length / 64 + 100) (pu .u8 P) a (pu .u32 iv) = k0 a (pu .u32 (Wg iv P (P.length / 64))) := fun k0 a => Jss P (P.length / 64) hlen _ k0 a (P.length / 64) 0 _ (by omega) (by omega)
 have h1 : ∀ k0 a s, s.length = 8 -> ZA (P.length / 64 + 100) k0 (P.length / 64 + 100) 0 a (pu .u32 s) (pu .u8 (List.replicate 32 0)) = k0 a (pu .u8 (Jls s)) := by
  intro k0 a s hs
  have := Jst s hs (P.length / 64 + 100) k0 a (List.replicate 32 0) (by simp) 32 0 (P.length / 64 + 100) (by omega) (by omega)
  rw [QH] at this
  exact this
 refine (h0 _ _).trans ((h1 _ _ _ (WW iv P JdF _)).trans ?_)
 rw [Jbp, JjK, hP]
def Jif : List PV -> List Ent -> (Res -> Option Res) -> Option Res
 | [.ro 29 nl fl l], [], k => bif (l.all (PV.isRo 5) && decide (l.length <= 140737488355328)) && (Jh .u8 (Jo l) && decide ((Jo l).length <= 140737488355000)) then k ⟨.ar 37 (pu .u8 (JE (Ji (Jo l)))), [], []⟩ else none
 | _, _, _ => none
def Jzh : Sig := { own := [], run := Jif }
theorem Jzi : Jf tau Try.prog 27 Jzh := JhL Jq Jie Jr Jzf Jzg (fun n => JpH (Jcd n) (Jce n)) [] 0 [] Jif (fun n => JEx n) fun xs es k res hr => by
 unfold Jif at hr
 split at hr
 · rename_i nl fl l
   obtain ⟨hc, hr⟩ := JG hr
   simp only [Bool.and_eq_true, decide_eq_true_eq] at hc
   refine ⟨rfl, (QC (Ji (Jo l))).length / 64 + 100, 0, (e27 _ _ _ _ _).trans ?_⟩
   rw [Ju2 nl fl l k hc.1.1 hc.1.2 hc.2.1 hc.2.2]; exact hr
 · cases hr
def Jzj : Fns := F0
theorem JpK : Ju tau Try.prog Jzj := JB
def JjX : An := (.seq .leaf (.seq (.seq .leaf (.cond (.seq .leaf .leaf) .leaf)) (.seq .leaf .leaf)))
def Jzk (f : Nat) (s_z s_f : Bool) (s : List PV) (k : Res -> Option Res) : Option Res := bif s_z then k (Res.mk (.ro 29 true true []) [] []) else bif Jl (0 + s.length) 24 && true then k (Res.mk (.ow 29 16 [] 0 (0 + s.length) none) [] [.vec false 29 false s]) else none
theorem JEz (f : Nat) (s_z s_f : Bool) (s : List PV) (k : Res -> Option Res) : JN tau Jzj Try.f136 (Try.f136.body.get!) JjX [] 0 [.ro 29 s_z s_f s] [] k = Jzk f s_z s_f s k := by kernel_rfl
theorem Jzl (f : Nat) : Je (Try.f136.body.get!) JjX = [] := by kernel_rfl
theorem Jzm (f : Nat) : ∀ q ∈ Je (Try.f136.body.get!) JjX, q.Ok tau Try.prog 0 := by
 rw [Jzl f]; intro q hq; cases hq
theorem Jsu : Try.prog.funcs[136]? = some Try.f136 := by kernel_rfl
theorem Jsv : Try.f136.body = some (Try.f136.body.get!) := by kernel_rfl
theorem Jzn : Enters Try.prog 136 := enters_of Jsu (by kernel_rfl) Jsv
def Jig : List PV -> List Ent -> (Res -> Option Res) -> Option Res
 | [.ro 29 s_z s_f s], [], k => Jzk 0 s_z s_f s k
 | _, _, _ => none
def Jzo : Sig := { own := [], run := Jig }
theorem Jzp : Jf tau Try.prog 136 Jzo := JP Jq JpK Jr Jsu Jsv JjX [] 0 [] Jig (Jzm 0) fun xs es k res hr => by
 unfold Jig at hr
 split at hr
 · exact ⟨rfl, 0, (JEz 0 _ _ _  _).trans hr⟩
 · cases hr
-- FN slices.overlaps[[]byte]
-- EXT slices.overlaps[[]byte]
def JjY : Sig := { own := [true, true], run := Jju 29 }
theorem Jih : Gf tau (Jl1 Try.prog 157) JjY :=
 Jxs (fn := Try.f157) (t := 47) (tR := 4) Jq (by kernel_rfl) (by kernel_rfl) (by kernel_rfl) (by kernel_rfl) (by kernel_rfl) (by kernel_rfl) (by
  have h : tau.und 29 = some (.slice 5) := by kernel_rfl
  rw [h]; intro h; cases h)
def Jzq : Fns := JC 157 JjY (F0)
theorem JpL : Ju tau Try.prog Jzq := (JB).addV Jih
def JjZ : An := (.seq .leaf (.seq .leaf (.seq .leaf (.seq (.seq .leaf (.cond (.seq .leaf .leaf) .leaf)) (.seq .leaf (.seq (.seq .leaf (.cond (.seq .leaf .leaf) .leaf)) (.seq (.seq .leaf (.cond (.seq .leaf (.seq .leaf (.seq .leaf (.seq .leaf .leaf)))) .leaf)) (.seq .leaf (.seq (.seq .leaf (.cond (.seq .leaf (.seq .leaf (.seq .leaf .leaf))) .leaf)) (.seq .leaf (.seq .leaf (.seq .leaf .leaf))))))))))))
def Ju3 (f : Nat) (nl : Bool) (L : List PV) (n c : Nat) (x : PV) (k : Res -> Option Res) : Option Res := bif decide (n + 1 <= (some c).getD (L.length - 0)) && true then bif decide (IntKind.i64.wrap (zi (n + 1) + zi 1) > zi c) then bif decide (0 <= IntKind.i64.wrap (IntKind.i64.wrap (zi (n + 1) + zi 1) - 0)) && decide (c - 0 < 0 + (IntKind.i64.wrap (IntKind.i64.wrap (zi (n + 1) + zi 1) - 0)).toNat) && Jl (0 + (IntKind.i64.wrap (IntKind.i64.wrap (zi (n + 1) + zi 1) - 0)).toNat) 24 && true then bif decide (0 + (IntKind.i64.wrap (IntKind.i64.wrap (zi (n + 1) + zi 1) - 0)).toNat <= none.getD ((List.replicate (IntKind.i64.wrap (IntKind.i64.wrap (zi (n + 1) + zi 1) - 0)).toNat (PV.ro 5 true true [])).length - 0)) && true then bif decide (1 <= 0 + (IntKind.i64.wrap (IntKind.i64.wrap (zi (n + 1) + zi 1) - 0)).toNat) && decide (0 + (IntKind.i64.wrap (IntKind.i64.wrap (zi (n + 1) + zi 1) - 0)).toNat <= none.getD ((List.take (0 + (IntKind.i64.wrap (IntKind.i64.wrap (zi (n + 1) + zi 1) - 0)).toNat - 0) [x] ++ List.drop (0 + min 1 (0 + (IntKind.i64.wrap (IntKind.i64.wrap (zi (n + 1) + zi 1) - 0)).toNat - 0)) (List.replicate (IntKind.i64.wrap (IntKind.i64.wrap (zi (n + 1) + zi 1) - 0)).toNat (PV.ro 5 true true []))).length - 0)) && true then bif decide (n + 1 <= (some c).getD (L.length - 0)) && true then k (Res.mk (.ro 29 false false (List.take (0 + (IntKind.i64.wrap (IntKind.i64.wrap (zi (n + 1) + zi 1) - 0)).toNat) (List.take 1 (List.take (0 + (IntKind.i64.wrap (IntKind.i64.wrap (zi (n + 1) + zi 1) - 0)).toNat - 0) [x] ++ List.drop (0 + min 1 (0 + (IntKind.i64.wrap (IntKind.i64.wrap (zi (n + 1) + zi 1) - 0)).toNat - 0)) (List.replicate (IntKind.i64.wrap (IntKind.i64.wrap (zi (n + 1) + zi 1) - 0)).toNat (PV.ro 5 true true []))) ++ List.take (0 + (IntKind.i64.wrap (IntKind.i64.wrap (zi (n + 1) + zi 1) - 0)).toNat - 1) (List.take (n + 1 - 0) L) ++ List.drop (1 + min (List.take (n + 1 - 0) L).length (0 + (IntKind.i64.wrap (IntKind.i64.wrap (zi (n + 1) + zi 1) - 0)).toNat - 1)) (List.take (0 + (IntKind.i64.wrap (IntKind.i64.wrap (zi (n + 1) + zi 1) - 0)).toNat - 0) [x] ++ List.drop (0 + min 1 (0 + (IntKind.i64.wrap (IntKind.i64.wrap (zi (n + 1) + zi 1) - 0)).toNat - 0)) (List.replicate (IntKind.i64.wrap (IntKind.i64.wrap (zi (n + 1) + zi 1) - 0)).toNat (PV.ro 5 true true [])))))) [.vec false 29 nl L, .vec false 29 false [x]] []) else none else none else none else none else bif decide (0 <= IntKind.i64.wrap (zi (n + 1) + zi 1)) && true && decide ((IntKind.i64.wrap (zi (n + 1) + zi 1)).toNat <= (some c).getD (L.length - 0)) && true then bif decide (1 <= (IntKind.i64.wrap (zi (n + 1) + zi 1)).toNat - 0) && decide ((IntKind.i64.wrap (zi (n + 1) + zi 1)).toNat - 0 <= (some (c - 0)).getD (L.length - 0)) && true then bif Nat.blt 0 ((IntKind.i64.wrap (zi (n + 1) + zi 1)).toNat - 0 - 1) && true then bif decide (1 <= (IntKind.i64.wrap (zi (n + 1) + zi 1)).toNat - 0) && decide ((IntKind.i64.wrap (zi (n + 1) + zi 1)).toNat - 0 <= (some (c - 0)).getD (L.length - 0)) && true then bif decide ((IntKind.i64.wrap (zi (n + 1) + zi 1)).toNat - 0 <= (some (c - 0)).getD (L.length - 0)) && true then bif decide ((IntKind.i64.wrap (zi (n + 1) + zi 1)).toNat - 0 <= (some (c - 0)).getD ((List.take 1 L ++ List.take ((IntKind.i64.wrap (zi (n + 1) + zi 1)).toNat - 0 - 1) (List.take ((IntKind.i64.wrap (zi (n + 1) + zi 1)).toNat - 0 - 0) L) ++ List.drop (1 + min (List.take ((IntKind.i64.wrap (zi (n + 1) + zi 1)).toNat - 0 - 0) L).length ((IntKind.i64.wrap (zi (n + 1) + zi 1)).toNat - 0 - 1)) L).length - 0)) && true then k (Res.mk (.ro 29 (Ent.vec false 29 nl (List.take ((IntKind.i64.wrap (zi (n + 1) + zi 1)).toNat - 0 - 0) [x] ++ List.drop (0 + min 1 ((IntKind.i64.wrap (zi (n + 1) + zi 1)).toNat - 0 - 0)) (List.take 1 L ++ List.take ((IntKind.i64.wrap (zi (n + 1) + zi 1)).toNat - 0 - 1) (List.take ((IntKind.i64.wrap (zi (n + 1) + zi 1)).toNat - 0 - 0) L) ++ List.drop (1 + min (List.take ((IntKind.i64.wrap (zi (n + 1) + zi 1)).toNat - 0 - 0) L).length ((IntKind.i64.wrap (zi (n + 1) + zi 1)).toNat - 0 - 1)) L))).nil false (List.take ((IntKind.i64.wrap (zi (n + 1) + zi 1)).toNat - 0) (List.take ((IntKind.i64.wrap (zi (n + 1) + zi 1)).toNat - 0 - 0) [x] ++ List.drop (0 + min 1 ((IntKind.i64.wrap (zi (n + 1) + zi 1)).toNat - 0 - 0)) (List.take 1 L ++ List.take ((IntKind.i64.wrap (zi (n + 1) + zi 1)).toNat - 0 - 1) (List.take ((IntKind.i64.wrap (zi (n + 1) + zi 1)).toNat - 0 - 0) L) ++ List.drop (1 + min (List.take ((IntKind.i64.wrap (zi (n + 1) + zi 1)).toNat - 0 - 0) L).length ((IntKind.i64.wrap (zi (n + 1) + zi 1)).toNat - 0 - 1)) L)))) [.vec true 29 nl (List.take ((IntKind.i64.wrap (zi (n + 1) + zi 1)).toNat - 0 - 0) [x] ++ List.drop (0 + min 1 ((IntKind.i64.wrap (zi (n + 1) + zi 1)).toNat - 0 - 0)) (List.take 1 L ++ List.take ((IntKind.i64.wrap (zi (n + 1) + zi 1)).toNat - 0 - 1) (List.take ((IntKind.i64.wrap (zi (n + 1) + zi 1)).toNat - 0 - 0) L) ++ List.drop (1 + min (List.take ((IntKind.i64.wrap (zi (n + 1) + zi 1)).toNat - 0 - 0) L).length ((IntKind.i64.wrap (zi (n + 1) + zi 1)).toNat - 0 - 1)) L)), .vec false 29 false [x]] []) else none else none else none else none else none else none else none
theorem JEA (f : Nat) (nl : Bool) (L : List PV) (n c : Nat) (x : PV) (k : Res -> Option Res) : JN tau Jzq Try.f140 (Try.f140.body.get!) JjZ [.ro] 0 [.ow 29 0 [] 0 (n + 1) (some c), .sc (.int .i64 0), .ow 29 1 [] 0 1 (some 1)] [.vec false 29 nl L, .vec false 29 false [x]] k = Ju3 f nl L n c x k := by kernel_rfl
theorem Jzr (f : Nat) : Je (Try.f140.body.get!) JjZ = [] := by kernel_rfl
theorem Jzs (f : Nat) : ∀ q ∈ Je (Try.f140.body.get!) JjZ, q.Ok tau Try.prog 2 := by
 rw [Jzr f]; intro q hq; cases hq
theorem Jsw : Try.prog.funcs[140]? = some Try.f140 := by kernel_rfl
theorem Jsx : Try.f140.body = some (Try.f140.body.get!) := by kernel_rfl
theorem Jzt : Enters Try.prog 140 := enters_of Jsw (by kernel_rfl) Jsx
def Jsy : Fns := JC 157 JjY (F0)
theorem JmL : Ju tau Try.prog Jsy := (JB).addV Jih
def JeG : An := (.seq .leaf (.seq .leaf (.seq .leaf (.seq (.seq .leaf (.cond (.seq .leaf .leaf) .leaf)) (.seq .leaf (.seq (.seq .leaf (.cond (.seq .leaf .leaf) .leaf)) (.seq (.seq .leaf (.cond (.seq .leaf (.seq .leaf (.seq .leaf (.seq .leaf .leaf)))) .leaf)) (.seq .leaf (.seq (.seq .leaf (.cond (.seq .leaf (.seq .leaf (.seq .leaf .leaf))) .leaf)) (.seq .leaf (.seq .leaf (.seq .leaf .leaf))))))))))))
def Jzu (f : Nat) (x : PV) (k : Res -> Option Res) : Option Res := k (Res.mk (.ro 29 false false [x]) [.vec false 29 false [x]] [])
theorem Jzv (f : Nat) (x : PV) (k : Res -> Option Res) : JN tau Jsy Try.f140 (Try.f140.body.get!) JeG [.ro] 0 [.ro 29 true true [], .sc (.int .i64 0), .ow 29 0 [] 0 1 (some 1)] [.vec false 29 false [x]] k = Jzu f x k := by kernel_rfl
theorem Ju4 (f : Nat) : Je (Try.f140.body.get!) JeG = [] := by kernel_rfl
theorem Ju5 (f : Nat) : ∀ q ∈ Je (Try.f140.body.get!) JeG, q.Ok tau Try.prog 1 := by
 rw [Ju4 f]; intro q hq; cases hq
theorem Ju6 : Try.prog.funcs[140]? = some Try.f140 := by kernel_rfl
theorem Ju7 : Try.f140.body = some (Try.f140.body.get!) := by kernel_rfl
def Jsz : Fns := JC 157 JjY (F0)
theorem JmM : Ju tau Try.prog Jsz := (JB).addV Jih
def JeH : An := (.seq .leaf (.seq .leaf (.seq .leaf (.seq (.seq .leaf (.cond (.seq .leaf .leaf) .leaf)) (.seq .leaf (.seq (.seq .leaf (.cond (.seq .leaf .leaf) .leaf)) (.seq (.seq .leaf (.cond (.seq .leaf (.seq .leaf (.seq .leaf (.seq .leaf .leaf)))) .leaf)) (.seq .leaf (.seq (.seq .leaf (.cond (.seq .leaf (.seq .leaf (.seq .leaf .leaf))) .leaf)) (.seq .leaf (.seq .leaf (.seq .leaf .leaf))))))))))))
def Jzw (f : Nat) (nl : Bool) (x : PV) (k : Res -> Option Res) : Option Res := k (Res.mk (.ro 29 (Ent.vec false 29 (nl && ((Ent.vec false 29 false [x]).nil, List.take 1 (List.drop 0 [x])).snd.isEmpty) [x]).nil false [x]) [.dead, .vec false 29 false [x]] [])
theorem Jzx (f : Nat) (nl : Bool) (x : PV) (k : Res -> Option Res) : JN tau Jsz Try.f140 (Try.f140.body.get!) JeH [.ro] 0 [.ow 29 0 [] 0 0 none, .sc (.int .i64 0), .ow 29 1 [] 0 1 (some 1)] [.vec false 29 nl [], .vec false 29 false [x]] k = Jzw f nl x k := by kernel_rfl
theorem Ju8 (f : Nat) : Je (Try.f140.body.get!) JeH = [] := by kernel_rfl
theorem Ju9 (f : Nat) : ∀ q ∈ Je (Try.f140.body.get!) JeH, q.Ok tau Try.prog 2 := by
 rw [Ju8 f]; intro q hq; cases hq
theorem Jva : Try.prog.funcs[140]? = some Try.f140 := by kernel_rfl
theorem Jvb : Try.f140.body = some (Try.f140.body.get!) := by kernel_rfl
-- FN slices.Insert[[][]byte,[]byte]
theorem Jzy (els : List PV) (n : Nat) (hn : els.length = n + 1) (hb : n <= 1000000000) (c : Nat) (hc : n + 1 <= c) (x : PV) :
   ∃ r, Ju3 0 false (els ++ List.replicate (c - (n + 1)) .top) n c x some = some r /\ ∃ p0 p1, r = ⟨.ro 29 false false (x :: els), [p0, p1], []⟩ := by
 have h1 : IntKind.i64.wrap (zi (n + 1) + zi 1) = ((n + 2 : Nat) : Int) := by simp only [zi]; rw [wrap_i64 (by omega) (by omega)]; omega
 have h2 : IntKind.i64.wrap (((n + 2 : Nat) : Int) - 0) = ((n + 2 : Nat) : Int) := by rw [wrap_i64 (by omega) (by omega)]; omega
 have h3 : (((n + 2 : Nat) : Int)).toNat = n + 2 := by omega
 have hL : (els ++ List.replicate (c - (n + 1)) PV.top).length = c := by simp; omega
 have hB : ∀ a b, a < b -> Nat.blt a b = true := fun a b h => by rw [Nat.blt, Nat.ble_eq]; exact h
 unfold Ju3
 simp only [h1, h2, h3, Option.getD_some, Option.getD_none, Nat.sub_zero, Nat.zero_add, List.nil_append]
 have hbt : ∀ {c : Bool} {a b : Option Res} (h : c = true), (bif c then a else b) = a := fun h => Jb h
 by_cases hg : c < n + 2
 · obtain rfl : c = n + 1 := by omega
   have e0 : n + 1 - (n + 1) = 0 := by omega
   simp only [e0, List.replicate_zero, List.append_nil, List.length_append, List.length_take, List.length_drop, List.length_replicate, List.length_cons, List.length_nil]
   have t1 : List.take (n + 2) [x] = [x] := List.take_of_length_le (by simp)
   have t2 : List.take (n + 1) els = els := List.take_of_length_le (by omega)
   have t3 : List.take 1 ([x] ++ List.drop (min 1 (n + 2)) (List.replicate (n + 2) (PV.ro 5 true true []))) = [x] := by simp
   have hr : Jl (n + 2) 24 = true := by simp [Jl]; omega
   refine ⟨_, (hbt (by simp <;> omega)).trans ((hbt (by simp [zi] <;> omega)).trans ((hbt (by simp only [hr]; simp <;> omega)).trans ((hbt (by simp)).trans ((hbt (by simp <;> omega)).trans ((hbt (by simp <;> omega)).trans rfl))))), ?_⟩
   simp only [t1, t2, t3, hn]
   have t4 : List.take (n + 2 - 1) els = els := List.take_of_length_le (by omega)
   have t5 : List.drop (1 + min (min (n + 1) (n + 1)) (n + 2 - 1)) ([x] ++ List.drop (min 1 (n + 2)) (List.replicate (n + 2) (PV.ro 5 true true []))) = [] := List.drop_eq_nil_iff.2 (by simp; omega)
   rw [t4, t5]
   have t6 : List.take (n + 2) ([x] ++ els ++ []) = x :: els := by rw [List.take_of_length_le (by simp; omega)]; simp
   rw [t6]
   exact ⟨_, _, rfl⟩
 · have t1 : List.take (n + 2 - 1) (List.take (n + 2) (els ++ List.replicate (c - (n + 1)) PV.top)) = els := by
    rw [List.take_take, show min (n + 2 - 1) (n + 2) = els.length from by omega, List.take_left']
    rfl
   have t2 : (List.take (n + 2) (els ++ List.replicate (c - (n + 1)) PV.top)).length = n + 2 := by rw [List.length_take]; omega
   have t3 : List.take (n + 2) [x] = [x] := List.take_of_length_le (by simp)
   refine ⟨_, (hbt (by simp; omega)).trans ((Jv (by simp [zi]; omega)).trans ((hbt (by simp; omega)).trans ((hbt (by simp; omega)).trans ((hbt (by rw [hB _ _ (by omega)]; rfl)).trans ((hbt (by simp; omega)).trans ((hbt (by simp; omega)).trans ((hbt (by simp; omega)).trans rfl))))))), ?_⟩
   simp only [t1, t2, t3]
   have hT : ∀ R : List PV, List.take (n + 2) ([x] ++ List.drop (min 1 (n + 2)) (List.take 1 (els ++ List.replicate (c - (n + 1)) PV.top) ++ els ++ R)) = x :: els := by
    intro R
    have hone : (List.take 1 (els ++ List.replicate (c - (n + 1)) PV.top)).length = 1 := by rw [List.length_take]; omega
    rw [show min 1 (n + 2) = 1 from by omega, List.append_assoc, List.drop_left' hone, ← List.append_assoc, List.take_left' (by simp; omega)]
    rfl
   rw [hT]
   exact ⟨_, _, rfl⟩
def JeI : List PV -> List Ent -> (Res -> Option Res) -> Option Res
 | [.ow 29 0 [] 0 m none, .sc (.int .i64 0), .ow 29 1 [] 0 1 (some 1)], [.vec false 29 false els, .vec false 29 false [x]], k => bif decide (m = els.length) && decide (els.length <= 1000000000) then k ⟨.ro 29 false false (x :: els), [.dead, .dead], []⟩ else none
 | [.ro 29 true true [], .sc (.int .i64 0), .ow 29 0 [] 0 1 (some 1)], [.vec false 29 false [x]], k => k ⟨.ro 29 false false [x], [.vec false 29 false [x]], []⟩
 | _, _, _ => none
def JsA : Sig := { own := [true, false, true], run := JeI }
theorem JmN : tau.isPtr 29 = false := by kernel_rfl
theorem Jvc : Jf tau Try.prog 140 JsA := Jf.mk' fun xs es k res hl hr => by
 change JeI xs es k = some res at hr
 unfold JeI at hr
 split at hr
 · rename_i m els x
   obtain ⟨hc, hr2⟩ := JG hr
   simp only [Bool.and_eq_true, decide_eq_true_eq] at hc
   obtain ⟨rfl, hb⟩ := hc
   by_cases h0 : els = []
   · subst h0
     have h1 := (Jzx 0 false x some)
     have h2 := Qj Jq JmM Jr Jva Jvb JeH [.ro] 2 0 (Ju9 0) hl rfl h1
     obtain ⟨r0, hr0, hc0⟩ := h2
     obtain rfl := Option.some.inj hr0
     refine ⟨_, hr2, fun im ow w us hus hi => (hc0 im ow w us hus hi).mono fun e w' hR => ?_⟩
     obtain ⟨u, im', ow', he, hv, G⟩ := hR
     refine ⟨u, im', ow', he, hv, ?_⟩
     have K := Good.kill (i := 1) (e := .vec false 29 false [x]) G.inv rfl
     have e1 : JR (JL [Ent.dead, .vec false 29 false [x]] []) 1 .dead = JL [.dead, .dead] [] := by
      funext i
      match i with
      | 0 => rfl
      | 1 => rfl
      | i + 2 => simp [JR, JL]
     rw [e1] at K
     exact G.trans K
   · obtain ⟨n, hn⟩ : ∃ n, els.length = n + 1 := ⟨els.length - 1, by have : 0 < els.length := List.length_pos_iff.2 h0; omega⟩
     refine Jun Jq (by omega) JmN JmN hr2 fun c hc => ?_
     obtain ⟨r, hg, p0, p1, rfl⟩ := Jzy els n hn (by omega) c (by omega) x
     rw [hn]
     generalize els ++ List.replicate (c - (n + 1)) PV.top = L at hg ⊢
     refine ⟨p0, p1, ?_⟩
     have h1 := (JEA 0 false L n c x some).trans hg
     exact Qj Jq JpL Jr Jsw Jsx JjZ [.ro] 2 0 (Jzs 0) hl rfl h1
 · rename_i x
   exact Qj Jq JmL Jr Ju6 Ju7 JeG [.ro] 1 0 (Ju5 0) hl rfl ((Jzv 0 x k).trans hr)
 · cases hr
def Jzz : Fns := F0
theorem JpM : Ju tau Try.prog Jzz := JB
def JpN : Nm := [(0, .any), (2, .any), (3, .any), (5, .any)]
def Jvd : An := (.seq .leaf (.seq (.cond .leaf .leaf) (.seq (.block none (.seq .leaf .leaf)) .leaf)))
def Jj0 : An := (.seq .leaf (.seq .leaf (.seq (.seq .leaf (.block none (.loop JpN Jvd))) (.seq .leaf .leaf))))
def JzA (f : Nat) (x : Int) (k : Res -> Option Res) : Option Res := k (Res.mk (.ar 190 [.sc (.int .u8 x), .sc (.int .u8 x), .sc (.int .u8 x), .sc (.int .u8 x), .sc (.int .u8 x), .sc (.int .u8 x), .sc (.int .u8 x), .sc (.int .u8 x), .sc (.int .u8 x), .sc (.int .u8 x), .sc (.int .u8 x), .sc (.int .u8 x), .sc (.int .u8 x), .sc (.int .u8 x), .sc (.int .u8 x), .sc (.int .u8 x), .sc (.int .u8 x), .sc (.int .u8 x), .sc (.int .u8 x), .sc (.int .u8 x), .sc (.int .u8 x), .sc (.int .u8 x), .sc (.int .u8 x), .sc (.int .u8 x), .sc (.int .u8 x), .sc (.int .u8 x), .sc (.int .u8 x), .sc (.int .u8 x), .sc (.int .u8 x), .sc (.int .u8 x), .sc (.int .u8 x), .sc (.int .u8 x), .sc (.int .u8 x), .sc (.int .u8 x), .sc (.int .u8 x), .sc (.int .u8 x), .sc (.int .u8 x), .sc (.int .u8 x), .sc (.int .u8 x), .sc (.int .u8 x), .sc (.int .u8 x), .sc (.int .u8 x), .sc (.int .u8 x), .sc (.int .u8 x), .sc (.int .u8 x), .sc (.int .u8 x), .sc (.int .u8 x), .sc (.int .u8 x), .sc (.int .u8 x), .sc (.int .u8 x), .sc (.int .u8 x), .sc (.int .u8 x), .sc (.int .u8 x), .sc (.int .u8 x), .sc (.int .u8 x), .sc (.int .u8 x), .sc (.int .u8 x), .sc (.int .u8 x), .sc (.int .u8 x), .sc (.int .u8 x), .sc (.int .u8 x), .sc (.int .u8 x), .sc (.int .u8 x), .sc (.int .u8 x)]) [] [])
theorem JEB (f : Nat) (x : Int) (k : Res -> Option Res) : JN tau Jzz Try.f159 (Try.f159.body.get!) Jj0 [.ro] 70 [.sc (.int .u8 x)] [] k = JzA f x k := by kernel_rfl
theorem JzB (f : Nat) : Je (Try.f159.body.get!) Jj0 = [] := by kernel_rfl
theorem JzC (f : Nat) : ∀ q ∈ Je (Try.f159.body.get!) Jj0, q.Ok tau Try.prog 0 := by
 rw [JzB f]; intro q hq; cases hq
theorem JsB : Try.prog.funcs[159]? = some Try.f159 := by kernel_rfl
theorem JsC : Try.f159.body = some (Try.f159.body.get!) := by kernel_rfl
theorem JzD : Enters Try.prog 159 := enters_of JsB (by kernel_rfl) JsC
def Jii : List PV -> List Ent -> (Res -> Option Res) -> Option Res
 | [.sc (.int .u8 x)], [], k => JzA 0 x k
 | _, _, _ => none
def JzE : Sig := { own := [], run := Jii }
theorem JzF : Jf tau Try.prog 159 JzE := JP Jq JpM Jr JsB JsC Jj0 [.ro] 0 [] Jii (JzC 0) fun xs es k res hr => by
 unfold Jii at hr
 split at hr
 · exact ⟨rfl, 70, (JEB 0 _  _).trans hr⟩
 · cases hr
def JcR : Nat := 26
def JmO : Fns := JC 159 JzE (F0)
theorem Jj1 : Ju tau Try.prog JmO := (JB).add JzF JzD
def Jan : Code := Qu (Try.f141.body.get!) [1, 1, 1, 0, 1, 0, 0]
def WX : Nm := [(2, .any), (5, .any), (13, .any)]
def XC : Nm := [(5, .any)]
def Jcf : An := (.seq .leaf (.seq (.cond .leaf .leaf) (.seq (.block none (.seq .leaf .leaf)) .leaf)))
def Jj2 (r0 : QJ) : An := (.seq .leaf (.seq .leaf (.seq (.seq .leaf (.cond (.seq .leaf .leaf) .leaf)) (.seq (.seq .leaf (.block none (.sum WX JcR r0))) (.seq .leaf .leaf)))))
def ZB (f : Nat) (rc : Int -> List PV -> List PV -> Option Res) (k0 : List PV -> Option Res) (v0 : Int) (v1 v2 : List PV) : Option Res := bif decide (v0 < 64) then bif decide (0 <= v0) && decide (v0 < zi 64) && true then bif PV.isInt IntKind.u8 (Jm (PV.ar 190 v2) [v0.toNat]) && true then bif decide (0 <= v0) && decide (v0 < zi 64) && true then bif PV.isInt IntKind.u8 (Jm (PV.ar 190 v1) [v0.toNat]) && true then bif decide (0 <= v0) && decide (v0 < zi 64) && true then rc (IntKind.i64.wrap (v0 + 1)) v1 (v2.set v0.toNat (.sc (.int .u8 (JH BinOp.xor IntKind.u8 (Jm (PV.ar 190 v2) [v0.toNat]).int (Jm (PV.ar 190 v1) [v0.toNat]).int)))) else none else none else none else none else none else k0 v2
def XD (f : Nat) (k0 : List PV -> Option Res) : Nat -> Int -> List PV -> List PV -> Option Res
 | 0, _, _, _ => none
 | n + 1, v0, v1, v2 => ZB f (XD f k0 n) k0 v0 v1 v2
theorem JmP (f : Nat) (k : Kont) (n : Nat) (v0 : Int) (v1 v2 : List PV) : Jn tau 0 WX (fun s k => ev tau JmO 0 0 Jan (Jcf ) s k) (n + 1) (Jd WX JcR [.ptr 432 [], .ptr 433 [], .sc (.int .i64 v0)] [(432, .box false 190 (PV.ar 190 v1)), (433, .box false 190 (PV.ar 190 v2))]) (Jt tau 0 XC k) = ZB f (fun v0 v1 v2 => Jn tau 0 WX (fun s k => ev tau JmO 0 0 Jan (Jcf ) s k) n (Jd WX JcR [.ptr 432 [], .ptr 433 [], .sc (.int .i64 v0)] [(432, .box false 190 (PV.ar 190 v1)), (433, .box false 190 (PV.ar 190 v2))]) (Jt tau 0 XC k)) (fun x0 => k (Ex.exit 0) (Jd XC JcR [.ptr 432 []] [(432, .box false 190 (PV.ar 190 x0))])) v0 v1 v2 := by kernel_rfl
theorem Jgs (f : Nat) (k : Kont) : ∀ (n : Nat) (v0 : Int) (v1 v2 : List PV), Jn tau 0 WX (fun s k => ev tau JmO 0 0 Jan (Jcf ) s k) n (Jd WX JcR [.ptr 432 [], .ptr 433 [], .sc (.int .i64 v0)] [(432, .box false 190 (PV.ar 190 v1)), (433, .box false 190 (PV.ar 190 v2))]) (Jt tau 0 XC k) = XD f (fun x0 => k (Ex.exit 0) (Jd XC JcR [.ptr 432 []] [(432, .box false 190 (PV.ar 190 x0))])) n v0 v1 v2 | 0, _, _, _ => rfl | n + 1, v0, v1, v2 => (JmP f k n v0 v1 v2).trans (congrArg (fun r => ZB f r (fun x0 => k (Ex.exit 0) (Jd XC JcR [.ptr 432 []] [(432, .box false 190 (PV.ar 190 x0))])) v0 v1 v2) (by funext v0 v1 v2; exact Jgs f k n v0 v1 v2))
def VG (f : Nat) : List PV -> List (Nat × Ent) -> Kont -> Option Res
 | [.ptr 432 [], .ptr 433 [],
 PV.sc
  (Value.int IntKind.i64
   v0)], [(432, .box false 190 (PV.ar 190 v1)),
 (433, .box false 190 (PV.ar 190 v2))], k => XD f (fun x0 => k (Ex.exit 0) (Jd XC JcR [.ptr 432 []] [(432, .box false 190 (PV.ar 190 x0))])) f v0 v1 v2
 | _, _, _ => none
theorem JpO (f : Nat) : Je Jan Jcf = [] := by kernel_rfl
theorem Jve (f : Nat) : (Item.l Jan WX JcR (VG f)).Ok tau Try.prog 0 := JI Jq Jj1 Jr (x := Jcf) (nm2 := XC) (Js _ _ (by rw [JpO f]; intro q hq; cases hq)) fun vs hp k res hr => by
 unfold VG at hr
 split at hr
 · exact ⟨f, 0, (Jgs f _ f _ _ _ ).trans hr⟩
 · cases hr
def JpP (f : Nat) (k1 : List PV) (x : Int) (k : Res -> Option Res) : Option Res := bif decide (k1.length = 64) && true && Jh IntKind.u8 k1 && true && true then bif Ql k1 [.sc (.int .u8 0), .sc (.int .u8 0), .sc (.int .u8 0), .sc (.int .u8 0), .sc (.int .u8 0), .sc (.int .u8 0), .sc (.int .u8 0), .sc (.int .u8 0), .sc (.int .u8 0), .sc (.int .u8 0), .sc (.int .u8 0), .sc (.int .u8 0), .sc (.int .u8 0), .sc (.int .u8 0), .sc (.int .u8 0), .sc (.int .u8 0), .sc (.int .u8 0), .sc (.int .u8 0), .sc (.int .u8 0), .sc (.int .u8 0), .sc (.int .u8 0), .sc (.int .u8 0), .sc (.int .u8 0), .sc (.int .u8 0), .sc (.int .u8 0), .sc (.int .u8 0), .sc (.int .u8 0), .sc (.int .u8 0), .sc (.int .u8 0), .sc (.int .u8 0), .sc (.int .u8 0), .sc (.int .u8 0), .sc (.int .u8 0), .sc (.int .u8 0), .sc (.int .u8 0), .sc (.int .u8 0), .sc (.int .u8 0), .sc (.int .u8 0), .sc (.int .u8 0), .sc (.int .u8 0), .sc (.int .u8 0), .sc (.int .u8 0), .sc (.int .u8 0), .sc (.int .u8 0), .sc (.int .u8 0), .sc (.int .u8 0), .sc (.int .u8 0), .sc (.int .u8 0), .sc (.int .u8 0), .sc (.int .u8 0), .sc (.int .u8 0), .sc (.int .u8 0), .sc (.int .u8 0), .sc (.int .u8 0), .sc (.int .u8 0), .sc (.int .u8 0), .sc (.int .u8 0), .sc (.int .u8 0), .sc (.int .u8 0), .sc (.int .u8 0), .sc (.int .u8 0), .sc (.int .u8 0), .sc (.int .u8 0), .sc (.int .u8 0)] then k (Res.mk (.ro 5 false false [.sc (.int .u8 x), .sc (.int .u8 x), .sc (.int .u8 x), .sc (.int .u8 x), .sc (.int .u8 x), .sc (.int .u8 x), .sc (.int .u8 x), .sc (.int .u8 x), .sc (.int .u8 x), .sc (.int .u8 x), .sc (.int .u8 x), .sc (.int .u8 x), .sc (.int .u8 x), .sc (.int .u8 x), .sc (.int .u8 x), .sc (.int .u8 x), .sc (.int .u8 x), .sc (.int .u8 x), .sc (.int .u8 x), .sc (.int .u8 x), .sc (.int .u8 x), .sc (.int .u8 x), .sc (.int .u8 x), .sc (.int .u8 x), .sc (.int .u8 x), .sc (.int .u8 x), .sc (.int .u8 x), .sc (.int .u8 x), .sc (.int .u8 x), .sc (.int .u8 x), .sc (.int .u8 x), .sc (.int .u8 x), .sc (.int .u8 x), .sc (.int .u8 x), .sc (.int .u8 x), .sc (.int .u8 x), .sc (.int .u8 x), .sc (.int .u8 x), .sc (.int .u8 x), .sc (.int .u8 x), .sc (.int .u8 x), .sc (.int .u8 x), .sc (.int .u8 x), .sc (.int .u8 x), .sc (.int .u8 x), .sc (.int .u8 x), .sc (.int .u8 x), .sc (.int .u8 x), .sc (.int .u8 x), .sc (.int .u8 x), .sc (.int .u8 x), .sc (.int .u8 x), .sc (.int .u8 x), .sc (.int .u8 x), .sc (.int .u8 x), .sc (.int .u8 x), .sc (.int .u8 x), .sc (.int .u8 x), .sc (.int .u8 x), .sc (.int .u8 x), .sc (.int .u8 x), .sc (.int .u8 x), .sc (.int .u8 x), .sc (.int .u8 x)]) [] []) else XD f (fun x0_0 => k (Res.mk (.ro 5 false false (List.take 64 x0_0)) [] [])) f (0) k1 ([.sc (.int .u8 x), .sc (.int .u8 x), .sc (.int .u8 x), .sc (.int .u8 x), .sc (.int .u8 x), .sc (.int .u8 x), .sc (.int .u8 x), .sc (.int .u8 x), .sc (.int .u8 x), .sc (.int .u8 x), .sc (.int .u8 x), .sc (.int .u8 x), .sc (.int .u8 x), .sc (.int .u8 x), .sc (.int .u8 x), .sc (.int .u8 x), .sc (.int .u8 x), .sc (.int .u8 x), .sc (.int .u8 x), .sc (.int .u8 x), .sc (.int .u8 x), .sc (.int .u8 x), .sc (.int .u8 x), .sc (.int .u8 x), .sc (.int .u8 x), .sc (.int .u8 x), .sc (.int .u8 x), .sc (.int .u8 x), .sc (.int .u8 x), .sc (.int .u8 x), .sc (.int .u8 x), .sc (.int .u8 x), .sc (.int .u8 x), .sc (.int .u8 x), .sc (.int .u8 x), .sc (.int .u8 x), .sc (.int .u8 x), .sc (.int .u8 x), .sc (.int .u8 x), .sc (.int .u8 x), .sc (.int .u8 x), .sc (.int .u8 x), .sc (.int .u8 x), .sc (.int .u8 x), .sc (.int .u8 x), .sc (.int .u8 x), .sc (.int .u8 x), .sc (.int .u8 x), .sc (.int .u8 x), .sc (.int .u8 x), .sc (.int .u8 x), .sc (.int .u8 x), .sc (.int .u8 x), .sc (.int .u8 x), .sc (.int .u8 x), .sc (.int .u8 x), .sc (.int .u8 x), .sc (.int .u8 x), .sc (.int .u8 x), .sc (.int .u8 x), .sc (.int .u8 x), .sc (.int .u8 x), .sc (.int .u8 x), .sc (.int .u8 x)]) else none
theorem JEC (f : Nat) (k1 : List PV) (x : Int) (k : Res -> Option Res) : JN tau JmO Try.f141 (Try.f141.body.get!) (Jj2 (VG f)) [.ro] 0 [.ar 190 k1, .sc (.int .u8 x)] [] k = JpP f k1 x k := by kernel_rfl
theorem JzG (f : Nat) : Je (Try.f141.body.get!) (Jj2 (VG f)) = [.l Jan WX JcR (VG f)] := by kernel_rfl
theorem JzH (f : Nat) : ∀ q ∈ Je (Try.f141.body.get!) (Jj2 (VG f)), q.Ok tau Try.prog 0 := by
 rw [JzG f]; simp only [List.forall_mem_cons, List.not_mem_nil, false_implies, implies_true, and_true]; exact Jve f
theorem JsD : Try.prog.funcs[141]? = some Try.f141 := by kernel_rfl
theorem JsE : Try.f141.body = some (Try.f141.body.get!) := by kernel_rfl
theorem JzI : Enters Try.prog 141 := enters_of JsD (by kernel_rfl) JsE
-- FN (hmac.block).turned
def JV (l : List Int) (x : Int) : List Int := l.map fun b => JH .xor .u8 b x
@[simp] theorem Jgt (l : List Int) (x : Int) : (JV l x).length = l.length := by simp [JV]
theorem Jgu (K : List Int) (hK : K.length = 64) (x : Int) : (List.range 64).map (fun j => JH .xor .u8 x (K.getD j 0)) = JV K x := by
 apply List.ext_getElem
 · simp [hK]
 · intro i h1 h2
   have h1' : i < K.length := by simpa using h2
   simp only [List.getElem_map, List.getElem_range, JV]
   rw [Vr, List.getD_eq_getElem?_getD, List.getElem?_eq_getElem h1']; rfl
theorem JmQ (K : List Int) (hK : K.length = 64) (x : Int) (f : Nat) (k0 : List PV -> Option Res) : ∀ (d i n : Nat), i + d = 64 -> d < n ->
  XD f k0 n (i : Int) (pu .u8 K) (pu .u8 (QB (fun j => JH .xor .u8 x (K.getD j 0)) (List.replicate 64 x) i)) = k0 (pu .u8 (JV K x))
 | 0, i, n + 1, h, hn => by
   obtain rfl : i = 64 := by omega
   simp only [XD, ZB]
   refine (Jv (by decide)).trans ?_
   have := Q2 (fun j => JH .xor .u8 x (K.getD j 0)) (List.replicate 64 x)
   rw [List.length_replicate] at this
   rw [this, Jgu K hK]
 | d + 1, i, n + 1, h, hn => by
   have g1 : ((i : Int)).toNat = i := by omega
   have h1 : IntKind.i64.wrap ((i : Int) + 1) = ((i + 1 : Nat) : Int) := by rw [wrap_i64 (by omega) (by omega)]; omega
   have c0 : (decide (0 <= (i : Int)) && decide ((i : Int) < zi 64) && true) = true := by simp; omega
   have hF := Yn (fun j => JH .xor .u8 x (K.getD j 0)) (List.replicate 64 x) i (by simp; omega)
   rw [List.length_replicate] at hF
   simp only [XD, ZB, g1, h1, WR]
   rw [JW (by omega), JW (by omega), Qr (by omega), Qr (by omega), Jak _ _ _ (by simp; omega), Ws]
   refine (Jb (by simp; omega)).trans ((Jb c0).trans ((Jb rfl).trans ((Jb c0).trans ((Jb rfl).trans ((Jb c0).trans ?_)))))
   have := JmQ K hK x f k0 d (i + 1) n (by omega) (by omega)
   rw [← Qw _ _ i (by simp; omega)] at this
   rw [show (List.replicate 64 x).getD i 0 = x from by rw [List.getD_eq_getElem?_getD, List.getElem?_replicate, if_pos (by omega)]; rfl]
   exact this
theorem JzJ : JV (List.replicate 64 0) 54 = List.replicate 64 54 /\ JV (List.replicate 64 0) 92 = List.replicate 64 92 := by
 have h1 : JH .xor .u8 0 54 = 54 := by decide
 have h2 : JH .xor .u8 0 92 = 92 := by decide
 simp only [JV, List.map_replicate, h1, h2, and_self]
theorem Jlt (l : List PV) (x : Int) (k : Res -> Option Res) : JpP 70 l x k =
 (bif decide (l.length = 64) && true && Jh IntKind.u8 l && true && true then
  (bif Ql l (pu .u8 (List.replicate 64 0)) then k ⟨.ro 5 false false (pu .u8 (List.replicate 64 x)), [], []⟩
  else XD 70 (fun x0_0 => k (Res.mk (PV.ro 5 false false (List.take 64 x0_0)) [] [])) 70 0 l (pu .u8 (List.replicate 64 x)))
 else none) := by kernel_rfl
theorem JpQ (K : List Int) (hK : K.length = 64) (x : Int) (hx : x = 54 ∨ x = 92) (k : Res -> Option Res) : JpP 70 (pu .u8 K) x k = k ⟨.ro 5 false false (pu .u8 (JV K x)), [], []⟩ := by
 have h0 := JmQ K hK x 70 (fun x0_0 => k (Res.mk (PV.ro 5 false false (List.take 64 x0_0)) [] [])) 64 0 70 (by omega) (by omega)
 rw [QH, List.take_of_length_le (by simp [hK])] at h0
 rw [Jlt, Jb (by simp [hK]), Xd]
 by_cases hk : K = List.replicate 64 0
 · have h1 : JV K x = List.replicate 64 x := by
    rw [hk]
    rcases hx with h | h
    · rw [h]; exact JzJ.1
    · rw [h]; exact JzJ.2
   rw [Jb (beq_iff_eq.2 hk), h1]
 · rw [Jv (beq_eq_false_iff_ne.2 hk)]
   exact h0
def JeJ : List PV -> List Ent -> (Res -> Option Res) -> Option Res
 | [.ar 190 l, .sc (.int .u8 x)], [], k => bif Jh .u8 l && decide (l.length = 64) && (x == 54 || x == 92) then k ⟨.ro 5 false false (pu .u8 (JV (Ji l) x)), [], []⟩ else none
 | _, _, _ => none
def JsF : Sig := { own := [], run := JeJ }
theorem Jvf : Jf tau Try.prog 141 JsF := Jf.mk' fun xs es k res hl hr => by
 change JeJ xs es k = some res at hr
 unfold JeJ at hr
 split at hr
 · rename_i l x
   obtain ⟨hc, hr2⟩ := JG hr
   simp only [Bool.and_eq_true, decide_eq_true_eq, Bool.or_eq_true, beq_iff_eq] at hc
   have hp := Qc hc.1.1
   have h2 : JpP 70 l x k = some res := by
    rw [hp, JpQ _ (by simpa using hc.1.2) x hc.2]; exact hr2
   have h1 := (JEC 70 l x k).trans h2
   exact Qj Jq Jj1 Jr JsD JsE (Jj2 (VG 70)) [.ro] 0 0 (JzH 70) hl rfl h1
 · cases hr
noncomputable abbrev z80 : List PV := [.sc (.int .u8 0), .sc (.int .u8 0), .sc (.int .u8 0), .sc (.int .u8 0), .sc (.int .u8 0), .sc (.int .u8 0), .sc (.int .u8 0), .sc (.int .u8 0), .sc (.int .u8 0), .sc (.int .u8 0), .sc (.int .u8 0), .sc (.int .u8 0), .sc (.int .u8 0), .sc (.int .u8 0), .sc (.int .u8 0), .sc (.int .u8 0), .sc (.int .u8 0), .sc (.int .u8 0), .sc (.int .u8 0), .sc (.int .u8 0), .sc (.int .u8 0), .sc (.int .u8 0), .sc (.int .u8 0), .sc (.int .u8 0), .sc (.int .u8 0), .sc (.int .u8 0), .sc (.int .u8 0), .sc (.int .u8 0), .sc (.int .u8 0), .sc (.int .u8 0), .sc (.int .u8 0), .sc (.int .u8 0), .sc (.int .u8 0), .sc (.int .u8 0), .sc (.int .u8 0), .sc (.int .u8 0), .sc (.int .u8 0), .sc (.int .u8 0), .sc (.int .u8 0), .sc (.int .u8 0), .sc (.int .u8 0), .sc (.int .u8 0), .sc (.int .u8 0), .sc (.int .u8 0), .sc (.int .u8 0), .sc (.int .u8 0), .sc (.int .u8 0), .sc (.int .u8 0), .sc (.int .u8 0), .sc (.int .u8 0), .sc (.int .u8 0), .sc (.int .u8 0), .sc (.int .u8 0), .sc (.int .u8 0), .sc (.int .u8 0), .sc (.int .u8 0), .sc (.int .u8 0), .sc (.int .u8 0), .sc (.int .u8 0), .sc (.int .u8 0), .sc (.int .u8 0), .sc (.int .u8 0), .sc (.int .u8 0), .sc (.int .u8 0)]
def F80 : Fns := JC 141 JsF (JC 140 JsA (JC 136 Jzo (JC 27 Jzh (F0))))
theorem Jvg : Ju tau Try.prog F80 := ((((JB).add Jzi JEy).add Jzp Jzn).add Jvc Jzt).add Jvf JzI
def JpR : An := (.seq .leaf (.seq (.seq .leaf (.cond (.seq .leaf .leaf) .leaf)) (.seq .leaf (.seq .leaf (.seq .leaf (.seq .leaf .leaf))))))
def g80 (f : Nat) (y0 y1 : Bool) (key : List PV) (y2 y3 : Bool) (parts : List PV) (k : Res -> Option Res) : Option Res := bif decide (zi key.length > 64) then bif Jh IntKind.u8 (Jo [.ro 5 y0 y1 key]) && decide ((Jo [.ro 5 y0 y1 key]).length <= 140737488355000) then bif y2 then bif Jh IntKind.u8 (List.take 64 (List.take 32 (pu IntKind.u8 (JE (Ji (Jo [.ro 5 y0 y1 key]))))) ++ List.drop (0 + min (List.take 32 (pu IntKind.u8 (JE (Ji (Jo [.ro 5 y0 y1 key]))))).length 64) z80) && decide ((List.take 64 (List.take 32 (pu IntKind.u8 (JE (Ji (Jo [.ro 5 y0 y1 key]))))) ++ List.drop (0 + min (List.take 32 (pu IntKind.u8 (JE (Ji (Jo [.ro 5 y0 y1 key]))))).length 64) z80).length = 64) && true then bif Jh IntKind.u8 (Jo [.ro 5 false false (pu IntKind.u8 (JV (Ji (List.take 64 (List.take 32 (pu IntKind.u8 (JE (Ji (Jo [.ro 5 y0 y1 key]))))) ++ List.drop (0 + min (List.take 32 (pu IntKind.u8 (JE (Ji (Jo [.ro 5 y0 y1 key]))))).length 64) z80)) 54))]) && decide ((Jo [.ro 5 false false (pu IntKind.u8 (JV (Ji (List.take 64 (List.take 32 (pu IntKind.u8 (JE (Ji (Jo [.ro 5 y0 y1 key]))))) ++ List.drop (0 + min (List.take 32 (pu IntKind.u8 (JE (Ji (Jo [.ro 5 y0 y1 key]))))).length 64) z80)) 54))]).length <= 140737488355000) then bif Jh IntKind.u8 (List.take 64 (List.take 32 (pu IntKind.u8 (JE (Ji (Jo [.ro 5 y0 y1 key]))))) ++ List.drop (0 + min (List.take 32 (pu IntKind.u8 (JE (Ji (Jo [.ro 5 y0 y1 key]))))).length 64) z80) && decide ((List.take 64 (List.take 32 (pu IntKind.u8 (JE (Ji (Jo [.ro 5 y0 y1 key]))))) ++ List.drop (0 + min (List.take 32 (pu IntKind.u8 (JE (Ji (Jo [.ro 5 y0 y1 key]))))).length 64) z80).length = 64) && true then bif Jh IntKind.u8 (Jo [.ro 5 false false (pu IntKind.u8 (JV (Ji (List.take 64 (List.take 32 (pu IntKind.u8 (JE (Ji (Jo [.ro 5 y0 y1 key]))))) ++ List.drop (0 + min (List.take 32 (pu IntKind.u8 (JE (Ji (Jo [.ro 5 y0 y1 key]))))).length 64) z80)) 92)), .ro 5 false false (List.take 32 (pu IntKind.u8 (JE (Ji (Jo [.ro 5 false false (pu IntKind.u8 (JV (Ji (List.take 64 (List.take 32 (pu IntKind.u8 (JE (Ji (Jo [.ro 5 y0 y1 key]))))) ++ List.drop (0 + min (List.take 32 (pu IntKind.u8 (JE (Ji (Jo [.ro 5 y0 y1 key]))))).length 64) z80)) 54))])))))]) && decide ((Jo [.ro 5 false false (pu IntKind.u8 (JV (Ji (List.take 64 (List.take 32 (pu IntKind.u8 (JE (Ji (Jo [.ro 5 y0 y1 key]))))) ++ List.drop (0 + min (List.take 32 (pu IntKind.u8 (JE (Ji (Jo [.ro 5 y0 y1 key]))))).length 64) z80)) 92)), .ro 5 false false (List.take 32 (pu IntKind.u8 (JE (Ji (Jo [.ro 5 false false (pu IntKind.u8 (JV (Ji (List.take 64 (List.take 32 (pu IntKind.u8 (JE (Ji (Jo [.ro 5 y0 y1 key]))))) ++ List.drop (0 + min (List.take 32 (pu IntKind.u8 (JE (Ji (Jo [.ro 5 y0 y1 key]))))).length 64) z80)) 54))])))))]).length <= 140737488355000) then k (Res.mk (.ar 37 (pu IntKind.u8 (JE (Ji (Jo [.ro 5 false false (pu IntKind.u8 (JV (Ji (List.take 64 (List.take 32 (pu IntKind.u8 (JE (Ji (Jo [.ro 5 y0 y1 key]))))) ++ List.drop (0 + min (List.take 32 (pu IntKind.u8 (JE (Ji (Jo [.ro 5 y0 y1 key]))))).length 64) z80)) 92)), .ro 5 false false (List.take 32 (pu IntKind.u8 (JE (Ji (Jo [.ro 5 false false (pu IntKind.u8 (JV (Ji (List.take 64 (List.take 32 (pu IntKind.u8 (JE (Ji (Jo [.ro 5 y0 y1 key]))))) ++ List.drop (0 + min (List.take 32 (pu IntKind.u8 (JE (Ji (Jo [.ro 5 y0 y1 key]))))).length 64) z80)) 54))])))))]))))) [] []) else none else none else none else none else bif Jl (0 + parts.length) 24 && true then bif Jh IntKind.u8 (List.take 64 (List.take 32 (pu IntKind.u8 (JE (Ji (Jo [.ro 5 y0 y1 key]))))) ++ List.drop (0 + min (List.take 32 (pu IntKind.u8 (JE (Ji (Jo [.ro 5 y0 y1 key]))))).length 64) z80) && decide ((List.take 64 (List.take 32 (pu IntKind.u8 (JE (Ji (Jo [.ro 5 y0 y1 key]))))) ++ List.drop (0 + min (List.take 32 (pu IntKind.u8 (JE (Ji (Jo [.ro 5 y0 y1 key]))))).length 64) z80).length = 64) && true then bif decide (0 + parts.length = parts.length) && decide (parts.length <= 1000000000) then bif parts.all (PV.isRo 5) && decide ((PV.ro 5 false false (pu IntKind.u8 (JV (Ji (List.take 64 (List.take 32 (pu IntKind.u8 (JE (Ji (Jo [.ro 5 y0 y1 key]))))) ++ List.drop (0 + min (List.take 32 (pu IntKind.u8 (JE (Ji (Jo [.ro 5 y0 y1 key]))))).length 64) z80)) 54)) :: parts).length <= 140737488355328) && (Jh IntKind.u8 (Jo (PV.ro 5 false false (pu IntKind.u8 (JV (Ji (List.take 64 (List.take 32 (pu IntKind.u8 (JE (Ji (Jo [.ro 5 y0 y1 key]))))) ++ List.drop (0 + min (List.take 32 (pu IntKind.u8 (JE (Ji (Jo [.ro 5 y0 y1 key]))))).length 64) z80)) 54)) :: parts)) && decide ((Jo (PV.ro 5 false false (pu IntKind.u8 (JV (Ji (List.take 64 (List.take 32 (pu IntKind.u8 (JE (Ji (Jo [.ro 5 y0 y1 key]))))) ++ List.drop (0 + min (List.take 32 (pu IntKind.u8 (JE (Ji (Jo [.ro 5 y0 y1 key]))))).length 64) z80)) 54)) :: parts)).length <= 140737488355000)) then bif Jh IntKind.u8 (List.take 64 (List.take 32 (pu IntKind.u8 (JE (Ji (Jo [.ro 5 y0 y1 key]))))) ++ List.drop (0 + min (List.take 32 (pu IntKind.u8 (JE (Ji (Jo [.ro 5 y0 y1 key]))))).length 64) z80) && decide ((List.take 64 (List.take 32 (pu IntKind.u8 (JE (Ji (Jo [.ro 5 y0 y1 key]))))) ++ List.drop (0 + min (List.take 32 (pu IntKind.u8 (JE (Ji (Jo [.ro 5 y0 y1 key]))))).length 64) z80).length = 64) && true then bif Jh IntKind.u8 (Jo [.ro 5 false false (pu IntKind.u8 (JV (Ji (List.take 64 (List.take 32 (pu IntKind.u8 (JE (Ji (Jo [.ro 5 y0 y1 key]))))) ++ List.drop (0 + min (List.take 32 (pu IntKind.u8 (JE (Ji (Jo [.ro 5 y0 y1 key]))))).length 64) z80)) 92)), .ro 5 false false (List.take 32 (pu IntKind.u8 (JE (Ji (Jo (PV.ro 5 false false (pu IntKind.u8 (JV (Ji (List.take 64 (List.take 32 (pu IntKind.u8 (JE (Ji (Jo [.ro 5 y0 y1 key]))))) ++ List.drop (0 + min (List.take 32 (pu IntKind.u8 (JE (Ji (Jo [.ro 5 y0 y1 key]))))).length 64) z80)) 54)) :: parts))))))]) && decide ((Jo [.ro 5 false false (pu IntKind.u8 (JV (Ji (List.take 64 (List.take 32 (pu IntKind.u8 (JE (Ji (Jo [.ro 5 y0 y1 key]))))) ++ List.drop (0 + min (List.take 32 (pu IntKind.u8 (JE (Ji (Jo [.ro 5 y0 y1 key]))))).length 64) z80)) 92)), .ro 5 false false (List.take 32 (pu IntKind.u8 (JE (Ji (Jo (PV.ro 5 false false (pu IntKind.u8 (JV (Ji (List.take 64 (List.take 32 (pu IntKind.u8 (JE (Ji (Jo [.ro 5 y0 y1 key]))))) ++ List.drop (0 + min (List.take 32 (pu IntKind.u8 (JE (Ji (Jo [.ro 5 y0 y1 key]))))).length 64) z80)) 54)) :: parts))))))]).length <= 140737488355000) then k (Res.mk (.ar 37 (pu IntKind.u8 (JE (Ji (Jo [.ro 5 false false (pu IntKind.u8 (JV (Ji (List.take 64 (List.take 32 (pu IntKind.u8 (JE (Ji (Jo [.ro 5 y0 y1 key]))))) ++ List.drop (0 + min (List.take 32 (pu IntKind.u8 (JE (Ji (Jo [.ro 5 y0 y1 key]))))).length 64) z80)) 92)), .ro 5 false false (List.take 32 (pu IntKind.u8 (JE (Ji (Jo (PV.ro 5 false false (pu IntKind.u8 (JV (Ji (List.take 64 (List.take 32 (pu IntKind.u8 (JE (Ji (Jo [.ro 5 y0 y1 key]))))) ++ List.drop (0 + min (List.take 32 (pu IntKind.u8 (JE (Ji (Jo [.ro 5 y0 y1 key]))))).length 64) z80)) 54)) :: parts))))))]))))) [] []) else none else none else none else none else none else none else none else bif y2 then bif Jh IntKind.u8 (List.take 64 key ++ List.drop (0 + min key.length 64) z80) && decide ((List.take 64 key ++ List.drop (0 + min key.length 64) z80).length = 64) && true then bif Jh IntKind.u8 (Jo [.ro 5 false false (pu IntKind.u8 (JV (Ji (List.take 64 key ++ List.drop (0 + min key.length 64) z80)) 54))]) && decide ((Jo [.ro 5 false false (pu IntKind.u8 (JV (Ji (List.take 64 key ++ List.drop (0 + min key.length 64) z80)) 54))]).length <= 140737488355000) then bif Jh IntKind.u8 (List.take 64 key ++ List.drop (0 + min key.length 64) z80) && decide ((List.take 64 key ++ List.drop (0 + min key.length 64) z80).length = 64) && true then bif Jh IntKind.u8 (Jo [.ro 5 false false (pu IntKind.u8 (JV (Ji (List.take 64 key ++ List.drop (0 + min key.length 64) z80)) 92)), .ro 5 false false (List.take 32 (pu IntKind.u8 (JE (Ji (Jo [.ro 5 false false (pu IntKind.u8 (JV (Ji (List.take 64 key ++ List.drop (0 + min key.length 64) z80)) 54))])))))]) && decide ((Jo [.ro 5 false false (pu IntKind.u8 (JV (Ji (List.take 64 key ++ List.drop (0 + min key.length 64) z80)) 92)), .ro 5 false false (List.take 32 (pu IntKind.u8 (JE (Ji (Jo [.ro 5 false false (pu IntKind.u8 (JV (Ji (List.take 64 key ++ List.drop (0 + min key.length 64) z80)) 54))])))))]).length <= 140737488355000) then k (Res.mk (.ar 37 (pu IntKind.u8 (JE (Ji (Jo [.ro 5 false false (pu IntKind.u8 (JV (Ji (List.take 64 key ++ List.drop (0 + min key.length 64) z80)) 92)), .ro 5 false false (List.take 32 (pu IntKind.u8 (JE (Ji (Jo [.ro 5 false false (pu IntKind.u8 (JV (Ji (List.take 64 key ++ List.drop (0 + min key.length 64) z80)) 54))])))))]))))) [] []) else none else none else none else none else bif Jl (0 + parts.length) 24 && true then bif Jh IntKind.u8 (List.take 64 key ++ List.drop (0 + min key.length 64) z80) && decide ((List.take 64 key ++ List.drop (0 + min key.length 64) z80).length = 64) && true then bif decide (0 + parts.length = parts.length) && decide (parts.length <= 1000000000) then bif parts.all (PV.isRo 5) && decide ((PV.ro 5 false false (pu IntKind.u8 (JV (Ji (List.take 64 key ++ List.drop (0 + min key.length 64) z80)) 54)) :: parts).length <= 140737488355328) && (Jh IntKind.u8 (Jo (PV.ro 5 false false (pu IntKind.u8 (JV (Ji (List.take 64 key ++ List.drop (0 + min key.length 64) z80)) 54)) :: parts)) && decide ((Jo (PV.ro 5 false false (pu IntKind.u8 (JV (Ji (List.take 64 key ++ List.drop (0 + min key.length 64) z80)) 54)) :: parts)).length <= 140737488355000)) then bif Jh IntKind.u8 (List.take 64 key ++ List.drop (0 + min key.length 64) z80) && decide ((List.take 64 key ++ List.drop (0 + min key.length 64) z80).length = 64) && true then bif Jh IntKind.u8 (Jo [.ro 5 false false (pu IntKind.u8 (JV (Ji (List.take 64 key ++ List.drop (0 + min key.length 64) z80)) 92)), .ro 5 false false (List.take 32 (pu IntKind.u8 (JE (Ji (Jo (PV.ro 5 false false (pu IntKind.u8 (JV (Ji (List.take 64 key ++ List.drop (0 + min key.length 64) z80)) 54)) :: parts))))))]) && decide ((Jo [.ro 5 false false (pu IntKind.u8 (JV (Ji (List.take 64 key ++ List.drop (0 + min key.length 64) z80)) 92)), .ro 5 false false (List.take 32 (pu IntKind.u8 (JE (Ji (Jo (PV.ro 5 false false (pu IntKind.u8 (JV (Ji (List.take 64 key ++ List.drop (0 + min key.length 64) z80)) 54)) :: parts))))))]).length <= 140737488355000) then k (Res.mk (.ar 37 (pu IntKind.u8 (JE (Ji (Jo [.ro 5 false false (pu IntKind.u8 (JV (Ji (List.take 64 key ++ List.drop (0 + min key.length 64) z80)) 92)), .ro 5 false false (List.take 32 (pu IntKind.u8 (JE (Ji (Jo (PV.ro 5 false false (pu IntKind.u8 (JV (Ji (List.take 64 key ++ List.drop (0 + min key.length 64) z80)) 54)) :: parts))))))]))))) [] []) else none else none else none else none else none else none
theorem e80 (f : Nat) (y0 y1 : Bool) (key : List PV) (y2 y3 : Bool) (parts : List PV) (k : Res -> Option Res) : JN tau F80 Try.f80 (Try.f80.body.get!) JpR [.ro] 0 [.ro 5 y0 y1 key, .ro 29 y2 y3 parts] [] k = g80 f y0 y1 key y2 y3 parts k := by kernel_rfl
theorem JED (f : Nat) : Je (Try.f80.body.get!) JpR = [] := by kernel_rfl
theorem JEE (f : Nat) : ∀ q ∈ Je (Try.f80.body.get!) JpR, q.Ok tau Try.prog 0 := by
 rw [JED f]; intro q hq; cases hq
theorem JzK : Try.prog.funcs[80]? = some Try.f80 := by kernel_rfl
theorem JzL : Try.f80.body = some (Try.f80.body.get!) := by kernel_rfl
theorem Jvh : Enters Try.prog 80 := enters_of JzK (by kernel_rfl) JzL
def JmR : List PV -> List Ent -> (Res -> Option Res) -> Option Res
 | [.ro 5 y0 y1 key, .ro 29 y2 y3 parts], [], k => g80 0 y0 y1 key y2 y3 parts k
 | _, _, _ => none
def s80 : Sig := { own := [], run := JmR }
theorem JEF : Jf tau Try.prog 80 s80 := JP Jq Jvg Jr JzK JzL JpR [.ro] 0 [] JmR (JEE 0) fun xs es k res hr => by
 unfold JmR at hr
 split at hr
 · exact ⟨rfl, 0, (e80 0 _ _ _ _ _ _  _).trans hr⟩
 · cases hr
-- FN hmac.Mac
theorem ZC (a b : List PV) : Ji (a ++ b) = Ji a ++ Ji b := by simp [Ji]
@[simp] theorem JzM : Ji [] = [] := rfl
/-- a key, with noughts behind it -/
def Jlu (s : List Int) : List Int := s ++ List.replicate (64 - s.length) 0
def GA (key : List Int) : List Int := if key.length > 64 then Jlu (JE key) else Jlu key
def Jgv (key text : List Int) : List Int := JE (JV (GA key) 92 ++ JE (JV (GA key) 54 ++ text))
def Q9 : List Int -> List Int -> List Int := hid Jgv
theorem Jbr (key text : List Int) : Q9 key text = Jgv key text := by rw [Q9, hid_eq]
theorem ZD (key text : List Int) : (Q9 key text).length = 32 := by rw [Jbr]; exact J8 _
theorem XE (key : List Int) : (GA key).length = 64 := by
 unfold GA Jlu
 split
 · rw [List.length_append, J8, List.length_replicate]
 · rw [List.length_append, List.length_replicate]; omega
def x54 (kb : List PV) : PV := .ro 5 false false (pu .u8 (JV (Ji kb) 54))
def x92 (kb : List PV) : PV := .ro 5 false false (pu .u8 (JV (Ji kb) 92))
def t32 (l : List PV) : PV := .ro 5 false false (List.take 32 (pu .u8 (JE (Ji (Jo l)))))
def kbG (src : List PV) : List PV := [] ++ List.take 64 src ++ List.drop (0 + min src.length 64) (pu .u8 (List.replicate 64 0))
def GB (pz : Bool) (parts kb : List PV) (k : Res -> Option Res) : Option Res :=
 bif pz then
  bif Jh .u8 kb && decide (kb.length = 64) && true then
   bif Jh .u8 (Jo [x54 kb]) && decide ((Jo [x54 kb]).length <= 140737488355000) then
    bif Jh .u8 kb && decide (kb.length = 64) && true then
     bif Jh .u8 (Jo [x92 kb, t32 [x54 kb]]) && decide ((Jo [x92 kb, t32 [x54 kb]]).length <= 140737488355000) then
      k ⟨.ar 37 (pu .u8 (JE (Ji (Jo [x92 kb, t32 [x54 kb]])))), [], []⟩
     else none
    else none
   else none
  else none
 else bif Jl (0 + parts.length) 24 && true then
  bif Jh .u8 kb && decide (kb.length = 64) && true then
   bif decide (0 + parts.length = ([] ++ parts).length) && decide (([] ++ parts).length <= 1000000000) then
    bif ([] ++ parts).all (PV.isRo 5) && decide ((x54 kb :: ([] ++ parts)).length <= 140737488355328) && (Jh .u8 (Jo (x54 kb :: ([] ++ parts))) && decide ((Jo (x54 kb :: ([] ++ parts))).length <= 140737488355000)) then
     bif Jh .u8 kb && decide (kb.length = 64) && true then
      bif Jh .u8 (Jo [x92 kb, t32 (x54 kb :: ([] ++ parts))]) && decide ((Jo [x92 kb, t32 (x54 kb :: ([] ++ parts))]).length <= 140737488355000) then
       k ⟨.ar 37 (pu .u8 (JE (Ji (Jo [x92 kb, t32 (x54 kb :: ([] ++ parts))])))), [], []⟩
      else none
     else none
    else none
   else none
  else none
 else none
theorem JmS (kz kf : Bool) (key : List PV) (pz pf : Bool) (parts : List PV) (k : Res -> Option Res) : g80 0 kz kf key pz pf parts k =
 (bif decide (zi key.length > 64) then
  bif Jh .u8 (Jo [.ro 5 kz kf key]) && decide ((Jo [.ro 5 kz kf key]).length <= 140737488355000) then
   GB pz parts (kbG (List.take 32 (pu .u8 (JE (Ji (Jo [.ro 5 kz kf key])))))) k
  else none
 else GB pz parts (kbG key) k) := by kernel_rfl
theorem JeK (s : List Int) (h : s.length <= 64) : kbG (pu .u8 s) = pu .u8 (Jlu s) := by
 unfold kbG Jlu
 rw [JJ, show 0 + min s.length 64 = s.length from by omega, Jjs, List.drop_replicate, List.take_of_length_le (by simpa using h), List.nil_append, ← JU]
theorem Jcg (K : List Int) (hK : K.length = 64) (pz : Bool) (parts : List PV) (hz : pz = true -> parts = []) (h1 : parts.all (PV.isRo 5) = true) (h2 : parts.length <= 1000000) (h3 : Jh .u8 (Jo parts) = true) (h4 : (Jo parts).length <= 1000000000) (k : Res -> Option Res) :
  GB pz parts (pu .u8 K) k = k ⟨.ar 37 (pu .u8 (JE (JV K 92 ++ JE (JV K 54 ++ Ji (Jo parts))))), [], []⟩ := by
 have hk : (Jh .u8 (pu .u8 K) && decide ((pu .u8 K).length = 64) && true) = true := by simp [hK]
 have e54 : x54 (pu .u8 K) = .ro 5 false false (pu .u8 (JV K 54)) := by simp [x54]
 have e92 : x92 (pu .u8 K) = .ro 5 false false (pu .u8 (JV K 92)) := by simp [x92]
 have hS : ∀ l : List Int, List.take 32 (pu .u8 (JE l)) = pu .u8 (JE l) := fun l => List.take_of_length_le (by simp [J8])
 cases pz with
 | true =>
  have := hz rfl; subst this
  have et : t32 [x54 (pu .u8 K)] = .ro 5 false false (pu .u8 (JE (JV K 54))) := by simp [t32, e54, PV.els, hS]
  unfold GB
  rw [cond_true, Jb hk, Jb (by simp [e54, PV.els, hK]), Jb hk, et, e92, Jb (by simp [PV.els, hK, QQ, J8])]
  simp [PV.els, ZC]
 | false =>
  have et : t32 (x54 (pu .u8 K) :: ([] ++ parts)) = .ro 5 false false (pu .u8 (JE (JV K 54 ++ Ji (Jo parts)))) := by
    rw [List.nil_append, t32, e54, Va, hS]
    simp only [PV.els]
    rw [ZC, QW]
  unfold GB
  have hp : (pu IntKind.u8 K).length = 64 := by simp [hK]
  rw [cond_false, Jb (by simp [Jl]; omega), Jb hk, Jb (by simp; omega), Jb, Jb hk, et, e92, Jb (by simp [PV.els, hK, QQ, J8])]
  · simp [PV.els, ZC]
  · rw [e54]
    simp only [List.nil_append, Va, PV.els, h1, QQ, JO, h3, List.length_cons, List.length_append, JJ, Jgt, hK, Bool.true_and, Bool.and_true, Bool.and_eq_true, decide_eq_true_eq]
    omega
def Jij : List PV -> List Ent -> (Res -> Option Res) -> Option Res
 | [.ro 5 kz kf key, .ro 29 pz pf parts], [], k =>
  bif (Jh .u8 key && decide (key.length <= 1000000000)) && ((parts.all (PV.isRo 5) && decide (parts.length <= 1000000)) && (Jh .u8 (Jo parts) && decide ((Jo parts).length <= 1000000000))) && (!pz || parts.isEmpty) then
   k ⟨.ar 37 (pu .u8 (Q9 (Ji key) (Ji (Jo parts)))), [], []⟩ else none
 | _, _, _ => none
def JpS : Sig := { own := [], run := Jij }
theorem Jvi (kz kf : Bool) (key : List PV) (pz pf : Bool) (parts : List PV) (k : Res -> Option Res) (a1 : Jh .u8 key = true) (a2 : key.length <= 1000000000) (h1 : parts.all (PV.isRo 5) = true) (h2 : parts.length <= 1000000) (h3 : Jh .u8 (Jo parts) = true) (h4 : (Jo parts).length <= 1000000000) (hz : pz = true -> parts = []) :
   g80 0 kz kf key pz pf parts k = k ⟨.ar 37 (pu .u8 (Q9 (Ji key) (Ji (Jo parts)))), [], []⟩ := by
 rw [JmS, Jbr, Jgv]
 have hf : Jo [.ro 5 kz kf key] = key := by simp [PV.els]
 have hi := Qc a1
 by_cases hc : key.length > 64
 · rw [Jb (by simp [zi]; omega), hf, Jb (by simp [a1]; omega), List.take_of_length_le (by simp [J8]), JeK _ (by rw [J8]; omega),
    Jcg _ (by rw [← XE (Ji key), GA, if_pos (by simpa using hc)]) pz parts hz h1 h2 h3 h4, GA, if_pos (by simpa using hc)]
 · have hl : (Ji key).length <= 64 := by simp; omega
   rw [Jv (by simp [zi]; omega), hi, JeK _ hl, QW, Jcg _ (by rw [← XE (Ji key), GA, if_neg (by omega)]) pz parts hz h1 h2 h3 h4, GA, if_neg (by omega)]
theorem JmT : Jf tau Try.prog 80 JpS := JEF.of fun xs es k res hr => by
 change Jij xs es k = some res at hr
 unfold Jij at hr
 split at hr
 · rename_i kz kf key pz pf parts
   obtain ⟨hc, hr⟩ := JG hr
   simp only [Bool.and_eq_true, decide_eq_true_eq, Bool.or_eq_true, Bool.not_eq_true', List.isEmpty_iff] at hc
   obtain ⟨⟨⟨a1, a2⟩, ⟨h1, h2⟩, h3, h4⟩, hz⟩ := hc
   exact (Jvi kz kf key pz pf parts k a1 a2 h1 h2 h3 h4 (fun hp => hz.resolve_left (by rw [hp]; decide))).trans hr
 · cases hr

-- FN wire.Parse
structure PA where
 (l : List PV) (b : List PV)
def kOk (l : List PV) : Bool := Jh .u8 l && decide (l.length <= 1000000000)
theorem JpT {z0 f0 z1 f1 z2 f2 : Bool} {k0 k1 k2 : List PV} (h0 : kOk k0 = true) (h1 : kOk k1 = true) (h2 : kOk k2 = true) (d : Int) : kOk (QS ⟨[.ro 5 z0 f0 k0, .ro 5 z1 f1 k1, .ro 5 z2 f2 k2], d⟩) = true := by
 rw [Jbq]
 show kOk (Xm _ d).els = true
 unfold Xm
 cases h : QR d 2 with
 | false => rfl
 | true =>
  simp only [QR, Bool.and_eq_true, decide_eq_true_eq] at h
  have : d = 0 ∨ d = 1 ∨ d = 2 := by omega
  rcases this with rfl | rfl | rfl
  · exact h0
  · exact h1
  · exact h2
theorem JEG : Try.prog.funcs[96]? = some Try.f96 := by kernel_rfl
theorem JEH : Try.f96.body = some (Try.f96.body.get!) := by kernel_rfl
theorem JzN : Enters Try.prog 96 := enters_of JEG (by kernel_rfl) JEH
theorem JEI : Try.prog.funcs[98]? = some Try.f98 := by kernel_rfl
theorem JEJ : Try.f98.body = some (Try.f98.body.get!) := by kernel_rfl
theorem Jvj : Enters Try.prog 98 := enters_of JEI (by kernel_rfl) JEJ
def JsG : Fns := F0
theorem JmU : Ju tau Try.prog JsG := JB
def JeL : An := (.seq .leaf (.seq (.seq .leaf (.cond (.seq .leaf .leaf) .leaf)) (.seq .leaf .leaf)))
def JsH (f : Nat) (s_z s_f : Bool) (s : List PV) (k : Res -> Option Res) : Option Res := bif s_z then k (Res.mk (.ro 5 true true []) [] []) else bif Jl (0 + s.length) 1 && true then k (Res.mk (.ow 5 16 [] 0 (0 + s.length) none) [] [.vec false 5 false s]) else none
theorem JzO (f : Nat) (s_z s_f : Bool) (s : List PV) (k : Res -> Option Res) : JN tau JsG Try.f131 (Try.f131.body.get!) JeL [] 0 [.ro 5 s_z s_f s] [] k = JsH f s_z s_f s k := by kernel_rfl
theorem Jvk (f : Nat) : Je (Try.f131.body.get!) JeL = [] := by kernel_rfl
theorem Jvl (f : Nat) : ∀ q ∈ Je (Try.f131.body.get!) JeL, q.Ok tau Try.prog 0 := by
 rw [Jvk f]; intro q hq; cases hq
theorem JmV : Try.prog.funcs[131]? = some Try.f131 := by kernel_rfl
theorem JmW : Try.f131.body = some (Try.f131.body.get!) := by kernel_rfl
theorem JmX : Enters Try.prog 131 := enters_of JmV (by kernel_rfl) JmW
def JeM : List PV -> List Ent -> (Res -> Option Res) -> Option Res
 | [.ro 5 s_z s_f s], [], k => JsH 0 s_z s_f s k
 | _, _, _ => none
def JmY : Sig := { own := [], run := JeM }
theorem JmZ : Jf tau Try.prog 131 JmY := JP Jq JmU Jr JmV JmW JeL [] 0 [] JeM (Jvl 0) fun xs es k res hr => by
 unfold JeM at hr
 split at hr
 · exact ⟨rfl, 0, (JzO 0 _ _ _  _).trans hr⟩
 · cases hr
def F97 : Fns := JC 131 JmY (F0)
theorem Jvm : Ju tau Try.prog F97 := (JB).add JmZ JmX
def Jvn : Nm := [(0, .any), (1, .any), (5, .own), (6, .any)]
def JzP : An := (.seq .leaf (.seq .leaf (.seq .leaf (.seq .leaf (.seq (.seq .leaf (.seq .leaf (.cond .leaf .leaf))) (.seq .leaf .leaf))))))
def JpU : An := (.seq .leaf (.scope Jvn JzP))
def g97 (f : Nat) (b_z b_f : Bool) (b : List PV) (n : Int) (k : Res -> Option Res) : Option Res := bif b_z then k (Res.mk (.ro 5 false false [.sc (.int .u8 (IntKind.u8.wrap (JD IntKind.u64 (IntKind.u64.wrap n) (IntKind.i64.wrap (8 * 0))))), .sc (.int .u8 (IntKind.u8.wrap (JD IntKind.u64 (IntKind.u64.wrap n) (IntKind.i64.wrap (8 * IntKind.i64.wrap (0 + 1)))))), .sc (.int .u8 (IntKind.u8.wrap (JD IntKind.u64 (IntKind.u64.wrap n) (IntKind.i64.wrap (8 * IntKind.i64.wrap (IntKind.i64.wrap (0 + 1) + 1)))))), .sc (.int .u8 (IntKind.u8.wrap (JD IntKind.u64 (IntKind.u64.wrap n) (IntKind.i64.wrap (8 * IntKind.i64.wrap (IntKind.i64.wrap (IntKind.i64.wrap (0 + 1) + 1) + 1)))))), .sc (.int .u8 (IntKind.u8.wrap (JD IntKind.u64 (IntKind.u64.wrap n) (IntKind.i64.wrap (8 * IntKind.i64.wrap (IntKind.i64.wrap (IntKind.i64.wrap (IntKind.i64.wrap (0 + 1) + 1) + 1) + 1)))))), .sc (.int .u8 (IntKind.u8.wrap (JD IntKind.u64 (IntKind.u64.wrap n) (IntKind.i64.wrap (8 * IntKind.i64.wrap (IntKind.i64.wrap (IntKind.i64.wrap (IntKind.i64.wrap (IntKind.i64.wrap (0 + 1) + 1) + 1) + 1) + 1)))))), .sc (.int .u8 (IntKind.u8.wrap (JD IntKind.u64 (IntKind.u64.wrap n) (IntKind.i64.wrap (8 * IntKind.i64.wrap (IntKind.i64.wrap (IntKind.i64.wrap (IntKind.i64.wrap (IntKind.i64.wrap (IntKind.i64.wrap (0 + 1) + 1) + 1) + 1) + 1) + 1)))))), .sc (.int .u8 (IntKind.u8.wrap (JD IntKind.u64 (IntKind.u64.wrap n) (IntKind.i64.wrap (8 * IntKind.i64.wrap (IntKind.i64.wrap (IntKind.i64.wrap (IntKind.i64.wrap (IntKind.i64.wrap (IntKind.i64.wrap (IntKind.i64.wrap (0 + 1) + 1) + 1) + 1) + 1) + 1) + 1))))))]) [] []) else bif Jl (0 + b.length) 1 && true then bif Jl (0 + b.length + 1) 1 && true then bif Jl (0 + b.length + 1 + 1) 1 && true then bif Jl (0 + b.length + 1 + 1 + 1) 1 && true then bif Jl (0 + b.length + 1 + 1 + 1 + 1) 1 && true then bif Jl (0 + b.length + 1 + 1 + 1 + 1 + 1) 1 && true then bif Jl (0 + b.length + 1 + 1 + 1 + 1 + 1 + 1) 1 && true then bif Jl (0 + b.length + 1 + 1 + 1 + 1 + 1 + 1 + 1) 1 && true then bif Jl (0 + b.length + 1 + 1 + 1 + 1 + 1 + 1 + 1 + 1) 1 && true then bif Jl (0 + (List.take (0 + b.length + 1 + 1 + 1 + 1 + 1 + 1 + 1 + 1) (List.take (0 + b.length + 1 + 1 + 1 + 1 + 1 + 1 + 1) (List.take (0 + b.length + 1 + 1 + 1 + 1 + 1 + 1) (List.take (0 + b.length + 1 + 1 + 1 + 1 + 1) (List.take (0 + b.length + 1 + 1 + 1 + 1) (List.take (0 + b.length + 1 + 1 + 1) (List.take (0 + b.length + 1 + 1) (List.take (0 + b.length + 1) (List.take (0 + b.length) b ++ [.sc (.int .u8 (IntKind.u8.wrap (JD IntKind.u64 (IntKind.u64.wrap n) (IntKind.i64.wrap (8 * 0)))))]) ++ [.sc (.int .u8 (IntKind.u8.wrap (JD IntKind.u64 (IntKind.u64.wrap n) (IntKind.i64.wrap (8 * IntKind.i64.wrap (0 + 1))))))]) ++ [.sc (.int .u8 (IntKind.u8.wrap (JD IntKind.u64 (IntKind.u64.wrap n) (IntKind.i64.wrap (8 * IntKind.i64.wrap (IntKind.i64.wrap (0 + 1) + 1))))))]) ++ [.sc (.int .u8 (IntKind.u8.wrap (JD IntKind.u64 (IntKind.u64.wrap n) (IntKind.i64.wrap (8 * IntKind.i64.wrap (IntKind.i64.wrap (IntKind.i64.wrap (0 + 1) + 1) + 1))))))]) ++ [.sc (.int .u8 (IntKind.u8.wrap (JD IntKind.u64 (IntKind.u64.wrap n) (IntKind.i64.wrap (8 * IntKind.i64.wrap (IntKind.i64.wrap (IntKind.i64.wrap (IntKind.i64.wrap (0 + 1) + 1) + 1) + 1))))))]) ++ [.sc (.int .u8 (IntKind.u8.wrap (JD IntKind.u64 (IntKind.u64.wrap n) (IntKind.i64.wrap (8 * IntKind.i64.wrap (IntKind.i64.wrap (IntKind.i64.wrap (IntKind.i64.wrap (IntKind.i64.wrap (0 + 1) + 1) + 1) + 1) + 1))))))]) ++ [.sc (.int .u8 (IntKind.u8.wrap (JD IntKind.u64 (IntKind.u64.wrap n) (IntKind.i64.wrap (8 * IntKind.i64.wrap (IntKind.i64.wrap (IntKind.i64.wrap (IntKind.i64.wrap (IntKind.i64.wrap (IntKind.i64.wrap (0 + 1) + 1) + 1) + 1) + 1) + 1))))))]) ++ [.sc (.int .u8 (IntKind.u8.wrap (JD IntKind.u64 (IntKind.u64.wrap n) (IntKind.i64.wrap (8 * IntKind.i64.wrap (IntKind.i64.wrap (IntKind.i64.wrap (IntKind.i64.wrap (IntKind.i64.wrap (IntKind.i64.wrap (IntKind.i64.wrap (0 + 1) + 1) + 1) + 1) + 1) + 1) + 1))))))])).length) 1 && true then k (Res.mk (.ro 5 false false (List.take (0 + (List.take (0 + b.length + 1 + 1 + 1 + 1 + 1 + 1 + 1 + 1) (List.take (0 + b.length + 1 + 1 + 1 + 1 + 1 + 1 + 1) (List.take (0 + b.length + 1 + 1 + 1 + 1 + 1 + 1) (List.take (0 + b.length + 1 + 1 + 1 + 1 + 1) (List.take (0 + b.length + 1 + 1 + 1 + 1) (List.take (0 + b.length + 1 + 1 + 1) (List.take (0 + b.length + 1 + 1) (List.take (0 + b.length + 1) (List.take (0 + b.length) b ++ [.sc (.int .u8 (IntKind.u8.wrap (JD IntKind.u64 (IntKind.u64.wrap n) (IntKind.i64.wrap (8 * 0)))))]) ++ [.sc (.int .u8 (IntKind.u8.wrap (JD IntKind.u64 (IntKind.u64.wrap n) (IntKind.i64.wrap (8 * IntKind.i64.wrap (0 + 1))))))]) ++ [.sc (.int .u8 (IntKind.u8.wrap (JD IntKind.u64 (IntKind.u64.wrap n) (IntKind.i64.wrap (8 * IntKind.i64.wrap (IntKind.i64.wrap (0 + 1) + 1))))))]) ++ [.sc (.int .u8 (IntKind.u8.wrap (JD IntKind.u64 (IntKind.u64.wrap n) (IntKind.i64.wrap (8 * IntKind.i64.wrap (IntKind.i64.wrap (IntKind.i64.wrap (0 + 1) + 1) + 1))))))]) ++ [.sc (.int .u8 (IntKind.u8.wrap (JD IntKind.u64 (IntKind.u64.wrap n) (IntKind.i64.wrap (8 * IntKind.i64.wrap (IntKind.i64.wrap (IntKind.i64.wrap (IntKind.i64.wrap (0 + 1) + 1) + 1) + 1))))))]) ++ [.sc (.int .u8 (IntKind.u8.wrap (JD IntKind.u64 (IntKind.u64.wrap n) (IntKind.i64.wrap (8 * IntKind.i64.wrap (IntKind.i64.wrap (IntKind.i64.wrap (IntKind.i64.wrap (IntKind.i64.wrap (0 + 1) + 1) + 1) + 1) + 1))))))]) ++ [.sc (.int .u8 (IntKind.u8.wrap (JD IntKind.u64 (IntKind.u64.wrap n) (IntKind.i64.wrap (8 * IntKind.i64.wrap (IntKind.i64.wrap (IntKind.i64.wrap (IntKind.i64.wrap (IntKind.i64.wrap (IntKind.i64.wrap (0 + 1) + 1) + 1) + 1) + 1) + 1))))))]) ++ [.sc (.int .u8 (IntKind.u8.wrap (JD IntKind.u64 (IntKind.u64.wrap n) (IntKind.i64.wrap (8 * IntKind.i64.wrap (IntKind.i64.wrap (IntKind.i64.wrap (IntKind.i64.wrap (IntKind.i64.wrap (IntKind.i64.wrap (IntKind.i64.wrap (0 + 1) + 1) + 1) + 1) + 1) + 1) + 1))))))])).length) (List.take (0 + b.length + 1 + 1 + 1 + 1 + 1 + 1 + 1 + 1) (List.take (0 + b.length + 1 + 1 + 1 + 1 + 1 + 1 + 1) (List.take (0 + b.length + 1 + 1 + 1 + 1 + 1 + 1) (List.take (0 + b.length + 1 + 1 + 1 + 1 + 1) (List.take (0 + b.length + 1 + 1 + 1 + 1) (List.take (0 + b.length + 1 + 1 + 1) (List.take (0 + b.length + 1 + 1) (List.take (0 + b.length + 1) (List.take (0 + b.length) b ++ [.sc (.int .u8 (IntKind.u8.wrap (JD IntKind.u64 (IntKind.u64.wrap n) (IntKind.i64.wrap (8 * 0)))))]) ++ [.sc (.int .u8 (IntKind.u8.wrap (JD IntKind.u64 (IntKind.u64.wrap n) (IntKind.i64.wrap (8 * IntKind.i64.wrap (0 + 1))))))]) ++ [.sc (.int .u8 (IntKind.u8.wrap (JD IntKind.u64 (IntKind.u64.wrap n) (IntKind.i64.wrap (8 * IntKind.i64.wrap (IntKind.i64.wrap (0 + 1) + 1))))))]) ++ [.sc (.int .u8 (IntKind.u8.wrap (JD IntKind.u64 (IntKind.u64.wrap n) (IntKind.i64.wrap (8 * IntKind.i64.wrap (IntKind.i64.wrap (IntKind.i64.wrap (0 + 1) + 1) + 1))))))]) ++ [.sc (.int .u8 (IntKind.u8.wrap (JD IntKind.u64 (IntKind.u64.wrap n) (IntKind.i64.wrap (8 * IntKind.i64.wrap (IntKind.i64.wrap (IntKind.i64.wrap (IntKind.i64.wrap (0 + 1) + 1) + 1) + 1))))))]) ++ [.sc (.int .u8 (IntKind.u8.wrap (JD IntKind.u64 (IntKind.u64.wrap n) (IntKind.i64.wrap (8 * IntKind.i64.wrap (IntKind.i64.wrap (IntKind.i64.wrap (IntKind.i64.wrap (IntKind.i64.wrap (0 + 1) + 1) + 1) + 1) + 1))))))]) ++ [.sc (.int .u8 (IntKind.u8.wrap (JD IntKind.u64 (IntKind.u64.wrap n) (IntKind.i64.wrap (8 * IntKind.i64.wrap (IntKind.i64.wrap (IntKind.i64.wrap (IntKind.i64.wrap (IntKind.i64.wrap (IntKind.i64.wrap (0 + 1) + 1) + 1) + 1) + 1) + 1))))))]) ++ [.sc (.int .u8 (IntKind.u8.wrap (JD IntKind.u64 (IntKind.u64.wrap n) (IntKind.i64.wrap (8 * IntKind.i64.wrap (IntKind.i64.wrap (IntKind.i64.wrap (IntKind.i64.wrap (IntKind.i64.wrap (IntKind.i64.wrap (IntKind.i64.wrap (0 + 1) + 1) + 1) + 1) + 1) + 1) + 1))))))])))) [] []) else none else none else none else none else none else none else none else none else none else none
theorem e97 (f : Nat) (b_z b_f : Bool) (b : List PV) (n : Int) (k : Res -> Option Res) : JN tau F97 Try.f97 (Try.f97.body.get!) JpU [.ro] 12 [.ro 5 b_z b_f b, .sc (.int .i64 n)] [] k = g97 f b_z b_f b n k := by kernel_rfl
theorem JEK (f : Nat) : Je (Try.f97.body.get!) JpU = [] := by kernel_rfl
theorem JEL (f : Nat) : ∀ q ∈ Je (Try.f97.body.get!) JpU, q.Ok tau Try.prog 0 := by
 rw [JEK f]; intro q hq; cases hq
theorem JzQ : Try.prog.funcs[97]? = some Try.f97 := by kernel_rfl
theorem JzR : Try.f97.body = some (Try.f97.body.get!) := by kernel_rfl
theorem Jvo : Enters Try.prog 97 := enters_of JzQ (by kernel_rfl) JzR
def JzS : Fns := F0
theorem JpV : Ju tau Try.prog JzS := JB
def Jj3 : An := (.seq .leaf (.seq .leaf .leaf))
def JEM (f : Nat) (n : Int) (k : Res -> Option Res) : Option Res := k (Res.mk (.ow 5 16 [] 0 1 none) [] [.vec false 5 false [.sc (.int .u8 (IntKind.u8.wrap n))]])
theorem JEN (f : Nat) (n : Int) (k : Res -> Option Res) : JN tau JzS Try.f110 (Try.f110.body.get!) Jj3 [] 0 [.ro 5 true true [], .sc (.int .i64 n)] [] k = JEM f n k := by kernel_rfl
theorem JzT (f : Nat) : Je (Try.f110.body.get!) Jj3 = [] := by kernel_rfl
theorem JzU (f : Nat) : ∀ q ∈ Je (Try.f110.body.get!) Jj3, q.Ok tau Try.prog 0 := by
 rw [JzT f]; intro q hq; cases hq
theorem JsI : Try.prog.funcs[110]? = some Try.f110 := by kernel_rfl
theorem JsJ : Try.f110.body = some (Try.f110.body.get!) := by kernel_rfl
theorem JsK : Enters Try.prog 110 := enters_of JsI (by kernel_rfl) JsJ
def JsL : Fns := F0
theorem Jm0 : Ju tau Try.prog JsL := JB
def JeN : An := (.seq .leaf (.seq .leaf .leaf))
def Jm1 (f : Nat) (nl : Bool) (l : List PV) (m : Nat) (n : Int) (k : Res -> Option Res) : Option Res := bif Jl (m + 1) 1 && true then k (Res.mk (.ow 5 16 [] 0 (m + 1) none) [.dead] [.vec false 5 (nl && false) (List.take m l ++ [.sc (.int .u8 (IntKind.u8.wrap n))])]) else none
theorem JzV (f : Nat) (nl : Bool) (l : List PV) (m : Nat) (n : Int) (k : Res -> Option Res) : JN tau JsL Try.f110 (Try.f110.body.get!) JeN [] 0 [.ow 5 0 [] 0 m none, .sc (.int .i64 n)] [.vec false 5 nl l] k = Jm1 f nl l m n k := by kernel_rfl
theorem Jvp (f : Nat) : Je (Try.f110.body.get!) JeN = [] := by kernel_rfl
theorem Jvq (f : Nat) : ∀ q ∈ Je (Try.f110.body.get!) JeN, q.Ok tau Try.prog 1 := by
 rw [Jvp f]; intro q hq; cases hq
theorem Jvr : Try.prog.funcs[110]? = some Try.f110 := by kernel_rfl
theorem Jvs : Try.f110.body = some (Try.f110.body.get!) := by kernel_rfl
def JzW : Fns := F0
theorem JpW : Ju tau Try.prog JzW := JB
def JpX : Nm := [(0, .own), (1, .any), (5, .any)]
def Jvt : An := (.seq (.seq .leaf (.cond .leaf .leaf)) (.seq (.block none .leaf) .leaf))
def Jj4 : An := (.seq .leaf (.seq (.seq .leaf (.block none (.loop JpX Jvt))) (.seq .leaf .leaf)))
def JzX (f : Nat) (n : Int) (k : Res -> Option Res) : Option Res := k (Res.mk (.ow 5 16 [] 0 8 none) [] [.vec false 5 false [.sc (.int .u8 (IntKind.u8.wrap (JD IntKind.u64 (IntKind.u64.wrap n) (IntKind.u64.wrap (8 * IntKind.u64.wrap 0))))), .sc (.int .u8 (IntKind.u8.wrap (JD IntKind.u64 (IntKind.u64.wrap n) (IntKind.u64.wrap (8 * IntKind.u64.wrap (IntKind.i64.wrap (0 + 1))))))), .sc (.int .u8 (IntKind.u8.wrap (JD IntKind.u64 (IntKind.u64.wrap n) (IntKind.u64.wrap (8 * IntKind.u64.wrap (IntKind.i64.wrap (IntKind.i64.wrap (0 + 1) + 1))))))), .sc (.int .u8 (IntKind.u8.wrap (JD IntKind.u64 (IntKind.u64.wrap n) (IntKind.u64.wrap (8 * IntKind.u64.wrap (IntKind.i64.wrap (IntKind.i64.wrap (IntKind.i64.wrap (0 + 1) + 1) + 1))))))), .sc (.int .u8 (IntKind.u8.wrap (JD IntKind.u64 (IntKind.u64.wrap n) (IntKind.u64.wrap (8 * IntKind.u64.wrap (IntKind.i64.wrap (IntKind.i64.wrap (IntKind.i64.wrap (IntKind.i64.wrap (0 + 1) + 1) + 1) + 1))))))), .sc (.int .u8 (IntKind.u8.wrap (JD IntKind.u64 (IntKind.u64.wrap n) (IntKind.u64.wrap (8 * IntKind.u64.wrap (IntKind.i64.wrap (IntKind.i64.wrap (IntKind.i64.wrap (IntKind.i64.wrap (IntKind.i64.wrap (0 + 1) + 1) + 1) + 1) + 1))))))), .sc (.int .u8 (IntKind.u8.wrap (JD IntKind.u64 (IntKind.u64.wrap n) (IntKind.u64.wrap (8 * IntKind.u64.wrap (IntKind.i64.wrap (IntKind.i64.wrap (IntKind.i64.wrap (IntKind.i64.wrap (IntKind.i64.wrap (IntKind.i64.wrap (0 + 1) + 1) + 1) + 1) + 1) + 1))))))), .sc (.int .u8 (IntKind.u8.wrap (JD IntKind.u64 (IntKind.u64.wrap n) (IntKind.u64.wrap (8 * IntKind.u64.wrap (IntKind.i64.wrap (IntKind.i64.wrap (IntKind.i64.wrap (IntKind.i64.wrap (IntKind.i64.wrap (IntKind.i64.wrap (IntKind.i64.wrap (0 + 1) + 1) + 1) + 1) + 1) + 1) + 1)))))))]])
theorem JEO (f : Nat) (n : Int) (k : Res -> Option Res) : JN tau JzW Try.f108 (Try.f108.body.get!) Jj4 [] 12 [.ro 5 true true [], .sc (.int .i64 n)] [] k = JzX f n k := by kernel_rfl
theorem JzY (f : Nat) : Je (Try.f108.body.get!) Jj4 = [] := by kernel_rfl
theorem JzZ (f : Nat) : ∀ q ∈ Je (Try.f108.body.get!) Jj4, q.Ok tau Try.prog 0 := by
 rw [JzY f]; intro q hq; cases hq
theorem JsM : Try.prog.funcs[108]? = some Try.f108 := by kernel_rfl
theorem JsN : Try.f108.body = some (Try.f108.body.get!) := by kernel_rfl
theorem JsO : Enters Try.prog 108 := enters_of JsM (by kernel_rfl) JsN
def JsP : Fns := F0
theorem Jm2 : Ju tau Try.prog JsP := JB
def Jm3 : Nm := [(0, .own), (1, .any), (5, .any)]
def JpY : An := (.seq (.seq .leaf (.cond .leaf .leaf)) (.seq (.block none .leaf) .leaf))
def JeO : An := (.seq .leaf (.seq (.seq .leaf (.block none (.loop Jm3 JpY))) (.seq .leaf .leaf)))
def Jm4 (f : Nat) (nl : Bool) (l : List PV) (m : Nat) (n : Int) (k : Res -> Option Res) : Option Res := bif Jl (m + 1) 1 && true then bif Jl (m + 1 + 1) 1 && true then bif Jl (m + 1 + 1 + 1) 1 && true then bif Jl (m + 1 + 1 + 1 + 1) 1 && true then bif Jl (m + 1 + 1 + 1 + 1 + 1) 1 && true then bif Jl (m + 1 + 1 + 1 + 1 + 1 + 1) 1 && true then bif Jl (m + 1 + 1 + 1 + 1 + 1 + 1 + 1) 1 && true then bif Jl (m + 1 + 1 + 1 + 1 + 1 + 1 + 1 + 1) 1 && true then k (Res.mk (.ow 5 16 [] 0 (m + 1 + 1 + 1 + 1 + 1 + 1 + 1 + 1) none) [.dead] [.vec false 5 (nl && false && false && false && false && false && false && false && false) (List.take (m + 1 + 1 + 1 + 1 + 1 + 1 + 1) (List.take (m + 1 + 1 + 1 + 1 + 1 + 1) (List.take (m + 1 + 1 + 1 + 1 + 1) (List.take (m + 1 + 1 + 1 + 1) (List.take (m + 1 + 1 + 1) (List.take (m + 1 + 1) (List.take (m + 1) (List.take m l ++ [.sc (.int .u8 (IntKind.u8.wrap (JD IntKind.u64 (IntKind.u64.wrap n) (IntKind.u64.wrap (8 * IntKind.u64.wrap 0)))))]) ++ [.sc (.int .u8 (IntKind.u8.wrap (JD IntKind.u64 (IntKind.u64.wrap n) (IntKind.u64.wrap (8 * IntKind.u64.wrap (IntKind.i64.wrap (0 + 1)))))))]) ++ [.sc (.int .u8 (IntKind.u8.wrap (JD IntKind.u64 (IntKind.u64.wrap n) (IntKind.u64.wrap (8 * IntKind.u64.wrap (IntKind.i64.wrap (IntKind.i64.wrap (0 + 1) + 1)))))))]) ++ [.sc (.int .u8 (IntKind.u8.wrap (JD IntKind.u64 (IntKind.u64.wrap n) (IntKind.u64.wrap (8 * IntKind.u64.wrap (IntKind.i64.wrap (IntKind.i64.wrap (IntKind.i64.wrap (0 + 1) + 1) + 1)))))))]) ++ [.sc (.int .u8 (IntKind.u8.wrap (JD IntKind.u64 (IntKind.u64.wrap n) (IntKind.u64.wrap (8 * IntKind.u64.wrap (IntKind.i64.wrap (IntKind.i64.wrap (IntKind.i64.wrap (IntKind.i64.wrap (0 + 1) + 1) + 1) + 1)))))))]) ++ [.sc (.int .u8 (IntKind.u8.wrap (JD IntKind.u64 (IntKind.u64.wrap n) (IntKind.u64.wrap (8 * IntKind.u64.wrap (IntKind.i64.wrap (IntKind.i64.wrap (IntKind.i64.wrap (IntKind.i64.wrap (IntKind.i64.wrap (0 + 1) + 1) + 1) + 1) + 1)))))))]) ++ [.sc (.int .u8 (IntKind.u8.wrap (JD IntKind.u64 (IntKind.u64.wrap n) (IntKind.u64.wrap (8 * IntKind.u64.wrap (IntKind.i64.wrap (IntKind.i64.wrap (IntKind.i64.wrap (IntKind.i64.wrap (IntKind.i64.wrap (IntKind.i64.wrap (0 + 1) + 1) + 1) + 1) + 1) + 1)))))))]) ++ [.sc (.int .u8 (IntKind.u8.wrap (JD IntKind.u64 (IntKind.u64.wrap n) (IntKind.u64.wrap (8 * IntKind.u64.wrap (IntKind.i64.wrap (IntKind.i64.wrap (IntKind.i64.wrap (IntKind.i64.wrap (IntKind.i64.wrap (IntKind.i64.wrap (IntKind.i64.wrap (0 + 1) + 1) + 1) + 1) + 1) + 1) + 1)))))))])]) else none else none else none else none else none else none else none else none
theorem Jz0 (f : Nat) (nl : Bool) (l : List PV) (m : Nat) (n : Int) (k : Res -> Option Res) : JN tau JsP Try.f108 (Try.f108.body.get!) JeO [] 12 [.ow 5 0 [] 0 m none, .sc (.int .i64 n)] [.vec false 5 nl l] k = Jm4 f nl l m n k := by kernel_rfl
theorem Jvu (f : Nat) : Je (Try.f108.body.get!) JeO = [] := by kernel_rfl
theorem Jvv (f : Nat) : ∀ q ∈ Je (Try.f108.body.get!) JeO, q.Ok tau Try.prog 1 := by
 rw [Jvu f]; intro q hq; cases hq
theorem Jvw : Try.prog.funcs[108]? = some Try.f108 := by kernel_rfl
theorem Jvx : Try.f108.body = some (Try.f108.body.get!) := by kernel_rfl
def JsQ : Fns := F0
theorem Jm5 : Ju tau Try.prog JsQ := JB
def JeP : An := (.seq .leaf (.seq (.seq .leaf (.cond .leaf .leaf)) (.seq .leaf .leaf)))
def Jm6 (f : Nat) (nl : Bool) (l : List PV) (m : Nat) (s : ByteArray) (k : Res -> Option Res) : Option Res := bif decide (zi s.size > 65535) then bif decide (65535 <= s.size) && true then bif Jl (m + 2) 1 && true then bif Jl (m + 2 + (Jj (s.extract 0 65535)).length) 1 && true then k (Res.mk (.ow 5 16 [] 0 (m + 2 + (Jj (s.extract 0 65535)).length) none) [.dead] [.vec false 5 (nl && false && (Jj (s.extract 0 65535)).isEmpty) (List.take (m + 2) (List.take m l ++ [.sc (.int .u8 (IntKind.u8.wrap (zi (s.extract 0 65535).size))), .sc (.int .u8 (IntKind.u8.wrap (JD IntKind.i64 (zi (s.extract 0 65535).size) 8)))]) ++ Jj (s.extract 0 65535))]) else none else none else none else bif Jl (m + 2) 1 && true then bif Jl (m + 2 + (Jj s).length) 1 && true then k (Res.mk (.ow 5 16 [] 0 (m + 2 + (Jj s).length) none) [.dead] [.vec false 5 (nl && false && (Jj s).isEmpty) (List.take (m + 2) (List.take m l ++ [.sc (.int .u8 (IntKind.u8.wrap (zi s.size))), .sc (.int .u8 (IntKind.u8.wrap (JD IntKind.i64 (zi s.size) 8)))]) ++ Jj s)]) else none else none
theorem Jz1 (f : Nat) (nl : Bool) (l : List PV) (m : Nat) (s : ByteArray) (k : Res -> Option Res) : JN tau JsQ Try.f109 (Try.f109.body.get!) JeP [] 0 [.ow 5 0 [] 0 m none, .sc (.string s)] [.vec false 5 nl l] k = Jm6 f nl l m s k := by kernel_rfl
theorem Jvy (f : Nat) : Je (Try.f109.body.get!) JeP = [] := by kernel_rfl
theorem Jvz (f : Nat) : ∀ q ∈ Je (Try.f109.body.get!) JeP, q.Ok tau Try.prog 1 := by
 rw [Jvy f]; intro q hq; cases hq
theorem Jm7 : Try.prog.funcs[109]? = some Try.f109 := by kernel_rfl
theorem Jm8 : Try.f109.body = some (Try.f109.body.get!) := by kernel_rfl
theorem JvA : Enters Try.prog 109 := enters_of Jm7 (by kernel_rfl) Jm8
-- FN code.Byte | code.Text | code.Int | ref1.Byte | ref1.Int | ref1.Text
def ib (n i : Int) : Int := IntKind.u8.wrap (JD .u64 (IntKind.u64.wrap n) (8 * i))
def Jj5 (n : Int) : List Int := [ib n 0, ib n 1, ib n 2, ib n 3, ib n 4, ib n 5, ib n 6, ib n 7]
def Qb : Int -> List Int := hid Jj5
theorem Wy (n : Int) : Qb n = Jj5 n := by rw [Qb, hid_eq]
@[simp] theorem XF (n : Int) : (Qb n).length = 8 := by rw [Wy]; rfl
/-- a text's bytes -/
def JpZ (s : ByteArray) : List Int := s.data.toList.map fun b => (b.toNat : Int)
def bsI : ByteArray -> List Int := hid JpZ
theorem Jch (s : ByteArray) : bsI s = JpZ s := by rw [bsI, hid_eq]
theorem Wu (s : ByteArray) : Jj s = pu .u8 (bsI s) := by rw [Jch]; simp [Jj, pu, JpZ]
@[simp] theorem VH (s : ByteArray) : (bsI s).length = s.size := by rw [Jch]; simp [JpZ]
theorem JvB (s : ByteArray) : ∀ x ∈ bsI s, 0 <= x /\ x < 256 := by
 intro x hx
 rw [Jch] at hx
 obtain ⟨b, _, rfl⟩ := List.mem_map.1 hx
 have := b.toNat_lt
 omega
def Yv (s : ByteArray) : List Int := [IntKind.u8.wrap (zi s.size), IntKind.u8.wrap (JD .i64 (zi s.size) 8)] ++ bsI s
def Qp : ByteArray -> List Int := hid Yv
theorem Wh (s : ByteArray) : Qp s = Yv s := by rw [Qp, hid_eq]
@[simp] theorem GC (s : ByteArray) : (Qp s).length = s.size + 2 := by rw [Wh]; simp [Yv]
theorem Yw (x : Int) : 0 <= IntKind.u8.wrap x /\ IntKind.u8.wrap x < 256 := by rw [Xk]; omega
theorem Yx (n : Int) : ∀ x ∈ Qb n, 0 <= x /\ x < 256 := by
 rw [Wy]; intro x hx
 simp only [Jj5, List.mem_cons, List.not_mem_nil, or_false] at hx
 rcases hx with h | h | h | h | h | h | h | h <;> (rw [h]; exact Yw _)
theorem Jgw (s : ByteArray) : ∀ x ∈ Qp s, 0 <= x /\ x < 256 := by
 rw [Wh]; intro x hx
 rcases List.mem_append.1 hx with hx | hx
 · simp only [List.mem_cons, List.not_mem_nil, or_false] at hx
   rcases hx with h | h <;> (rw [h]; exact Yw _)
 · exact JvB s x hx
theorem Jp0 (f : Bool) (b : List PV) (n : Int) (k : Res -> Option Res) : g97 0 true f b n k = k ⟨.ro 5 false false (pu .u8 (Qb n)), [], []⟩ := by
 rw [Wy]; kernel_rfl
theorem Jz2 (f : Bool) (b : List PV) (hb : b.length <= 1000000000) (n : Int) (k : Res -> Option Res) : g97 0 false f b n k = k ⟨.ro 5 false false (b ++ pu .u8 (Qb n)), [], []⟩ := by
 rw [Wy]
 unfold g97
 refine (Jv rfl).trans ?_
 repeat (refine (Jb (by simp [Jl]; omega)).trans ?_)
 repeat rw [List.take_of_length_le (by simp <;> omega)]
 simp only [List.nil_append, List.append_assoc]
 rfl
def JeQ : List PV -> List Ent -> (Res -> Option Res) -> Option Res
 | [.ro 5 z f b, .sc (.int .i64 n)], [], k => bif slB z b then k ⟨.ro 5 false false (b ++ pu .u8 (Qb n)), [], []⟩ else none
 | _, _, _ => none
def JEP : Sig := { own := [], run := JeQ }
theorem Jz3 : Jf tau Try.prog 97 JEP := Jf.mk' fun xs es k res hl hr => by
 change JeQ xs es k = some res at hr
 unfold JeQ at hr
 split at hr
 · rename_i z f b n
   obtain ⟨hc, hr2⟩ := JG hr
   clear hr
   obtain ⟨h1, h2⟩ := Wd.1 hc
   have hg : g97 0 z f b n k = some res := by
    cases z with
    | true => obtain rfl := h1 rfl; rw [Jp0]; exact hr2
    | false => rw [Jz2 f b h2]; exact hr2
   exact Qj Jq Jvm Jr JzQ JzR JpU [.ro] 0 12 (JEL 0) hl rfl ((e97 0 z f b n k).trans hg)
 · cases hr
theorem Jgx (s : ByteArray) : s.extract 0 s.size = s := by
 apply ByteArray.ext
 simp [ByteArray.data_extract]
def GD : List PV -> List Ent -> (Res -> Option Res) -> Option Res
 | [.ro 5 true true [], .sc (.int .i64 n)], [], k => k ⟨.ow 5 16 [] 0 1 none, [], [.vec false 5 false (pu .u8 [IntKind.u8.wrap n])]⟩
 | [.ow 5 0 [] 0 m none, .sc (.int .i64 n)], [.vec false 5 nl l], k => bif Nat.beq m l.length && Nat.ble l.length 1000000000 then k ⟨.ow 5 16 [] 0 (m + 1) none, [.dead], [.vec false 5 false (l ++ pu .u8 [IntKind.u8.wrap n])]⟩ else none
 | _, _, _ => none
def Jz4 : Sig := { own := [true], run := GD }
theorem JvC : Jf tau Try.prog 110 Jz4 := Jf.mk' fun xs es k res hl hr => by
 change GD xs es k = some res at hr
 unfold GD at hr
 split at hr
 · rename_i n
   exact Qj Jq JpV Jr JsI JsJ Jj3 [] 0 0 (JzU 0) hl rfl ((JEN 0 n k).trans hr)
 · rename_i m n nl l
   obtain ⟨hc, hr⟩ := JG hr
   rw [Bool.and_eq_true, Nat.beq_eq, Nat.ble_eq] at hc
   obtain ⟨rfl, hc⟩ := hc
   have hg : Jm1 0 nl l l.length n k = some res := by
    unfold Jm1
    rw [Jb (by simp [Jl]; omega), List.take_length, Bool.and_false]
    exact hr
   exact Qj Jq Jm0 Jr Jvr Jvs JeN [] 1 0 (Jvq 0) hl rfl ((JzV 0 nl l l.length n k).trans hg)
 · cases hr
def GE : List PV -> List Ent -> (Res -> Option Res) -> Option Res
 | [.ro 5 true true [], .sc (.int .i64 n)], [], k => k ⟨.ow 5 16 [] 0 8 none, [], [.vec false 5 false (pu .u8 (Qb n))]⟩
 | [.ow 5 0 [] 0 m none, .sc (.int .i64 n)], [.vec false 5 nl l], k => bif Nat.beq m l.length && Nat.ble l.length 1000000000 then k ⟨.ow 5 16 [] 0 (m + 8) none, [.dead], [.vec false 5 false (l ++ pu .u8 (Qb n))]⟩ else none
 | _, _, _ => none
def Jz5 : Sig := { own := [true], run := GE }
theorem Jm9 (n : Int) (k : Res -> Option Res) : JzX 0 n k = k ⟨.ow 5 16 [] 0 8 none, [], [.vec false 5 false (pu .u8 (Qb n))]⟩ := by
 rw [Wy]; kernel_rfl
theorem Jna (nl : Bool) (l : List PV) (hl : l.length <= 1000000000) (n : Int) (k : Res -> Option Res) : Jm4 0 nl l l.length n k = k ⟨.ow 5 16 [] 0 (l.length + 8) none, [.dead], [.vec false 5 false (l ++ pu .u8 (Qb n))]⟩ := by
 rw [Wy]
 unfold Jm4
 repeat (refine (Jb (by simp [Jl]; omega)).trans ?_)
 repeat rw [List.take_of_length_le (by simp <;> omega)]
 simp only [Bool.and_false, List.append_assoc]
 rfl
theorem Jnb : Jf tau Try.prog 108 Jz5 := Jf.mk' fun xs es k res hl hr => by
 change GE xs es k = some res at hr
 unfold GE at hr
 split at hr
 · rename_i n
   exact Qj Jq JpW Jr JsM JsN Jj4 [] 0 12 (JzZ 0) hl rfl ((JEO 0 n k).trans ((Jm9 n k).trans hr))
 · rename_i m n nl l
   obtain ⟨hc, hr⟩ := JG hr
   rw [Bool.and_eq_true, Nat.beq_eq, Nat.ble_eq] at hc
   obtain ⟨rfl, hc⟩ := hc
   exact Qj Jq Jm2 Jr Jvw Jvx JeO [] 1 12 (Jvv 0) hl rfl ((Jz0 0 nl l l.length n k).trans ((Jna nl l hc n k).trans hr))
 · cases hr
def GF : List PV -> List Ent -> (Res -> Option Res) -> Option Res
 | [.ow 5 0 [] 0 m none, .sc (.string s)], [.vec false 5 nl l], k => bif Nat.beq m l.length && Nat.ble l.length 1000000000 && Nat.ble s.size 65535 then k ⟨.ow 5 16 [] 0 (m + (s.size + 2)) none, [.dead], [.vec false 5 false (l ++ pu .u8 (Qp s))]⟩ else none
 | _, _, _ => none
def Jz6 : Sig := { own := [true], run := GF }
theorem JvD : Jf tau Try.prog 109 Jz6 := Jf.mk' fun xs es k res hl hr => by
 change GF xs es k = some res at hr
 unfold GF at hr
 split at hr
 · rename_i m s nl l
   obtain ⟨hc, hr⟩ := JG hr
   rw [Bool.and_eq_true, Bool.and_eq_true, Nat.beq_eq, Nat.ble_eq, Nat.ble_eq] at hc
   obtain ⟨⟨rfl, hc⟩, hs⟩ := hc
   have hg : Jm6 0 nl l l.length s k = some res := by
    unfold Jm6
    have hob : (Jj s).length = s.size := by rw [Wu]; simp
    rw [Jv (by simp only [zi, decide_eq_false_iff_not]; omega), Jb (by simp [Jl]; omega), Jb (by simp [Jl, hob]; omega), List.take_length, List.take_of_length_le (by simp), hob, Bool.and_false, Bool.false_and]
    rw [Wh, Yv] at hr
    rw [Wu, show l.length + 2 + s.size = l.length + (s.size + 2) from by omega]
    simpa [pu] using hr
   exact Qj Jq Jm5 Jr Jm7 Jm8 JeP [] 1 0 (Jvz 0) hl rfl ((Jz1 0 nl l l.length s k).trans hg)
 · cases hr
theorem Ja2 (n : Int) (i : Nat) (h : 8 * i < 64) : ib n i = (n % 18446744073709551616) / (2 ^ (8 * i)) % 256 := by
 unfold ib JD
 rw [Xk, Qy]
 have : min (8 * (i : Int)).toNat IntKind.u64.bits = 8 * i := by
  show min _ 64 = _
  omega
 rw [this, Int.fdiv_eq_ediv_of_nonneg _ (Int.pow_nonneg (by decide))]
theorem Jlv (n : Int) : QM (Qb n) = n % 18446744073709551616 := by
 rw [Wy]
 simp only [Jj5, QM]
 have e0 : ib n 0 = n % 18446744073709551616 / 2 ^ (8 * 0) % 256 := Ja2 n 0 (by decide)
 have e1 : ib n 1 = n % 18446744073709551616 / 2 ^ (8 * 1) % 256 := Ja2 n 1 (by decide)
 have e2 : ib n 2 = n % 18446744073709551616 / 2 ^ (8 * 2) % 256 := Ja2 n 2 (by decide)
 have e3 : ib n 3 = n % 18446744073709551616 / 2 ^ (8 * 3) % 256 := Ja2 n 3 (by decide)
 have e4 : ib n 4 = n % 18446744073709551616 / 2 ^ (8 * 4) % 256 := Ja2 n 4 (by decide)
 have e5 : ib n 5 = n % 18446744073709551616 / 2 ^ (8 * 5) % 256 := Ja2 n 5 (by decide)
 have e6 : ib n 6 = n % 18446744073709551616 / 2 ^ (8 * 6) % 256 := Ja2 n 6 (by decide)
 have e7 : ib n 7 = n % 18446744073709551616 / 2 ^ (8 * 7) % 256 := Ja2 n 7 (by decide)
 simp only [Nat.reduceMul, Int.reducePow] at e0 e1 e2 e3 e4 e5 e6 e7
 omega
theorem JcS (n : Int) : IntKind.i64.wrap (n % 18446744073709551616) = IntKind.i64.wrap n := by
 have h : n % 18446744073709551616 % 18446744073709551616 = n % 18446744073709551616 := Int.emod_emod_of_dvd n (Int.dvd_refl _)
 show (if _ then _ else _) = (if _ then _ else _)
 have e : ∀ x : Int, x % 2 ^ IntKind.i64.bits = x % 18446744073709551616 := fun x => rfl
 simp only [e, h]
def i64B (n : Int) : Bool := decide (-9223372036854775808 <= n) && decide (n < 9223372036854775808)
theorem JeR {n : Int} (h : i64B n = true) : IntKind.i64.wrap (n % 18446744073709551616) = n := by
 simp only [i64B, Bool.and_eq_true, decide_eq_true_eq] at h
 have e : IntKind.i64.wrap (n % 18446744073709551616) = IntKind.i64.wrap n := JcS n
 rw [e]; exact wrap_i64 h.1 h.2
theorem Jnc (l : List Int) (r : List PV) {n : Nat} (h : l.length = n) : J0 n ⟨pu .u8 l ++ r, 0⟩ = pu .u8 l := by
 unfold J0 WE
 have : Nat.ble n (pu .u8 l ++ r).length = true := (Nat.ble_eq ▸ (by simp; omega) : Nat.ble n (pu .u8 l ++ r).length = true)
 rw [this]
 show List.take n (pu .u8 l ++ r) = _
 rw [List.take_append_of_le_length (by simp; omega), List.take_of_length_le (by simp; omega)]
theorem GG (l : List Int) (r : List PV) {n : Nat} (h : l.length = n) : J1 n ⟨pu .u8 l ++ r, 0⟩ = ⟨r, 0⟩ := by
 unfold J1 WE
 have : Nat.ble n (pu .u8 l ++ r).length = true := (Nat.ble_eq ▸ (by simp; omega) : Nat.ble n (pu .u8 l ++ r).length = true)
 rw [this]
 show RS.mk (List.drop n (pu .u8 l ++ r)) 0 = _
 rw [List.drop_append_of_le_length (by simp; omega), List.drop_of_length_le (by simp; omega), List.nil_append]
theorem JeS (l : List Int) (r : List PV) {n : Nat} (h : l.length = n) : QK n ⟨pu .u8 l ++ r, 0⟩ = IntKind.i64.wrap (QM l) := by
 unfold QK; rw [Jnc l r h, QW]
theorem Yy {n : Int} (h : i64B n = true) (r : List PV) : Jw 8 ⟨pu .u8 (Qb n) ++ r, 0⟩ = n := by
 rw [WS, JeS _ _ (XF n), Jlv, JeR h]
theorem QT (n : Int) (r : List PV) : Jc 8 ⟨pu .u8 (Qb n) ++ r, 0⟩ = ⟨r, 0⟩ := by
 rw [We, GG _ _ (XF n)]
theorem Jci (n : Int) (r : List PV) : Jw 1 ⟨pu .u8 [IntKind.u8.wrap n] ++ r, 0⟩ = IntKind.u8.wrap n := by
 rw [WS, JeS [IntKind.u8.wrap n] r (n := 1) rfl]
 have := Yw n
 simp only [QM]
 rw [wrap_i64 (by omega) (by omega)]; omega
theorem Vb (n : Int) (r : List PV) : Jc 1 ⟨pu .u8 [IntKind.u8.wrap n] ++ r, 0⟩ = ⟨r, 0⟩ := by
 rw [We, GG [IntKind.u8.wrap n] r (n := 1) rfl]
theorem Jp1 (l : List PV) (h : byB l = true) : Jj (⟨(Jp l).toArray⟩ : ByteArray) = l := by
 simp only [Jj]
 show (Jp l).map _ = l
 induction l with
 | nil => rfl
 | cons p ps ih =>
  have h1 : (p.isInt .u8 && (decide (0 <= p.int) && decide (p.int < 256))) = true /\ byB ps = true := by
   have : byB (p :: ps) = ((p.isInt .u8 && (decide (0 <= p.int) && decide (p.int < 256))) && byB ps) := rfl
   rw [this, Bool.and_eq_true] at h; exact h
  simp only [Jp, List.map_cons, ih h1.2]
  congr 1
  have h2 := h1.1
  simp only [Bool.and_eq_true, decide_eq_true_eq] at h2
  obtain ⟨h2, h3, h4⟩ := h2
  match p, h2 with
  | .sc (.int .u8 x), _ =>
   simp only [PV.int] at h3 h4 ⊢
   congr 2
   simp [UInt8.toNat_ofNat]
   omega
  all_goals skip
theorem Jj6 {t : ByteArray} (h : t.size <= 65535) (r : List PV) : JS ⟨pu .u8 (Qp t) ++ r, 0⟩ = t /\ J9 ⟨pu .u8 (Qp t) ++ r, 0⟩ = ⟨r, 0⟩ := by
 have hn : ∀ r, QK 2 ⟨pu .u8 [IntKind.u8.wrap (zi t.size), IntKind.u8.wrap (JD .i64 (zi t.size) 8)] ++ r, 0⟩ = (t.size : Int) := by
  intro r
  rw [JeS [IntKind.u8.wrap (zi t.size), IntKind.u8.wrap (JD .i64 (zi t.size) 8)] r (n := 2) rfl]
  simp only [QM, JD, Xk, zi]
  have : min (8 : Int).toNat IntKind.i64.bits = 8 := by decide
  rw [this, Int.fdiv_eq_ediv_of_nonneg _ (by decide), wrap_i64 (by omega) (by omega)]
  omega
 have hs : ∀ r, J1 2 ⟨pu .u8 [IntKind.u8.wrap (zi t.size), IntKind.u8.wrap (JD .i64 (zi t.size) 8)] ++ r, 0⟩ = ⟨r, 0⟩ := fun r => GG _ _ rfl
 have he : pu .u8 (Qp t) ++ r = pu .u8 [IntKind.u8.wrap (zi t.size), IntKind.u8.wrap (JD .i64 (zi t.size) 8)] ++ (pu .u8 (bsI t) ++ r) := by
  rw [Wh, Yv, JU, List.append_assoc]
 rw [Jbn, Gj, he]
 unfold Gi Jdm
 rw [hn, hs, Int.toNat_natCast, Jnc _ _ (VH t), GG _ _ (VH t)]
 refine ⟨?_, rfl⟩
 rw [← Wu]
 apply ByteArray.ext
 apply Array.ext'
 show Jp (Jj t) = t.data.toList
 simp only [Jj]
 generalize t.data.toList = l
 induction l with
 | nil => rfl
 | cons x l ih =>
  simp only [List.map_cons, Jp, ih, PV.int]
  congr 1
  simp
theorem Jnd : ∀ (l : List Int) (r : List PV), (∀ x ∈ l, 0 <= x /\ x < 256) -> Jal l.length ⟨pu .u8 l ++ r, 0⟩ = ⟨r, 0⟩ /\ Vl l.length ⟨pu .u8 l ++ r, 0⟩ = l
 | [], r, _ => ⟨rfl, rfl⟩
 | x :: l, r, h => by
  have h2 := Jnd l r fun y hy => h y (List.mem_cons_of_mem _ hy)
  have hx := h x List.mem_cons_self
  have e1 : J1 1 ⟨pu .u8 (x :: l) ++ r, 0⟩ = ⟨pu .u8 l ++ r, 0⟩ := by
   rw [show pu .u8 (x :: l) ++ r = pu .u8 [x] ++ (pu .u8 l ++ r) from rfl, GG [x] _ (n := 1) rfl]
  have e2 : QK 1 ⟨pu .u8 (x :: l) ++ r, 0⟩ = x := by
   rw [show pu .u8 (x :: l) ++ r = pu .u8 [x] ++ (pu .u8 l ++ r) from rfl, JeS [x] _ (n := 1) rfl]
   simp only [QM]
   rw [wrap_i64 (by omega) (by omega)]; omega
  simp only [List.length_cons, Jal, Vl, e1, e2, h2.1, h2.2, true_and]
  rw [Xk]; congr 1; omega
structure MsgOk (ns : List Int) (ts : List ByteArray) (h : List Int) : Prop where
 len : ns.length = 12
 num : ∀ n, n < 12 -> i64B (ns.getD n 0) = true
 cnt : ts.length <= 4
 txt : ∀ t ∈ ts, t.size <= 65535
 sum : h.length = 32
 sumB : ∀ x ∈ h, 0 <= x /\ x < 256
theorem Jz7 {τ : Tab} {m : Nat} {a b : TypeId} {pvs : List PV} (h : TyL τ m [a, b] pvs) : ∃ p q, pvs = [p, q] /\ Ty τ m a p /\ Ty τ m b q := by
 match pvs, h with
 | [p, q], h => exact ⟨p, q, rfl, h.1, h.2.1⟩
theorem Jz8 {τ : Tab} {m : Nat} {a b c : TypeId} {pvs : List PV} (h : TyL τ m [a, b, c] pvs) : ∃ p q r, pvs = [p, q, r] /\ Ty τ m a p /\ Ty τ m b q /\ Ty τ m c r := by
 match pvs, h with
 | [p, q, r], h => exact ⟨p, q, r, rfl, h.1, h.2.1, h.2.2.1⟩
-- FN law9.Keys | law16.Good | law16.Few
def kb : Nat -> List PV -> List PV := hid fun i b => pu .u8 [107, 48 + i] ++ b.take 60
theorem Jne (i : Nat) (b : List PV) : kb i b = pu .u8 [107, 48 + i] ++ b.take 60 := by rw [kb, hid_eq]
theorem Jj7 (i : Nat) {b : List PV} (h : Jh .u8 b = true) : kOk (kb i b) = true := by
 rw [Jne]; unfold kOk
 have h2 : Jh .u8 (b.take 60) = true := by
  rw [Qc h, Xt]; simp
 rw [QQ, h2, JO]
 simp; omega
def Jik : List PV -> List Ent -> (Res -> Option Res) -> Option Res
 | [.ro 5 z f b], [], k => k ⟨.st 31 [.ro 5 false false (kb 0 b), .ro 5 false false (kb 1 b), .ro 5 false false (kb 2 b)], [], []⟩
 | _, _, _ => none
def JvE : Sig := { own := [], run := Jik }
theorem Jz9 (n m : Nat) : (J6 (zi n) m).toNat = min n m := by unfold J6; simp only [zi]; split <;> omega
theorem JsR : Jf tau Try.prog 21 JvE := JDG.of fun xs es k res hr => by
 change Jik xs es k = some res at hr
 unfold Jik at hr
 split at hr
 · rename_i z f b
   show g21 0 z f b k = some res
   have hm : (J6 (zi b.length) 60).toNat = min b.length 60 := Jz9 b.length 60
   have ht : List.take (min b.length 60) b = b.take 60 := by rw [Nat.min_comm, List.take_eq_take_iff]; omega
   have hl : (b.take 60).length <= 60 := by simp; omega
   have e : ∀ x y : Int, List.take (2 + (b.take 60).length) (.sc (.int .u8 x) :: .sc (.int .u8 y) :: id (b.take 60)) = .sc (.int .u8 x) :: .sc (.int .u8 y) :: b.take 60 := fun x y => List.take_of_length_le (by simp; omega)
   have hk : ∀ i, kb i b = .sc (.int .u8 107) :: .sc (.int .u8 (48 + i)) :: b.take 60 := fun i => by rw [Jne]; simp
   unfold g21
   simp only [hm, ht, e]
   have hr4 : Jl (2 + (b.take 60).length) 1 = true := by simp only [Jl, Nat.mul_one, decide_eq_true_eq]; omega
   rw [Jb (by simp; unfold J6; simp only [zi]; split <;> omega), hr4]
   simp only [hk] at hr
   exact hr
 · cases hr
def JvF : Nat -> C13 -> Int
 | 0, c => 1 + c.kd % 5
 | 1, c => c.fr % 3
 | 2, c => (c.fr % 3 + 1 + c.to % 2) % 3
 | 3, c => c.wh % 3
 | 4, c => c.wn % 100
 | 5, c => c.cd % 3
 | 6, c => c.cu % 8
 | 7, c => c.ve % 1073741824
 | 8, c => c.co % 1073741824
 | 9, c => c.ad % 3
 | 10, c => c.au % 8
 | 11, c => c.su % 1073741824
 | _, c => c.er % 256
def X4 : Nat -> C13 -> Int := hid JvF
noncomputable abbrev JGL (c : C13) : C13 := ⟨X4 0 c, X4 1 c, X4 2 c, X4 3 c, X4 4 c, X4 5 c, X4 6 c, X4 7 c, X4 8 c, X4 9 c, X4 10 c, X4 11 c, X4 12 c⟩
def JAa : Fns := JC 70 JpD (F0)
theorem Jp2 : Ju tau Try.prog JAa := (JB).add JmJ JuS
def Jj8 : An := (.seq .leaf (.seq .leaf .leaf))
def JvG (f : Nat) (b_z b_f : Bool) (b : List PV) (n : Int) (k : Res -> Option Res) : Option Res := bif decide ((Jo [.ro 5 b_z b_f b, .ro 5 false false [.sc (.int .u8 (IntKind.u8.wrap n))]]).length <= 140737488355328) && true then k (Res.mk (.ow 5 16 [] 0 (Jo [.ro 5 b_z b_f b, .ro 5 false false [.sc (.int .u8 (IntKind.u8.wrap n))]]).length none) [] [.vec false 5 (Jo [.ro 5 b_z b_f b, .ro 5 false false [.sc (.int .u8 (IntKind.u8.wrap n))]]).isEmpty (Jo [.ro 5 b_z b_f b, .ro 5 false false [.sc (.int .u8 (IntKind.u8.wrap n))]])]) else none
theorem JEQ (f : Nat) (b_z b_f : Bool) (b : List PV) (n : Int) (k : Res -> Option Res) : JN tau JAa Try.f96 (Try.f96.body.get!) Jj8 [] 0 [.ro 5 b_z b_f b, .sc (.int .i64 n)] [] k = JvG f b_z b_f b n k := by kernel_rfl
theorem JAb (f : Nat) : Je (Try.f96.body.get!) Jj8 = [] := by kernel_rfl
theorem JAc (f : Nat) : ∀ q ∈ Je (Try.f96.body.get!) Jj8, q.Ok tau Try.prog 0 := by
 rw [JAb f]; intro q hq; cases hq
theorem JAd : Try.prog.funcs[96]? = some Try.f96 := by kernel_rfl
theorem JAe : Try.f96.body = some (Try.f96.body.get!) := by kernel_rfl
def JAf : Fns := JC 70 JpD (F0)
theorem Jp3 : Ju tau Try.prog JAf := (JB).add JmJ JuS
def Jj9 : An := (.seq .leaf (.seq .leaf (.seq .leaf .leaf)))
def JvH (f : Nat) (b_z b_f : Bool) (b : List PV) (s : ByteArray) (k : Res -> Option Res) : Option Res := bif decide (0 <= J6 (zi s.size) 65535) && true && decide ((J6 (zi s.size) 65535).toNat <= s.size) && true then bif Jl (s.extract 0 (J6 (zi s.size) 65535).toNat).size 1 && true then bif decide ((Jo [.ro 5 b_z b_f b, .ro 5 false false [.sc (.int .u8 (IntKind.u8.wrap (zi (s.extract 0 (J6 (zi s.size) 65535).toNat).size))), .sc (.int .u8 (IntKind.u8.wrap (JD IntKind.i64 (zi (s.extract 0 (J6 (zi s.size) 65535).toNat).size) 8)))], .ro 5 false false (List.take (s.extract 0 (J6 (zi s.size) 65535).toNat).size (Jj (s.extract 0 (J6 (zi s.size) 65535).toNat)))]).length <= 140737488355328) && true then k (Res.mk (.ow 5 16 [] 0 (Jo [.ro 5 b_z b_f b, .ro 5 false false [.sc (.int .u8 (IntKind.u8.wrap (zi (s.extract 0 (J6 (zi s.size) 65535).toNat).size))), .sc (.int .u8 (IntKind.u8.wrap (JD IntKind.i64 (zi (s.extract 0 (J6 (zi s.size) 65535).toNat).size) 8)))], .ro 5 false false (List.take (s.extract 0 (J6 (zi s.size) 65535).toNat).size (Jj (s.extract 0 (J6 (zi s.size) 65535).toNat)))]).length none) [] [.vec false 5 (Jo [.ro 5 b_z b_f b, .ro 5 false false [.sc (.int .u8 (IntKind.u8.wrap (zi (s.extract 0 (J6 (zi s.size) 65535).toNat).size))), .sc (.int .u8 (IntKind.u8.wrap (JD IntKind.i64 (zi (s.extract 0 (J6 (zi s.size) 65535).toNat).size) 8)))], .ro 5 false false (List.take (s.extract 0 (J6 (zi s.size) 65535).toNat).size (Jj (s.extract 0 (J6 (zi s.size) 65535).toNat)))]).isEmpty (Jo [.ro 5 b_z b_f b, .ro 5 false false [.sc (.int .u8 (IntKind.u8.wrap (zi (s.extract 0 (J6 (zi s.size) 65535).toNat).size))), .sc (.int .u8 (IntKind.u8.wrap (JD IntKind.i64 (zi (s.extract 0 (J6 (zi s.size) 65535).toNat).size) 8)))], .ro 5 false false (List.take (s.extract 0 (J6 (zi s.size) 65535).toNat).size (Jj (s.extract 0 (J6 (zi s.size) 65535).toNat)))])]) else none else none else none
theorem JER (f : Nat) (b_z b_f : Bool) (b : List PV) (s : ByteArray) (k : Res -> Option Res) : JN tau JAf Try.f98 (Try.f98.body.get!) Jj9 [] 0 [.ro 5 b_z b_f b, .sc (.string s)] [] k = JvH f b_z b_f b s k := by kernel_rfl
theorem JAg (f : Nat) : Je (Try.f98.body.get!) Jj9 = [] := by kernel_rfl
theorem JAh (f : Nat) : ∀ q ∈ Je (Try.f98.body.get!) Jj9, q.Ok tau Try.prog 0 := by
 rw [JAg f]; intro q hq; cases hq
theorem JAi : Try.prog.funcs[98]? = some Try.f98 := by kernel_rfl
theorem JAj : Try.f98.body = some (Try.f98.body.get!) := by kernel_rfl
def JeT : List PV -> List Ent -> (Res -> Option Res) -> Option Res
 | [.ro 5 z f b, .sc (.int .i64 n)], [], k => bif slB z b then k ⟨.ow 5 16 [] 0 (b.length + 1) none, [], [.vec false 5 false (b ++ pu .u8 [IntKind.u8.wrap n])]⟩ else none
 | _, _, _ => none
def JES : Sig := { own := [], run := JeT }
theorem JAk : Jf tau Try.prog 96 JES := Jf.mk' fun xs es k res hl hr => by
 change JeT xs es k = some res at hr
 unfold JeT at hr
 split at hr
 · rename_i z f b n
   obtain ⟨hc, hr⟩ := JG hr
   obtain ⟨h1, h2⟩ := Wd.1 hc
   have hg : JvG 0 z f b n k = some res := by
    have hf : Jo [PV.ro 5 z f b, PV.ro 5 false false [PV.sc (Value.int IntKind.u8 (IntKind.u8.wrap n))]] = b ++ pu .u8 [IntKind.u8.wrap n] := by simp [PV.els, pu]
    have hf2 : Jo [PV.ro 5 z f b, PV.ro 5 false true [PV.sc (Value.int IntKind.u8 (IntKind.u8.wrap n))]] = b ++ pu .u8 [IntKind.u8.wrap n] := by simp [PV.els, pu]
    have he : (b ++ pu .u8 [IntKind.u8.wrap n]).isEmpty = false := by simp
    have hlen : (b ++ pu .u8 [IntKind.u8.wrap n]).length = b.length + 1 := by simp
    unfold JvG
    simp only [hf, hf2, List.take_length, List.drop_zero, List.take_succ_cons, List.take_zero, he, hlen, Ent.nil]
    rw [Jb (by simp; omega)]
    exact hr
   exact Qj Jq Jp2 Jr JAd JAe Jj8 [] 0 0 (JAc 0) hl rfl ((JEQ 0 z f b n k).trans hg)
 · cases hr
def JeU : List PV -> List Ent -> (Res -> Option Res) -> Option Res
 | [.ro 5 z f b, .sc (.string s)], [], k => bif slB z b && Nat.ble s.size 65535 then k ⟨.ow 5 16 [] 0 (b.length + (s.size + 2)) none, [], [.vec false 5 false (b ++ pu .u8 (Qp s))]⟩ else none
 | _, _, _ => none
def JET : Sig := { own := [], run := JeU }
theorem JAl : Jf tau Try.prog 98 JET := Jf.mk' fun xs es k res hl hr => by
 change JeU xs es k = some res at hr
 unfold JeU at hr
 split at hr
 · rename_i z f b s
   obtain ⟨hc, hr⟩ := JG hr
   rw [Bool.and_eq_true, Nat.ble_eq] at hc
   obtain ⟨h1, h2⟩ := Wd.1 hc.1
   have hg : JvH 0 z f b s k = some res := by
    have hm : J6 (zi s.size) 65535 = (s.size : Int) := by unfold J6; rw [if_neg (by simp only [zi]; omega)]
    unfold JvH
    simp only [hm, Int.toNat_natCast, Jgx]
    have hf : ∀ x y : Bool, Jo [PV.ro 5 z f b, PV.ro 5 false x [PV.sc (Value.int IntKind.u8 (IntKind.u8.wrap (zi s.size))), PV.sc (Value.int IntKind.u8 (IntKind.u8.wrap (JD IntKind.i64 (zi s.size) 8)))], PV.ro 5 false y (List.take s.size (Jj s))] = b ++ pu .u8 (Qp s) := by
     intro x y
     rw [Wu, List.take_of_length_le (by simp), Wh, Yv]
     simp [PV.els, pu]
    have he : (b ++ pu .u8 (Qp s)).isEmpty = false := by
     rw [Wh, Yv]; simp
    have hlen : (b ++ pu .u8 (Qp s)).length = b.length + (s.size + 2) := by simp
    simp only [hf, List.take_length, List.drop_zero, List.take_succ_cons, List.take_zero, he, hlen, Ent.nil]
    rw [Jb (by simp), Jb (by simp [Jl]; omega), Jb (by simp; omega)]
    exact hr
   exact Qj Jq Jp3 Jr JAi JAj Jj9 [] 0 0 (JAh 0) hl rfl ((JER 0 z f b s k).trans hg)
 · cases hr
def apI : List PV -> Int -> List PV := hid fun b n => b ++ pu .u8 (Qb n)
def apY : List PV -> Int -> List PV := hid fun b n => b ++ pu .u8 [IntKind.u8.wrap n]
def apT : List PV -> ByteArray -> List PV := hid fun b s => b ++ pu .u8 (Qp s)
def okZ : Bool -> List PV -> Bool := hid slB
def okL : Nat -> List PV -> Bool := hid fun m l => Nat.beq m l.length && Nat.ble l.length 1000000000
theorem ZE (b : List PV) (n : Int) : apI b n = b ++ pu .u8 (Qb n) := by rw [apI, hid_eq]
theorem VI (b : List PV) (n : Int) : apY b n = b ++ pu .u8 [IntKind.u8.wrap n] := by rw [apY, hid_eq]
theorem XP (b : List PV) (s : ByteArray) : apT b s = b ++ pu .u8 (Qp s) := by rw [apT, hid_eq]
theorem ZF (z : Bool) (b : List PV) : okZ z b = slB z b := by rw [okZ, hid_eq]
theorem JeV (m : Nat) (l : List PV) : okL m l = (Nat.beq m l.length && Nat.ble l.length 1000000000) := by rw [okL, hid_eq]
def Jil : List PV -> List Ent -> (Res -> Option Res) -> Option Res
 | [.ro 5 z f b, .sc (.int .i64 n)], [], k => bif okZ z b then k ⟨.ro 5 false false (apI b n), [], []⟩ else none
 | _, _, _ => none
def JAm : Sig := { own := [], run := Jil }
theorem JAn : Jf tau Try.prog 97 JAm := fun xs es k res hl hr => Jz3 xs es k res hl (by
 change Jil xs es k = some res at hr
 show JeQ xs es k = some res
 unfold Jil at hr
 split at hr
 · rw [ZF, ZE] at hr; exact hr
 · cases hr)
def Jim : List PV -> List Ent -> (Res -> Option Res) -> Option Res
 | [.ro 5 z f b, .sc (.int .i64 n)], [], k => bif okZ z b then k ⟨.ow 5 16 [] 0 (apY b n).length none, [], [.vec false 5 false (apY b n)]⟩ else none
 | _, _, _ => none
def JvI : Sig := { own := [], run := Jim }
theorem JsS : Jf tau Try.prog 96 JvI := fun xs es k res hl hr => JAk xs es k res hl (by
 change Jim xs es k = some res at hr
 show JeT xs es k = some res
 unfold Jim at hr
 split at hr
 · rename_i z f b n
   rw [ZF, VI, show (b ++ pu .u8 [IntKind.u8.wrap n]).length = b.length + 1 by simp] at hr; exact hr
 · cases hr)
def Jin : List PV -> List Ent -> (Res -> Option Res) -> Option Res
 | [.ro 5 z f b, .sc (.string s)], [], k => bif okZ z b && Nat.ble s.size 65535 then k ⟨.ow 5 16 [] 0 (apT b s).length none, [], [.vec false 5 false (apT b s)]⟩ else none
 | _, _, _ => none
def Jp4 : Sig := { own := [], run := Jin }
theorem Jnf : Jf tau Try.prog 98 Jp4 := fun xs es k res hl hr => JAl xs es k res hl (by
 change Jin xs es k = some res at hr
 show JeU xs es k = some res
 unfold Jin at hr
 split at hr
 · rename_i z f b s
   rw [ZF, XP, show (b ++ pu .u8 (Qp s)).length = b.length + (s.size + 2) by simp] at hr; exact hr
 · cases hr)
def JeW : List PV -> List Ent -> (Res -> Option Res) -> Option Res
 | [.ro 5 true true [], .sc (.int .i64 n)], [], k => k ⟨.ow 5 16 [] 0 (apY [] n).length none, [], [.vec false 5 false (apY [] n)]⟩
 | [.ow 5 0 [] 0 m none, .sc (.int .i64 n)], [.vec false 5 nl l], k => bif okL m l then k ⟨.ow 5 16 [] 0 (apY l n).length none, [.dead], [.vec false 5 false (apY l n)]⟩ else none
 | _, _, _ => none
def Jng : Sig := { own := [true], run := JeW }
theorem Jnh : Jf tau Try.prog 110 Jng := fun xs es k res hl hr => JvC xs es k res hl (by
 change JeW xs es k = some res at hr
 show GD xs es k = some res
 unfold JeW at hr
 split at hr
 · rw [VI] at hr; exact hr
 · rename_i m n nl l
   rw [JeV, VI] at hr
   obtain ⟨hc, hr⟩ := JG hr
   have hm : m = l.length := by rw [Bool.and_eq_true, Nat.beq_eq] at hc; exact hc.1
   have h2 : GD [.ow 5 0 [] 0 m none, .sc (.int .i64 n)] [.vec false 5 nl l] k = k ⟨.ow 5 16 [] 0 (m + 1) none, [.dead], [.vec false 5 false (l ++ pu .u8 [IntKind.u8.wrap n])]⟩ := Jb hc
   rw [h2, ← hr, hm]; simp
 · cases hr)
def JeX : List PV -> List Ent -> (Res -> Option Res) -> Option Res
 | [.ow 5 0 [] 0 m none, .sc (.int .i64 n)], [.vec false 5 nl l], k => bif okL m l then k ⟨.ow 5 16 [] 0 (apI l n).length none, [.dead], [.vec false 5 false (apI l n)]⟩ else none
 | _, _, _ => none
def JsT : Sig := { own := [true], run := JeX }
theorem Jni : Jf tau Try.prog 108 JsT := fun xs es k res hl hr => Jnb xs es k res hl (by
 change JeX xs es k = some res at hr
 show GE xs es k = some res
 unfold JeX at hr
 split at hr
 · rename_i m n nl l
   rw [JeV, ZE] at hr
   obtain ⟨hc, hr⟩ := JG hr
   have hm : m = l.length := by rw [Bool.and_eq_true, Nat.beq_eq] at hc; exact hc.1
   have h2 : GE [.ow 5 0 [] 0 m none, .sc (.int .i64 n)] [.vec false 5 nl l] k = k ⟨.ow 5 16 [] 0 (m + 8) none, [.dead], [.vec false 5 false (l ++ pu .u8 (Qb n))]⟩ := Jb hc
   rw [h2, ← hr, hm]; simp
 · cases hr)
def JeY : List PV -> List Ent -> (Res -> Option Res) -> Option Res
 | [.ow 5 0 [] 0 m none, .sc (.string s)], [.vec false 5 nl l], k => bif okL m l && Nat.ble s.size 65535 then k ⟨.ow 5 16 [] 0 (apT l s).length none, [.dead], [.vec false 5 false (apT l s)]⟩ else none
 | _, _, _ => none
def JsU : Sig := { own := [true], run := JeY }
theorem Jnj : Jf tau Try.prog 109 JsU := fun xs es k res hl hr => JvD xs es k res hl (by
 change JeY xs es k = some res at hr
 show GF xs es k = some res
 unfold JeY at hr
 split at hr
 · rename_i m s nl l
   rw [JeV, XP] at hr
   obtain ⟨hc, hr⟩ := JG hr
   have hm : m = l.length := by simp only [Bool.and_eq_true, Nat.beq_eq] at hc; exact hc.1.1
   have h2 : GF [.ow 5 0 [] 0 m none, .sc (.string s)] [.vec false 5 nl l] k = k ⟨.ow 5 16 [] 0 (m + (s.size + 2)) none, [.dead], [.vec false 5 false (l ++ pu .u8 (Qp s))]⟩ := Jb hc
   rw [h2, ← hr, hm]; simp
 · cases hr)
def JAo : Fns := JC 131 JmY (F0)
theorem Jp5 : Ju tau Try.prog JAo := (JB).add JmZ JmX
def Jp6 : Nm := [(0, .any), (1, .any), (5, .own), (6, .any)]
def JvJ : An := (.seq .leaf (.seq .leaf (.seq .leaf (.seq .leaf (.seq (.seq .leaf (.seq .leaf (.cond .leaf .leaf))) (.seq .leaf .leaf))))))
def Jka : An := (.seq .leaf (.scope Jp6 JvJ))
def Jnk (f : Nat) (b_z b_f : Bool) (b : List PV) (n : Int) (k : Res -> Option Res) : Option Res := bif b_z then k (Res.mk (.ow 5 16 [] 0 8 none) [] [.vec false 5 false [.sc (.int .u8 (IntKind.u8.wrap (JD IntKind.u64 (IntKind.u64.wrap n) (IntKind.i64.wrap (8 * 0))))), .sc (.int .u8 (IntKind.u8.wrap (JD IntKind.u64 (IntKind.u64.wrap n) (IntKind.i64.wrap (8 * IntKind.i64.wrap (0 + 1)))))), .sc (.int .u8 (IntKind.u8.wrap (JD IntKind.u64 (IntKind.u64.wrap n) (IntKind.i64.wrap (8 * IntKind.i64.wrap (IntKind.i64.wrap (0 + 1) + 1)))))), .sc (.int .u8 (IntKind.u8.wrap (JD IntKind.u64 (IntKind.u64.wrap n) (IntKind.i64.wrap (8 * IntKind.i64.wrap (IntKind.i64.wrap (IntKind.i64.wrap (0 + 1) + 1) + 1)))))), .sc (.int .u8 (IntKind.u8.wrap (JD IntKind.u64 (IntKind.u64.wrap n) (IntKind.i64.wrap (8 * IntKind.i64.wrap (IntKind.i64.wrap (IntKind.i64.wrap (IntKind.i64.wrap (0 + 1) + 1) + 1) + 1)))))), .sc (.int .u8 (IntKind.u8.wrap (JD IntKind.u64 (IntKind.u64.wrap n) (IntKind.i64.wrap (8 * IntKind.i64.wrap (IntKind.i64.wrap (IntKind.i64.wrap (IntKind.i64.wrap (IntKind.i64.wrap (0 + 1) + 1) + 1) + 1) + 1)))))), .sc (.int .u8 (IntKind.u8.wrap (JD IntKind.u64 (IntKind.u64.wrap n) (IntKind.i64.wrap (8 * IntKind.i64.wrap (IntKind.i64.wrap (IntKind.i64.wrap (IntKind.i64.wrap (IntKind.i64.wrap (IntKind.i64.wrap (0 + 1) + 1) + 1) + 1) + 1) + 1)))))), .sc (.int .u8 (IntKind.u8.wrap (JD IntKind.u64 (IntKind.u64.wrap n) (IntKind.i64.wrap (8 * IntKind.i64.wrap (IntKind.i64.wrap (IntKind.i64.wrap (IntKind.i64.wrap (IntKind.i64.wrap (IntKind.i64.wrap (IntKind.i64.wrap (0 + 1) + 1) + 1) + 1) + 1) + 1) + 1))))))]]) else bif Jl (0 + b.length) 1 && true then bif Jl (0 + b.length + 1) 1 && true then bif Jl (0 + b.length + 1 + 1) 1 && true then bif Jl (0 + b.length + 1 + 1 + 1) 1 && true then bif Jl (0 + b.length + 1 + 1 + 1 + 1) 1 && true then bif Jl (0 + b.length + 1 + 1 + 1 + 1 + 1) 1 && true then bif Jl (0 + b.length + 1 + 1 + 1 + 1 + 1 + 1) 1 && true then bif Jl (0 + b.length + 1 + 1 + 1 + 1 + 1 + 1 + 1) 1 && true then bif Jl (0 + b.length + 1 + 1 + 1 + 1 + 1 + 1 + 1 + 1) 1 && true then bif Jl (0 + (List.take (0 + b.length + 1 + 1 + 1 + 1 + 1 + 1 + 1 + 1) (List.take (0 + b.length + 1 + 1 + 1 + 1 + 1 + 1 + 1) (List.take (0 + b.length + 1 + 1 + 1 + 1 + 1 + 1) (List.take (0 + b.length + 1 + 1 + 1 + 1 + 1) (List.take (0 + b.length + 1 + 1 + 1 + 1) (List.take (0 + b.length + 1 + 1 + 1) (List.take (0 + b.length + 1 + 1) (List.take (0 + b.length + 1) (List.take (0 + b.length) b ++ [.sc (.int .u8 (IntKind.u8.wrap (JD IntKind.u64 (IntKind.u64.wrap n) (IntKind.i64.wrap (8 * 0)))))]) ++ [.sc (.int .u8 (IntKind.u8.wrap (JD IntKind.u64 (IntKind.u64.wrap n) (IntKind.i64.wrap (8 * IntKind.i64.wrap (0 + 1))))))]) ++ [.sc (.int .u8 (IntKind.u8.wrap (JD IntKind.u64 (IntKind.u64.wrap n) (IntKind.i64.wrap (8 * IntKind.i64.wrap (IntKind.i64.wrap (0 + 1) + 1))))))]) ++ [.sc (.int .u8 (IntKind.u8.wrap (JD IntKind.u64 (IntKind.u64.wrap n) (IntKind.i64.wrap (8 * IntKind.i64.wrap (IntKind.i64.wrap (IntKind.i64.wrap (0 + 1) + 1) + 1))))))]) ++ [.sc (.int .u8 (IntKind.u8.wrap (JD IntKind.u64 (IntKind.u64.wrap n) (IntKind.i64.wrap (8 * IntKind.i64.wrap (IntKind.i64.wrap (IntKind.i64.wrap (IntKind.i64.wrap (0 + 1) + 1) + 1) + 1))))))]) ++ [.sc (.int .u8 (IntKind.u8.wrap (JD IntKind.u64 (IntKind.u64.wrap n) (IntKind.i64.wrap (8 * IntKind.i64.wrap (IntKind.i64.wrap (IntKind.i64.wrap (IntKind.i64.wrap (IntKind.i64.wrap (0 + 1) + 1) + 1) + 1) + 1))))))]) ++ [.sc (.int .u8 (IntKind.u8.wrap (JD IntKind.u64 (IntKind.u64.wrap n) (IntKind.i64.wrap (8 * IntKind.i64.wrap (IntKind.i64.wrap (IntKind.i64.wrap (IntKind.i64.wrap (IntKind.i64.wrap (IntKind.i64.wrap (0 + 1) + 1) + 1) + 1) + 1) + 1))))))]) ++ [.sc (.int .u8 (IntKind.u8.wrap (JD IntKind.u64 (IntKind.u64.wrap n) (IntKind.i64.wrap (8 * IntKind.i64.wrap (IntKind.i64.wrap (IntKind.i64.wrap (IntKind.i64.wrap (IntKind.i64.wrap (IntKind.i64.wrap (IntKind.i64.wrap (0 + 1) + 1) + 1) + 1) + 1) + 1) + 1))))))])).length) 1 && true then k (Res.mk (.ow 5 16 [] 0 (0 + (List.take (0 + b.length + 1 + 1 + 1 + 1 + 1 + 1 + 1 + 1) (List.take (0 + b.length + 1 + 1 + 1 + 1 + 1 + 1 + 1) (List.take (0 + b.length + 1 + 1 + 1 + 1 + 1 + 1) (List.take (0 + b.length + 1 + 1 + 1 + 1 + 1) (List.take (0 + b.length + 1 + 1 + 1 + 1) (List.take (0 + b.length + 1 + 1 + 1) (List.take (0 + b.length + 1 + 1) (List.take (0 + b.length + 1) (List.take (0 + b.length) b ++ [.sc (.int .u8 (IntKind.u8.wrap (JD IntKind.u64 (IntKind.u64.wrap n) (IntKind.i64.wrap (8 * 0)))))]) ++ [.sc (.int .u8 (IntKind.u8.wrap (JD IntKind.u64 (IntKind.u64.wrap n) (IntKind.i64.wrap (8 * IntKind.i64.wrap (0 + 1))))))]) ++ [.sc (.int .u8 (IntKind.u8.wrap (JD IntKind.u64 (IntKind.u64.wrap n) (IntKind.i64.wrap (8 * IntKind.i64.wrap (IntKind.i64.wrap (0 + 1) + 1))))))]) ++ [.sc (.int .u8 (IntKind.u8.wrap (JD IntKind.u64 (IntKind.u64.wrap n) (IntKind.i64.wrap (8 * IntKind.i64.wrap (IntKind.i64.wrap (IntKind.i64.wrap (0 + 1) + 1) + 1))))))]) ++ [.sc (.int .u8 (IntKind.u8.wrap (JD IntKind.u64 (IntKind.u64.wrap n) (IntKind.i64.wrap (8 * IntKind.i64.wrap (IntKind.i64.wrap (IntKind.i64.wrap (IntKind.i64.wrap (0 + 1) + 1) + 1) + 1))))))]) ++ [.sc (.int .u8 (IntKind.u8.wrap (JD IntKind.u64 (IntKind.u64.wrap n) (IntKind.i64.wrap (8 * IntKind.i64.wrap (IntKind.i64.wrap (IntKind.i64.wrap (IntKind.i64.wrap (IntKind.i64.wrap (0 + 1) + 1) + 1) + 1) + 1))))))]) ++ [.sc (.int .u8 (IntKind.u8.wrap (JD IntKind.u64 (IntKind.u64.wrap n) (IntKind.i64.wrap (8 * IntKind.i64.wrap (IntKind.i64.wrap (IntKind.i64.wrap (IntKind.i64.wrap (IntKind.i64.wrap (IntKind.i64.wrap (0 + 1) + 1) + 1) + 1) + 1) + 1))))))]) ++ [.sc (.int .u8 (IntKind.u8.wrap (JD IntKind.u64 (IntKind.u64.wrap n) (IntKind.i64.wrap (8 * IntKind.i64.wrap (IntKind.i64.wrap (IntKind.i64.wrap (IntKind.i64.wrap (IntKind.i64.wrap (IntKind.i64.wrap (IntKind.i64.wrap (0 + 1) + 1) + 1) + 1) + 1) + 1) + 1))))))])).length) none) [] [.vec false 5 false (List.take (0 + b.length + 1 + 1 + 1 + 1 + 1 + 1 + 1 + 1) (List.take (0 + b.length + 1 + 1 + 1 + 1 + 1 + 1 + 1) (List.take (0 + b.length + 1 + 1 + 1 + 1 + 1 + 1) (List.take (0 + b.length + 1 + 1 + 1 + 1 + 1) (List.take (0 + b.length + 1 + 1 + 1 + 1) (List.take (0 + b.length + 1 + 1 + 1) (List.take (0 + b.length + 1 + 1) (List.take (0 + b.length + 1) (List.take (0 + b.length) b ++ [.sc (.int .u8 (IntKind.u8.wrap (JD IntKind.u64 (IntKind.u64.wrap n) (IntKind.i64.wrap (8 * 0)))))]) ++ [.sc (.int .u8 (IntKind.u8.wrap (JD IntKind.u64 (IntKind.u64.wrap n) (IntKind.i64.wrap (8 * IntKind.i64.wrap (0 + 1))))))]) ++ [.sc (.int .u8 (IntKind.u8.wrap (JD IntKind.u64 (IntKind.u64.wrap n) (IntKind.i64.wrap (8 * IntKind.i64.wrap (IntKind.i64.wrap (0 + 1) + 1))))))]) ++ [.sc (.int .u8 (IntKind.u8.wrap (JD IntKind.u64 (IntKind.u64.wrap n) (IntKind.i64.wrap (8 * IntKind.i64.wrap (IntKind.i64.wrap (IntKind.i64.wrap (0 + 1) + 1) + 1))))))]) ++ [.sc (.int .u8 (IntKind.u8.wrap (JD IntKind.u64 (IntKind.u64.wrap n) (IntKind.i64.wrap (8 * IntKind.i64.wrap (IntKind.i64.wrap (IntKind.i64.wrap (IntKind.i64.wrap (0 + 1) + 1) + 1) + 1))))))]) ++ [.sc (.int .u8 (IntKind.u8.wrap (JD IntKind.u64 (IntKind.u64.wrap n) (IntKind.i64.wrap (8 * IntKind.i64.wrap (IntKind.i64.wrap (IntKind.i64.wrap (IntKind.i64.wrap (IntKind.i64.wrap (0 + 1) + 1) + 1) + 1) + 1))))))]) ++ [.sc (.int .u8 (IntKind.u8.wrap (JD IntKind.u64 (IntKind.u64.wrap n) (IntKind.i64.wrap (8 * IntKind.i64.wrap (IntKind.i64.wrap (IntKind.i64.wrap (IntKind.i64.wrap (IntKind.i64.wrap (IntKind.i64.wrap (0 + 1) + 1) + 1) + 1) + 1) + 1))))))]) ++ [.sc (.int .u8 (IntKind.u8.wrap (JD IntKind.u64 (IntKind.u64.wrap n) (IntKind.i64.wrap (8 * IntKind.i64.wrap (IntKind.i64.wrap (IntKind.i64.wrap (IntKind.i64.wrap (IntKind.i64.wrap (IntKind.i64.wrap (IntKind.i64.wrap (0 + 1) + 1) + 1) + 1) + 1) + 1) + 1))))))]))]) else none else none else none else none else none else none else none else none else none else none
theorem JEU (f : Nat) (b_z b_f : Bool) (b : List PV) (n : Int) (k : Res -> Option Res) : JN tau JAo Try.f97 (Try.f97.body.get!) Jka [] 12 [.ro 5 b_z b_f b, .sc (.int .i64 n)] [] k = Jnk f b_z b_f b n k := by kernel_rfl
theorem JAp (f : Nat) : Je (Try.f97.body.get!) Jka = [] := by kernel_rfl
theorem JAq (f : Nat) : ∀ q ∈ Je (Try.f97.body.get!) Jka, q.Ok tau Try.prog 0 := by
 rw [JAp f]; intro q hq; cases hq
theorem JAr : Try.prog.funcs[97]? = some Try.f97 := by kernel_rfl
theorem JAs : Try.f97.body = some (Try.f97.body.get!) := by kernel_rfl
def JAt : Fns := F0
theorem Jp7 : Ju tau Try.prog JAt := JB
def Jkb : An := (.seq .leaf (.seq (.seq .leaf (.cond .leaf .leaf)) (.seq .leaf .leaf)))
def JvK (f : Nat) (s : ByteArray) (k : Res -> Option Res) : Option Res := bif decide (zi s.size > 65535) then bif decide (65535 <= s.size) && true then bif Jl (2 + (Jj (s.extract 0 65535)).length) 1 && true then k (Res.mk (.ow 5 16 [] 0 (2 + (Jj (s.extract 0 65535)).length) none) [] [.vec false 5 false (.sc (.int .u8 (IntKind.u8.wrap (zi (s.extract 0 65535).size))) :: .sc (.int .u8 (IntKind.u8.wrap (JD IntKind.i64 (zi (s.extract 0 65535).size) 8))) :: id (Jj (s.extract 0 65535)))]) else none else none else bif Jl (2 + (Jj s).length) 1 && true then k (Res.mk (.ow 5 16 [] 0 (2 + (Jj s).length) none) [] [.vec false 5 false (.sc (.int .u8 (IntKind.u8.wrap (zi s.size))) :: .sc (.int .u8 (IntKind.u8.wrap (JD IntKind.i64 (zi s.size) 8))) :: id (Jj s))]) else none
theorem JEV (f : Nat) (s : ByteArray) (k : Res -> Option Res) : JN tau JAt Try.f109 (Try.f109.body.get!) Jkb [] 0 [.ro 5 true true [], .sc (.string s)] [] k = JvK f s k := by kernel_rfl
theorem JAu (f : Nat) : Je (Try.f109.body.get!) Jkb = [] := by kernel_rfl
theorem JAv (f : Nat) : ∀ q ∈ Je (Try.f109.body.get!) Jkb, q.Ok tau Try.prog 0 := by
 rw [JAu f]; intro q hq; cases hq
theorem JsV : Try.prog.funcs[109]? = some Try.f109 := by kernel_rfl
theorem JsW : Try.f109.body = some (Try.f109.body.get!) := by kernel_rfl
theorem JAw : Enters Try.prog 109 := enters_of JsV (by kernel_rfl) JsW
def Jio : List PV -> List Ent -> (Res -> Option Res) -> Option Res
 | [.ro 5 z f b, .sc (.int .i64 n)], [], k => bif okZ z b then k ⟨.ow 5 16 [] 0 (apI b n).length none, [], [.vec false 5 false (apI b n)]⟩ else none
 | _, _, _ => none
def JvL : Sig := { own := [], run := Jio }
theorem Jnl (f : Bool) (n : Int) (k : Res -> Option Res) : Jnk 0 true f [] n k = k ⟨.ow 5 16 [] 0 8 none, [], [.vec false 5 false (pu .u8 (Qb n))]⟩ := by
 rw [Wy]; kernel_rfl
theorem JvM (f : Bool) (b : List PV) (hb : b.length <= 1000000000) (n : Int) (k : Res -> Option Res) : Jnk 0 false f b n k = k ⟨.ow 5 16 [] 0 (b.length + 8) none, [], [.vec false 5 false (b ++ pu .u8 (Qb n))]⟩ := by
 rw [Wy]
 unfold Jnk
 refine (Jv rfl).trans ?_
 repeat rw [List.take_of_length_le (by simp <;> omega)]
 repeat (refine (Jb (by simp [Jl]; omega)).trans ?_)
 simp only [List.nil_append, List.append_assoc, List.length_append, List.length_cons, List.length_nil, Nat.zero_add]
 rfl
theorem JsX : Jf tau Try.prog 97 JvL := Jf.mk' fun xs es k res hl hr => by
 change Jio xs es k = some res at hr
 unfold Jio at hr
 split at hr
 · rename_i z f b n
   obtain ⟨hc, hr2⟩ := JG hr
   clear hr
   rw [ZF] at hc
   obtain ⟨h1, h2⟩ := Wd.1 hc
   rw [ZE] at hr2
   have hg : Jnk 0 z f b n k = some res := by
    cases z with
    | true => obtain rfl := h1 rfl; rw [Jnl]; simpa using hr2
    | false => rw [JvM f b h2]; simpa using hr2
   exact Qj Jq Jp5 Jr JAr JAs Jka [] 0 12 (JAq 0) hl rfl ((JEU 0 z f b n k).trans hg)
 · cases hr
def JeZ : List PV -> List Ent -> (Res -> Option Res) -> Option Res
 | [.ro 5 true true [], .sc (.int .i64 n)], [], k => k ⟨.ow 5 16 [] 0 (apI [] n).length none, [], [.vec false 5 false (apI [] n)]⟩
 | [.ow 5 0 [] 0 m none, .sc (.int .i64 n)], [.vec false 5 nl l], k => bif okL m l then k ⟨.ow 5 16 [] 0 (apI l n).length none, [.dead], [.vec false 5 false (apI l n)]⟩ else none
 | _, _, _ => none
def JsY : Sig := { own := [true], run := JeZ }
theorem JvN : Jf tau Try.prog 108 JsY := fun xs es k res hl hr => by
 change JeZ xs es k = some res at hr
 unfold JeZ at hr
 split at hr
 · rename_i n
   refine Jnb _ _ k res hl ?_
   rw [ZE] at hr
   show k ⟨.ow 5 16 [] 0 8 none, [], [.vec false 5 false (pu .u8 (Qb n))]⟩ = some res
   simpa using hr
 · rename_i m n nl l
   exact Jni _ _ k res hl hr
 · cases hr
def Je0 : List PV -> List Ent -> (Res -> Option Res) -> Option Res
 | [.ro 5 true true [], .sc (.string s)], [], k => bif Nat.ble s.size 65535 then k ⟨.ow 5 16 [] 0 (apT [] s).length none, [], [.vec false 5 false (apT [] s)]⟩ else none
 | [.ow 5 0 [] 0 m none, .sc (.string s)], [.vec false 5 nl l], k => bif okL m l && Nat.ble s.size 65535 then k ⟨.ow 5 16 [] 0 (apT l s).length none, [.dead], [.vec false 5 false (apT l s)]⟩ else none
 | _, _, _ => none
def JsZ : Sig := { own := [true], run := Je0 }
theorem JvO : Jf tau Try.prog 109 JsZ := Jf.mk' fun xs es k res hl hr => by
 change Je0 xs es k = some res at hr
 unfold Je0 at hr
 split at hr
 · rename_i s
   obtain ⟨hc, hr⟩ := JG hr
   rw [Nat.ble_eq] at hc
   have hob : (Jj s).length = s.size := by rw [Wu]; simp
   have hg : JvK 0 s k = some res := by
    unfold JvK
    rw [Jv (by simp only [zi, decide_eq_false_iff_not]; omega), Jb (by simp [Jl, hob]; omega), hob]
    rw [XP, Wh, Yv] at hr
    simp only [List.nil_append, JU, List.length_append, JJ, VH, List.length_cons, List.length_nil, ← Wu] at hr
    rw [← hr, hob]
    simp only [id, Jbm, JhK, List.cons_append, List.nil_append, Nat.zero_add, Nat.reduceAdd]
   exact Qj Jq Jp7 Jr JsV JsW Jkb [] 0 0 (JAv 0) hl rfl ((JEV 0 s k).trans hg)
 · rename_i m s nl l
   exact Jnj _ _ k res hl hr
 · cases hr
def JcT : Nat := 34
def Jnm : Fns := JC 98 Jp4 (JC 97 JAm (JC 96 JvI (F0)))
theorem Jkc : Ju tau Try.prog Jnm := (((JB).add JsS JzN).add JAn Jvo).add Jnf Jvj
def Yz : Code := Qu (Try.f114.body.get!) [1, 0]
def WY : Nm := [(0, .any), (3, .own), (4, .any)]
def XG : Nm := [(2, .any)]
def Jao : An := (.seq .leaf (.seq .leaf (.seq .leaf (.seq (.seq .leaf (.cond (.seq .leaf (.seq .leaf .leaf)) .leaf)) (.seq .leaf .leaf)))))
def Jkd (r0 : Jxr) : An := (.seq .leaf (.ssum WY JcT (Jao) r0))
def ZG (f : Nat) (rc : Bool -> Bool -> List PV -> Nat -> Int -> List PV -> Option Res) (k0 : Nat -> List PV -> Option Res) (v0 v1 : Bool) (v2 : List PV) (v3 : Nat) (v4 : Int) (v5 : List PV) : Option Res := bif decide (v4 < zi v2.length) then bif decide (0 <= v4) && decide (v4 < zi v2.length) && (PV.isSt 99 #[Field.mk "Kind" 3 0 false "" "" 0, Field.mk "N" 3 1 false "" "" 8, Field.mk "S" 9 2 false "" "" 16].size (v2.getD v4.toNat PV.top) && (PV.isInt IntKind.i64 (PV.child 0 (v2.getD v4.toNat PV.top)) && (PV.isInt IntKind.i64 (PV.child (0 + 1) (v2.getD v4.toNat PV.top)) && ((PV.child (0 + 1 + 1) (v2.getD v4.toNat PV.top)).isStr && true)))) && true then bif okZ false (List.take v3 v5) then bif decide (0 <= v4) && decide (v4 < zi v2.length) && (PV.isSt 99 #[Field.mk "Kind" 3 0 false "" "" 0, Field.mk "N" 3 1 false "" "" 8, Field.mk "S" 9 2 false "" "" 16].size (v2.getD v4.toNat PV.top) && (PV.isInt IntKind.i64 (PV.child 0 (v2.getD v4.toNat PV.top)) && (PV.isInt IntKind.i64 (PV.child (0 + 1) (v2.getD v4.toNat PV.top)) && ((PV.child (0 + 1 + 1) (v2.getD v4.toNat PV.top)).isStr && true)))) && true then bif okZ false (List.take (apY (List.take v3 v5) (PV.child 0 (v2.getD v4.toNat PV.top)).int).length (apY (List.take v3 v5) (PV.child 0 (v2.getD v4.toNat PV.top)).int)) then bif decide (0 <= v4) && decide (v4 < zi v2.length) && (PV.isSt 99 #[Field.mk "Kind" 3 0 false "" "" 0, Field.mk "N" 3 1 false "" "" 8, Field.mk "S" 9 2 false "" "" 16].size (v2.getD v4.toNat PV.top) && (PV.isInt IntKind.i64 (PV.child 0 (v2.getD v4.toNat PV.top)) && (PV.isInt IntKind.i64 (PV.child (0 + 1) (v2.getD v4.toNat PV.top)) && ((PV.child (0 + 1 + 1) (v2.getD v4.toNat PV.top)).isStr && true)))) && true then bif okZ false (apI (List.take (apY (List.take v3 v5) (PV.child 0 (v2.getD v4.toNat PV.top)).int).length (apY (List.take v3 v5) (PV.child 0 (v2.getD v4.toNat PV.top)).int)) (PV.child (0 + 1) (v2.getD v4.toNat PV.top)).int) && (PV.child (0 + 1 + 1) (v2.getD v4.toNat PV.top)).str.size.ble 65535 then rc v0 v1 v2 ((apT (apI (List.take (apY (List.take v3 v5) (PV.child 0 (v2.getD v4.toNat PV.top)).int).length (apY (List.take v3 v5) (PV.child 0 (v2.getD v4.toNat PV.top)).int)) (PV.child (0 + 1) (v2.getD v4.toNat PV.top)).int) (PV.child (0 + 1 + 1) (v2.getD v4.toNat PV.top)).str).length) (IntKind.i64.wrap (v4 + 1)) (apT (apI (List.take (apY (List.take v3 v5) (PV.child 0 (v2.getD v4.toNat PV.top)).int).length (apY (List.take v3 v5) (PV.child 0 (v2.getD v4.toNat PV.top)).int)) (PV.child (0 + 1) (v2.getD v4.toNat PV.top)).int) (PV.child (0 + 1 + 1) (v2.getD v4.toNat PV.top)).str) else none else none else none else none else none else none else k0 v3 v5
def YA (f : Nat) (k0 : Nat -> List PV -> Option Res) : Nat -> Bool -> Bool -> List PV -> Nat -> Int -> List PV -> Option Res
 | 0, _, _, _, _, _, _ => none
 | n + 1, v0, v1, v2, v3, v4, v5 => ZG f (YA f k0 n) k0 v0 v1 v2 v3 v4 v5
theorem Jnn (f : Nat) (k : Kont) (n : Nat) (v0 v1 : Bool) (v2 : List PV) (v3 : Nat) (v4 : Int) (v5 : List PV) : QV tau 0 WY (hasLabel Yz) (fun l s k => Qd tau Jnm 0 0 Yz (Jao ) l s k) (n + 1) 0 (Jd WY JcT [.ro 99 v0 v1 v2, .ow 5 560 [] 0 v3 none, .sc (.int .i64 v4)] [(560, .vec false 5 false v5)]) (Jt tau 0 XG k) = ZG f (fun v0 v1 v2 v3 v4 v5 => QV tau 0 WY (hasLabel Yz) (fun l s k => Qd tau Jnm 0 0 Yz (Jao ) l s k) n 0 (Jd WY JcT [.ro 99 v0 v1 v2, .ow 5 560 [] 0 v3 none, .sc (.int .i64 v4)] [(560, .vec false 5 false v5)]) (Jt tau 0 XG k)) (fun x0 x1 => k Ex.ret (Jd XG JcT [.ow 5 560 [] 0 x0 none] [(560, .vec false 5 false x1)])) v0 v1 v2 v3 v4 v5 := by kernel_rfl
theorem Jgy (f : Nat) (k : Kont) : ∀ (n : Nat) (v0 v1 : Bool) (v2 : List PV) (v3 : Nat) (v4 : Int) (v5 : List PV), QV tau 0 WY (hasLabel Yz) (fun l s k => Qd tau Jnm 0 0 Yz (Jao ) l s k) n 0 (Jd WY JcT [.ro 99 v0 v1 v2, .ow 5 560 [] 0 v3 none, .sc (.int .i64 v4)] [(560, .vec false 5 false v5)]) (Jt tau 0 XG k) = YA f (fun x0 x1 => k Ex.ret (Jd XG JcT [.ow 5 560 [] 0 x0 none] [(560, .vec false 5 false x1)])) n v0 v1 v2 v3 v4 v5 | 0, _, _, _, _, _, _ => rfl | n + 1, v0, v1, v2, v3, v4, v5 => (Jnn f k n v0 v1 v2 v3 v4 v5).trans (congrArg (fun r => ZG f r (fun x0 x1 => k Ex.ret (Jd XG JcT [.ow 5 560 [] 0 x0 none] [(560, .vec false 5 false x1)])) v0 v1 v2 v3 v4 v5) (by funext v0 v1 v2 v3 v4 v5; exact Jgy f k n v0 v1 v2 v3 v4 v5))
def VJ (f : Nat) : Nat -> List PV -> List (Nat × Ent) -> Kont -> Option Res
 | 0, [.ro 99 v0 v1 v2, .ow 5 560 [] 0 v3 none,
 PV.sc
  (Value.int IntKind.i64
   v4)], [(560, .vec false 5 false v5)], k => YA f (fun x0 x1 => k Ex.ret (Jd XG JcT [.ow 5 560 [] 0 x0 none] [(560, .vec false 5 false x1)])) f v0 v1 v2 v3 v4 v5
 | _, _, _, _ => none
theorem Jp8 (f : Nat) : Je Yz Jao = [] := by kernel_rfl
theorem JvP (f : Nat) : (Item.s Yz WY JcT (VJ f)).Ok tau Try.prog 0 := JbZ Jq Jkc Jr (x := Jao) (nm2 := XG) (Js _ _ (by rw [Jp8 f]; intro q hq; cases hq)) fun l vs hp k res hr => by
 unfold VJ at hr
 split at hr
 · exact ⟨f, 0, (Jgy f _ f _ _ _ _ _ _ ).trans hr⟩
 · cases hr
def JvQ (f : Nat) (o_z o_f : Bool) (o : List PV) (k : Res -> Option Res) : Option Res := bif okZ true [] then bif decide (0 < zi o.length) then bif decide (0 < zi o.length) && (PV.isSt 99 #[Field.mk "Kind" 3 0 false "" "" 0, Field.mk "N" 3 1 false "" "" 8, Field.mk "S" 9 2 false "" "" 16].size (o.getD (Int.toNat 0) PV.top) && (PV.isInt IntKind.i64 (PV.child 0 (o.getD 0 PV.top)) && (PV.isInt IntKind.i64 (PV.child (0 + 1) (o.getD 0 PV.top)) && ((PV.child (0 + 1 + 1) (o.getD 0 PV.top)).isStr && true)))) && true then bif okZ false (List.take (apY [] (zi o.length)).length (apY [] (zi o.length))) then bif decide (0 < zi o.length) && (PV.isSt 99 #[Field.mk "Kind" 3 0 false "" "" 0, Field.mk "N" 3 1 false "" "" 8, Field.mk "S" 9 2 false "" "" 16].size (o.getD (Int.toNat 0) PV.top) && (PV.isInt IntKind.i64 (PV.child 0 (o.getD 0 PV.top)) && (PV.isInt IntKind.i64 (PV.child (0 + 1) (o.getD 0 PV.top)) && ((PV.child (0 + 1 + 1) (o.getD 0 PV.top)).isStr && true)))) && true then bif okZ false (List.take (apY (List.take (apY [] (zi o.length)).length (apY [] (zi o.length))) (PV.child 0 (o.getD 0 PV.top)).int).length (apY (List.take (apY [] (zi o.length)).length (apY [] (zi o.length))) (PV.child 0 (o.getD 0 PV.top)).int)) then bif decide (0 < zi o.length) && (PV.isSt 99 #[Field.mk "Kind" 3 0 false "" "" 0, Field.mk "N" 3 1 false "" "" 8, Field.mk "S" 9 2 false "" "" 16].size (o.getD (Int.toNat 0) PV.top) && (PV.isInt IntKind.i64 (PV.child 0 (o.getD 0 PV.top)) && (PV.isInt IntKind.i64 (PV.child (0 + 1) (o.getD 0 PV.top)) && ((PV.child (0 + 1 + 1) (o.getD 0 PV.top)).isStr && true)))) && true then bif okZ false (apI (List.take (apY (List.take (apY [] (zi o.length)).length (apY [] (zi o.length))) (PV.child 0 (o.getD 0 PV.top)).int).length (apY (List.take (apY [] (zi o.length)).length (apY [] (zi o.length))) (PV.child 0 (o.getD 0 PV.top)).int)) (PV.child (0 + 1) (o.getD 0 PV.top)).int) && (PV.child (0 + 1 + 1) (o.getD 0 PV.top)).str.size.ble 65535 then YA f (fun x0_0 x1_0 => k (Res.mk (.ro 5 false false (List.take x0_0 x1_0)) [] [])) f o_z o_f o ((apT (apI (List.take (apY (List.take (apY [] (zi o.length)).length (apY [] (zi o.length))) (PV.child 0 (o.getD 0 PV.top)).int).length (apY (List.take (apY [] (zi o.length)).length (apY [] (zi o.length))) (PV.child 0 (o.getD 0 PV.top)).int)) (PV.child (0 + 1) (o.getD 0 PV.top)).int) (PV.child (0 + 1 + 1) (o.getD 0 PV.top)).str).length) (IntKind.i64.wrap (0 + 1)) (apT (apI (List.take (apY (List.take (apY [] (zi o.length)).length (apY [] (zi o.length))) (PV.child 0 (o.getD 0 PV.top)).int).length (apY (List.take (apY [] (zi o.length)).length (apY [] (zi o.length))) (PV.child 0 (o.getD 0 PV.top)).int)) (PV.child (0 + 1) (o.getD 0 PV.top)).int) (PV.child (0 + 1 + 1) (o.getD 0 PV.top)).str) else none else none else none else none else none else none else k (Res.mk (.ro 5 false false (List.take (apY [] (zi o.length)).length (apY [] (zi o.length)))) [] []) else none
theorem JEW (f : Nat) (o_z o_f : Bool) (o : List PV) (k : Res -> Option Res) : JN tau Jnm Try.f114 (Try.f114.body.get!) (Jkd (VJ f)) [.ro] 0 [.ro 99 o_z o_f o] [] k = JvQ f o_z o_f o k := by kernel_rfl
theorem JAx (f : Nat) : Je (Try.f114.body.get!) (Jkd (VJ f)) = [.s Yz WY JcT (VJ f)] := by kernel_rfl
theorem JAy (f : Nat) : ∀ q ∈ Je (Try.f114.body.get!) (Jkd (VJ f)), q.Ok tau Try.prog 0 := by
 rw [JAx f]; simp only [List.forall_mem_cons, List.not_mem_nil, false_implies, implies_true, and_true]; exact JvP f
theorem Js0 : Try.prog.funcs[114]? = some Try.f114 := by kernel_rfl
theorem Js1 : Try.f114.body = some (Try.f114.body.get!) := by kernel_rfl
theorem Js2 : Enters Try.prog 114 := enters_of Js0 (by kernel_rfl) Js1
def JcU : Nat := 34
def Jno : Fns := JC 110 Jng (JC 109 JsU (JC 108 JsT (F0)))
theorem Jke : Ju tau Try.prog Jno := (((JB).add Jni JsO).add Jnj JvA).add Jnh JsK
def Jap : Code := Qu (Try.f111.body.get!) [1, 1, 0, 1, 0, 0]
def WZ : Nm := [(0, .any), (3, .own), (4, .any)]
def XH : Nm := [(3, .any)]
def Jcj : An := (.seq (.seq .leaf (.cond .leaf .leaf)) (.seq (.block none .leaf) .leaf))
def Jkf (r0 : QJ) : An := (.seq .leaf (.seq .leaf (.seq (.seq .leaf (.block none (.sum WZ JcU r0))) (.seq .leaf .leaf))))
def ZH (f : Nat) (rc : Bool -> Bool -> List PV -> Nat -> Int -> List PV -> Option Res) (k0 : Nat -> List PV -> Option Res) (v0 v1 : Bool) (v2 : List PV) (v3 : Nat) (v4 : Int) (v5 : List PV) : Option Res := bif decide (v4 < zi v2.length) then bif decide (0 <= v4) && decide (v4 < zi v2.length) && (PV.isSt 99 #[Field.mk "Kind" 3 0 false "" "" 0, Field.mk "N" 3 1 false "" "" 8, Field.mk "S" 9 2 false "" "" 16].size (v2.getD v4.toNat PV.top) && (PV.isInt IntKind.i64 (PV.child 0 (v2.getD v4.toNat PV.top)) && (PV.isInt IntKind.i64 (PV.child (0 + 1) (v2.getD v4.toNat PV.top)) && ((PV.child (0 + 1 + 1) (v2.getD v4.toNat PV.top)).isStr && true)))) && true then bif okL v3 v5 then bif decide (0 <= v4) && decide (v4 < zi v2.length) && (PV.isSt 99 #[Field.mk "Kind" 3 0 false "" "" 0, Field.mk "N" 3 1 false "" "" 8, Field.mk "S" 9 2 false "" "" 16].size (v2.getD v4.toNat PV.top) && (PV.isInt IntKind.i64 (PV.child 0 (v2.getD v4.toNat PV.top)) && (PV.isInt IntKind.i64 (PV.child (0 + 1) (v2.getD v4.toNat PV.top)) && ((PV.child (0 + 1 + 1) (v2.getD v4.toNat PV.top)).isStr && true)))) && true then bif okL (apY v5 (PV.child 0 (v2.getD v4.toNat PV.top)).int).length (apY v5 (PV.child 0 (v2.getD v4.toNat PV.top)).int) then bif decide (0 <= v4) && decide (v4 < zi v2.length) && (PV.isSt 99 #[Field.mk "Kind" 3 0 false "" "" 0, Field.mk "N" 3 1 false "" "" 8, Field.mk "S" 9 2 false "" "" 16].size (v2.getD v4.toNat PV.top) && (PV.isInt IntKind.i64 (PV.child 0 (v2.getD v4.toNat PV.top)) && (PV.isInt IntKind.i64 (PV.child (0 + 1) (v2.getD v4.toNat PV.top)) && ((PV.child (0 + 1 + 1) (v2.getD v4.toNat PV.top)).isStr && true)))) && true then bif okL (apI (apY v5 (PV.child 0 (v2.getD v4.toNat PV.top)).int) (PV.child (0 + 1) (v2.getD v4.toNat PV.top)).int).length (apI (apY v5 (PV.child 0 (v2.getD v4.toNat PV.top)).int) (PV.child (0 + 1) (v2.getD v4.toNat PV.top)).int) && (PV.child (0 + 1 + 1) (v2.getD v4.toNat PV.top)).str.size.ble 65535 then rc v0 v1 v2 ((apT (apI (apY v5 (PV.child 0 (v2.getD v4.toNat PV.top)).int) (PV.child (0 + 1) (v2.getD v4.toNat PV.top)).int) (PV.child (0 + 1 + 1) (v2.getD v4.toNat PV.top)).str).length) (IntKind.i64.wrap (v4 + 1)) (apT (apI (apY v5 (PV.child 0 (v2.getD v4.toNat PV.top)).int) (PV.child (0 + 1) (v2.getD v4.toNat PV.top)).int) (PV.child (0 + 1 + 1) (v2.getD v4.toNat PV.top)).str) else none else none else none else none else none else none else k0 v3 v5
def YB (f : Nat) (k0 : Nat -> List PV -> Option Res) : Nat -> Bool -> Bool -> List PV -> Nat -> Int -> List PV -> Option Res
 | 0, _, _, _, _, _, _ => none
 | n + 1, v0, v1, v2, v3, v4, v5 => ZH f (YB f k0 n) k0 v0 v1 v2 v3 v4 v5
theorem Jnp (f : Nat) (k : Kont) (n : Nat) (v0 v1 : Bool) (v2 : List PV) (v3 : Nat) (v4 : Int) (v5 : List PV) : Jn tau 0 WZ (fun s k => ev tau Jno 0 0 Jap (Jcj ) s k) (n + 1) (Jd WZ JcU [.ro 99 v0 v1 v2, .ow 5 560 [] 0 v3 none, .sc (.int .i64 v4)] [(560, .vec false 5 false v5)]) (Jt tau 0 XH k) = ZH f (fun v0 v1 v2 v3 v4 v5 => Jn tau 0 WZ (fun s k => ev tau Jno 0 0 Jap (Jcj ) s k) n (Jd WZ JcU [.ro 99 v0 v1 v2, .ow 5 560 [] 0 v3 none, .sc (.int .i64 v4)] [(560, .vec false 5 false v5)]) (Jt tau 0 XH k)) (fun x0 x1 => k (Ex.exit 0) (Jd XH JcU [.ow 5 560 [] 0 x0 none] [(560, .vec false 5 false x1)])) v0 v1 v2 v3 v4 v5 := by kernel_rfl
theorem Jgz (f : Nat) (k : Kont) : ∀ (n : Nat) (v0 v1 : Bool) (v2 : List PV) (v3 : Nat) (v4 : Int) (v5 : List PV), Jn tau 0 WZ (fun s k => ev tau Jno 0 0 Jap (Jcj ) s k) n (Jd WZ JcU [.ro 99 v0 v1 v2, .ow 5 560 [] 0 v3 none, .sc (.int .i64 v4)] [(560, .vec false 5 false v5)]) (Jt tau 0 XH k) = YB f (fun x0 x1 => k (Ex.exit 0) (Jd XH JcU [.ow 5 560 [] 0 x0 none] [(560, .vec false 5 false x1)])) n v0 v1 v2 v3 v4 v5 | 0, _, _, _, _, _, _ => rfl | n + 1, v0, v1, v2, v3, v4, v5 => (Jnp f k n v0 v1 v2 v3 v4 v5).trans (congrArg (fun r => ZH f r (fun x0 x1 => k (Ex.exit 0) (Jd XH JcU [.ow 5 560 [] 0 x0 none] [(560, .vec false 5 false x1)])) v0 v1 v2 v3 v4 v5) (by funext v0 v1 v2 v3 v4 v5; exact Jgz f k n v0 v1 v2 v3 v4 v5))
def VK (f : Nat) : List PV -> List (Nat × Ent) -> Kont -> Option Res
 | [.ro 99 v0 v1 v2, .ow 5 560 [] 0 v3 none,
 PV.sc
  (Value.int IntKind.i64
   v4)], [(560, .vec false 5 false v5)], k => YB f (fun x0 x1 => k (Ex.exit 0) (Jd XH JcU [.ow 5 560 [] 0 x0 none] [(560, .vec false 5 false x1)])) f v0 v1 v2 v3 v4 v5
 | _, _, _ => none
theorem Jp9 (f : Nat) : Je Jap Jcj = [] := by kernel_rfl
theorem JvR (f : Nat) : (Item.l Jap WZ JcU (VK f)).Ok tau Try.prog 0 := JI Jq Jke Jr (x := Jcj) (nm2 := XH) (Js _ _ (by rw [Jp9 f]; intro q hq; cases hq)) fun vs hp k res hr => by
 unfold VK at hr
 split at hr
 · exact ⟨f, 0, (Jgz f _ f _ _ _ _ _ _ ).trans hr⟩
 · cases hr
def JvS (f : Nat) (o_z o_f : Bool) (o : List PV) (k : Res -> Option Res) : Option Res := YB f (fun x0_0 x1_0 => k (Res.mk (.ow 5 16 [] 0 x0_0 none) [] [.vec false 5 false x1_0])) f o_z o_f o ((apY [] (zi o.length)).length) (0) (apY [] (zi o.length))
theorem JEX (f : Nat) (o_z o_f : Bool) (o : List PV) (k : Res -> Option Res) : JN tau Jno Try.f111 (Try.f111.body.get!) (Jkf (VK f)) [] 0 [.ro 99 o_z o_f o] [] k = JvS f o_z o_f o k := by kernel_rfl
theorem JAz (f : Nat) : Je (Try.f111.body.get!) (Jkf (VK f)) = [.l Jap WZ JcU (VK f)] := by kernel_rfl
theorem JAA (f : Nat) : ∀ q ∈ Je (Try.f111.body.get!) (Jkf (VK f)), q.Ok tau Try.prog 0 := by
 rw [JAz f]; simp only [List.forall_mem_cons, List.not_mem_nil, false_implies, implies_true, and_true]; exact JvR f
theorem Js3 : Try.prog.funcs[111]? = some Try.f111 := by kernel_rfl
theorem Js4 : Try.f111.body = some (Try.f111.body.get!) := by kernel_rfl
theorem JAB : Enters Try.prog 111 := enters_of Js3 (by kernel_rfl) Js4
def JAC : Fns := F0
theorem Jqa : Ju tau Try.prog JAC := JB
def Jkg : An := (.seq .leaf (.seq (.seq .leaf (.block none (.seq (.seq .leaf (.cond .leaf .leaf)) (.cond (.seq .leaf (.cond (.seq .leaf .leaf) .leaf)) (.seq .leaf (.cond (.seq .leaf (.cond (.seq .leaf .leaf) .leaf)) (.seq .leaf .leaf))))))) (.seq (.seq .leaf (.cond (.seq .leaf .leaf) .leaf)) (.seq .leaf .leaf))))
def Jqb (f : Nat) (y0 c_N : Int) (c_S : ByteArray) (k : Res -> Option Res) : Option Res := bif y0 == 1 then bif y0 == 1 then bif decide (c_N < 1) then k (Res.mk (.sc (.int .i64 1)) [] []) else bif decide (c_N > 120) then k (Res.mk (.sc (.int .i64 1)) [] []) else bif !Xg c_S (ByteArray.mk (Array.mk [])) then k (Res.mk (.sc (.int .i64 1)) [] []) else bif decide (zi c_S.size > 120) then k (Res.mk (.sc (.int .i64 5)) [] []) else k (Res.mk (.sc (.int .i64 0)) [] []) else bif y0 == 2 then bif c_N != 0 then k (Res.mk (.sc (.int .i64 1)) [] []) else bif Xg c_S (ByteArray.mk (Array.mk [])) then k (Res.mk (.sc (.int .i64 1)) [] []) else bif decide (zi c_S.size > 120) then k (Res.mk (.sc (.int .i64 5)) [] []) else k (Res.mk (.sc (.int .i64 0)) [] []) else k (Res.mk (.sc (.int .i64 3)) [] []) else bif y0 == 3 then bif decide (c_N < 1) then k (Res.mk (.sc (.int .i64 1)) [] []) else bif decide (c_N > 120) then k (Res.mk (.sc (.int .i64 1)) [] []) else bif !Xg c_S (ByteArray.mk (Array.mk [])) then k (Res.mk (.sc (.int .i64 1)) [] []) else bif decide (zi c_S.size > 120) then k (Res.mk (.sc (.int .i64 5)) [] []) else k (Res.mk (.sc (.int .i64 0)) [] []) else bif y0 == 2 then bif c_N != 0 then k (Res.mk (.sc (.int .i64 1)) [] []) else bif Xg c_S (ByteArray.mk (Array.mk [])) then k (Res.mk (.sc (.int .i64 1)) [] []) else bif decide (zi c_S.size > 120) then k (Res.mk (.sc (.int .i64 5)) [] []) else k (Res.mk (.sc (.int .i64 0)) [] []) else k (Res.mk (.sc (.int .i64 3)) [] [])
theorem JEY (f : Nat) (y0 c_N : Int) (c_S : ByteArray) (k : Res -> Option Res) : JN tau JAC Try.f167 (Try.f167.body.get!) Jkg [.ro] 0 [.st 99 [.sc (.int .i64 y0), .sc (.int .i64 c_N), .sc (.string c_S)]] [] k = Jqb f y0 c_N c_S k := by kernel_rfl
theorem JAD (f : Nat) : Je (Try.f167.body.get!) Jkg = [] := by kernel_rfl
theorem JAE (f : Nat) : ∀ q ∈ Je (Try.f167.body.get!) Jkg, q.Ok tau Try.prog 0 := by
 rw [JAD f]; intro q hq; cases hq
theorem Js5 : Try.prog.funcs[167]? = some Try.f167 := by kernel_rfl
theorem Js6 : Try.f167.body = some (Try.f167.body.get!) := by kernel_rfl
theorem JAF : Enters Try.prog 167 := enters_of Js5 (by kernel_rfl) Js6
def Jip : List PV -> List Ent -> (Res -> Option Res) -> Option Res
 | [.st 99 [.sc (.int .i64 y0), .sc (.int .i64 c_N), .sc (.string c_S)]], [], k => Jqb 0 y0 c_N c_S k
 | _, _, _ => none
def JEZ : Sig := { own := [], run := Jip }
theorem JAG : Jf tau Try.prog 167 JEZ := JP Jq Jqa Jr Js5 Js6 Jkg [.ro] 0 [] Jip (JAE 0) fun xs es k res hr => by
 unfold Jip at hr
 split at hr
 · exact ⟨rfl, 0, (JEY 0 _ _ _  _).trans hr⟩
 · cases hr
def JAH : Fns := F0
theorem Jqc : Ju tau Try.prog JAH := JB
def Jkh : An := (.seq .leaf (.seq (.seq .leaf (.block none (.seq (.seq .leaf (.cond .leaf .leaf)) (.cond (.seq .leaf (.cond (.seq .leaf .leaf) .leaf)) (.seq .leaf (.cond (.seq (.seq .leaf (.cond (.seq .leaf .leaf) .leaf)) (.seq .leaf (.cond (.seq .leaf .leaf) .leaf))) (.seq .leaf .leaf))))))) (.seq .leaf .leaf)))
def Jqd (f : Nat) (y0 c_N : Int) (c_S : ByteArray) (k : Res -> Option Res) : Option Res := bif y0 == 1 then bif y0 == 1 then bif decide (c_N < 1) then k (Res.mk (.sc (.int .i64 1)) [] []) else bif decide (c_N > 120) then k (Res.mk (.sc (.int .i64 1)) [] []) else bif !Xg c_S (ByteArray.mk (Array.mk [])) then k (Res.mk (.sc (.int .i64 1)) [] []) else k (Res.mk (.sc (.int .i64 0)) [] []) else bif y0 == 2 then bif c_N != 0 then k (Res.mk (.sc (.int .i64 1)) [] []) else bif Xg c_S (ByteArray.mk (Array.mk [])) then k (Res.mk (.sc (.int .i64 1)) [] []) else bif decide (zi c_S.size > 120) then k (Res.mk (.sc (.int .i64 5)) [] []) else k (Res.mk (.sc (.int .i64 0)) [] []) else k (Res.mk (.sc (.int .i64 3)) [] []) else bif y0 == 3 then bif decide (c_N < 1) then k (Res.mk (.sc (.int .i64 1)) [] []) else bif decide (c_N > 120) then k (Res.mk (.sc (.int .i64 1)) [] []) else bif !Xg c_S (ByteArray.mk (Array.mk [])) then k (Res.mk (.sc (.int .i64 1)) [] []) else k (Res.mk (.sc (.int .i64 0)) [] []) else bif y0 == 2 then bif c_N != 0 then k (Res.mk (.sc (.int .i64 1)) [] []) else bif Xg c_S (ByteArray.mk (Array.mk [])) then k (Res.mk (.sc (.int .i64 1)) [] []) else bif decide (zi c_S.size > 120) then k (Res.mk (.sc (.int .i64 5)) [] []) else k (Res.mk (.sc (.int .i64 0)) [] []) else k (Res.mk (.sc (.int .i64 3)) [] [])
theorem JE0 (f : Nat) (y0 c_N : Int) (c_S : ByteArray) (k : Res -> Option Res) : JN tau JAH Try.f145 (Try.f145.body.get!) Jkh [.ro] 0 [.st 99 [.sc (.int .i64 y0), .sc (.int .i64 c_N), .sc (.string c_S)]] [] k = Jqd f y0 c_N c_S k := by kernel_rfl
theorem JAI (f : Nat) : Je (Try.f145.body.get!) Jkh = [] := by kernel_rfl
theorem JAJ (f : Nat) : ∀ q ∈ Je (Try.f145.body.get!) Jkh, q.Ok tau Try.prog 0 := by
 rw [JAI f]; intro q hq; cases hq
theorem Js7 : Try.prog.funcs[145]? = some Try.f145 := by kernel_rfl
theorem Js8 : Try.f145.body = some (Try.f145.body.get!) := by kernel_rfl
theorem JAK : Enters Try.prog 145 := enters_of Js7 (by kernel_rfl) Js8
def Jiq : List PV -> List Ent -> (Res -> Option Res) -> Option Res
 | [.st 99 [.sc (.int .i64 y0), .sc (.int .i64 c_N), .sc (.string c_S)]], [], k => Jqd 0 y0 c_N c_S k
 | _, _, _ => none
def JE1 : Sig := { own := [], run := Jiq }
theorem JAL : Jf tau Try.prog 145 JE1 := JP Jq Jqc Jr Js7 Js8 Jkh [.ro] 0 [] Jiq (JAJ 0) fun xs es k res hr => by
 unfold Jiq at hr
 split at hr
 · exact ⟨rfl, 0, (JE0 0 _ _ _  _).trans hr⟩
 · cases hr
-- FN op.check | ref4.check
structure CV where
 (kd n : Int) (s : ByteArray)
def JgA (c : CV) : Int :=
 bif c.kd == 1 || c.kd == 3 then (bif decide (c.n < 1) || (decide (c.n > 120) || !(c.s.size == 0)) then 1 else 0)
 else bif c.kd == 2 then (bif !(c.n == 0) || c.s.size == 0 then 1 else bif decide (zi c.s.size > 120) then 5 else 0) else 3
def ckC : CV -> Int := hid JgA
theorem Jaq (c : CV) : ckC c = JgA c := by rw [ckC, hid_eq]
theorem JgB (s : ByteArray) : Xg s (ByteArray.mk (Array.mk [])) = (s.size == 0) := by
 rw [Jet]
 cases h : (s.size == 0) with
 | true =>
  have hs : s.size = 0 := by simpa using h
  refine decide_eq_true (ByteArray.ext (Array.eq_empty_of_size_eq_zero hs))
 | false =>
  refine decide_eq_false fun he => ?_
  rw [he] at h
  exact absurd h (by decide)
theorem Jqe (kd n : Int) (s : ByteArray) (k : Res -> Option Res) : Jqb 0 kd n s k = k ⟨.sc (.int .i64 (ckC ⟨kd, n, s⟩)), [], []⟩ := by
 rw [Jaq]
 unfold Jqb JgA
 simp only [JgB, bne]
 have hcomb : (s.size == 0) = true -> decide (zi s.size > 120) = false := fun h => by
  have : s.size = 0 := by simpa using h
  rw [this]; decide
 generalize (s.size == 0) = e0 at *
 generalize decide (zi s.size > 120) = e1 at *
 generalize decide (n < 1) = a
 generalize decide (n > 120) = b
 generalize (n == 0) = c
 generalize (kd == 1) = d1
 generalize (kd == 2) = d2
 generalize (kd == 3) = d3
 cases d1 <;> cases d3 <;> cases d2 <;> cases e0 <;> cases e1 <;> cases a <;> cases b <;> cases c <;> first | rfl | exact absurd (hcomb rfl) (by decide)
def Je1 : List PV -> List Ent -> (Res -> Option Res) -> Option Res
 | [.st 99 [.sc (.int .i64 kd), .sc (.int .i64 n), .sc (.string s)]], [], k => k ⟨.sc (.int .i64 (ckC ⟨kd, n, s⟩)), [], []⟩
 | _, _, _ => none
def Js9 : Sig := { own := [], run := Je1 }
theorem JvT : Jf tau Try.prog 167 Js9 := JAG.of fun xs es k res hr => by
 change Je1 xs es k = some res at hr
 unfold Je1 at hr
 split at hr
 · rename_i kd n s
   exact (Jqe kd n s k).trans hr
 · cases hr
theorem Jqf (kd n : Int) (s : ByteArray) (k : Res -> Option Res) : Jqd 0 kd n s k = k ⟨.sc (.int .i64 (ckC ⟨kd, n, s⟩)), [], []⟩ := by
 rw [Jaq]
 unfold Jqd JgA
 simp only [JgB, bne]
 have hcomb : (s.size == 0) = true -> decide (zi s.size > 120) = false := fun h => by
  have : s.size = 0 := by simpa using h
  rw [this]; decide
 generalize (s.size == 0) = e0 at *
 generalize decide (zi s.size > 120) = e1 at *
 generalize decide (n < 1) = a
 generalize decide (n > 120) = b
 generalize (n == 0) = c
 generalize (kd == 1) = d1
 generalize (kd == 2) = d2
 generalize (kd == 3) = d3
 cases d1 <;> cases d3 <;> cases d2 <;> cases e0 <;> cases e1 <;> cases a <;> cases b <;> cases c <;> first | rfl | exact absurd (hcomb rfl) (by decide)
def Je2 : List PV -> List Ent -> (Res -> Option Res) -> Option Res
 | [.st 99 [.sc (.int .i64 kd), .sc (.int .i64 n), .sc (.string s)]], [], k => k ⟨.sc (.int .i64 (ckC ⟨kd, n, s⟩)), [], []⟩
 | _, _, _ => none
def Jta : Sig := { own := [], run := Je2 }
theorem JvU : Jf tau Try.prog 145 Jta := JAL.of fun xs es k res hr => by
 change Je2 xs es k = some res at hr
 unfold Je2 at hr
 split at hr
 · rename_i kd n s
   exact (Jqf kd n s k).trans hr
 · cases hr
def GH : Nat := 21
def Jnq : Fns := JC 167 Js9 (F0)
theorem Jki : Ju tau Try.prog Jnq := (JB).add JvT JAF
def Jar : Code := Qu (Try.f160.body.get!) [1, 1, 0, 1, 0, 0]
def W0 : Nm := [(9, .any), (10, .any), (11, .any)]
def QX : Nm := [(2, .any)]
def Jck : An := (.seq .leaf (.seq (.cond .leaf .leaf) (.seq (.block none (.seq .leaf (.seq .leaf (.seq .leaf (.cond (.seq .leaf .leaf) .leaf))))) .leaf)))
def Jkj (r0 : QJ) : An := (.seq .leaf (.seq (.seq .leaf (.cond (.seq .leaf .leaf) .leaf)) (.seq (.seq .leaf (.block none (.sum W0 GH r0))) (.seq .leaf .leaf))))
def ZI (f : Nat) (rc : Bool -> Bool -> List PV -> Int -> Int -> Option Res) (k0 : Int -> Option Res) (k1 : Option Res) (v0 v1 : Bool) (v2 : List PV) (v3 v4 : Int) : Option Res := bif decide (v4 < v3) then bif decide (0 <= v4) && decide (v4 < zi v2.length) && (PV.isSt 99 #[Field.mk "Kind" 3 0 false "" "" 0, Field.mk "N" 3 1 false "" "" 8, Field.mk "S" 9 2 false "" "" 16].size (v2.getD v4.toNat PV.top) && (PV.isInt IntKind.i64 (PV.child 0 (v2.getD v4.toNat PV.top)) && (PV.isInt IntKind.i64 (PV.child (0 + 1) (v2.getD v4.toNat PV.top)) && ((PV.child (0 + 1 + 1) (v2.getD v4.toNat PV.top)).isStr && true)))) && true then bif ckC (CV.mk (PV.child 0 (v2.getD v4.toNat PV.top)).int (PV.child (0 + 1) (v2.getD v4.toNat PV.top)).int (PV.child (0 + 1 + 1) (v2.getD v4.toNat PV.top)).str) != 0 then k0 (ckC (CV.mk (PV.child 0 (v2.getD v4.toNat PV.top)).int (PV.child (0 + 1) (v2.getD v4.toNat PV.top)).int (PV.child (0 + 1 + 1) (v2.getD v4.toNat PV.top)).str)) else rc v0 v1 v2 v3 (IntKind.i64.wrap (v4 + 1)) else none else k1
def YC (f : Nat) (k0 : Int -> Option Res) (k1 : Option Res) : Nat -> Bool -> Bool -> List PV -> Int -> Int -> Option Res
 | 0, _, _, _, _, _ => none
 | n + 1, v0, v1, v2, v3, v4 => ZI f (YC f k0 k1 n) k0 k1 v0 v1 v2 v3 v4
theorem Jnr (f : Nat) (k : Kont) (n : Nat) (v0 v1 : Bool) (v2 : List PV) (v3 v4 : Int) : Jn tau 0 W0 (fun s k => ev tau Jnq 0 0 Jar (Jck ) s k) (n + 1) (Jd W0 GH [.ro 99 v0 v1 v2, .sc (.int .i64 v3), .sc (.int .i64 v4)] []) (Jt tau 0 QX k) = ZI f (fun v0 v1 v2 v3 v4 => Jn tau 0 W0 (fun s k => ev tau Jnq 0 0 Jar (Jck ) s k) n (Jd W0 GH [.ro 99 v0 v1 v2, .sc (.int .i64 v3), .sc (.int .i64 v4)] []) (Jt tau 0 QX k)) (fun x0 => k Ex.ret (Jd QX GH [.sc (.int .i64 x0)] [])) (k (Ex.exit 0) (Jd QX GH [PV.top] [])) v0 v1 v2 v3 v4 := by kernel_rfl
theorem JgC (f : Nat) (k : Kont) : ∀ (n : Nat) (v0 v1 : Bool) (v2 : List PV) (v3 v4 : Int), Jn tau 0 W0 (fun s k => ev tau Jnq 0 0 Jar (Jck ) s k) n (Jd W0 GH [.ro 99 v0 v1 v2, .sc (.int .i64 v3), .sc (.int .i64 v4)] []) (Jt tau 0 QX k) = YC f (fun x0 => k Ex.ret (Jd QX GH [.sc (.int .i64 x0)] [])) (k (Ex.exit 0) (Jd QX GH [PV.top] [])) n v0 v1 v2 v3 v4 | 0, _, _, _, _, _ => rfl | n + 1, v0, v1, v2, v3, v4 => (Jnr f k n v0 v1 v2 v3 v4).trans (congrArg (fun r => ZI f r (fun x0 => k Ex.ret (Jd QX GH [.sc (.int .i64 x0)] [])) (k (Ex.exit 0) (Jd QX GH [PV.top] [])) v0 v1 v2 v3 v4) (by funext v0 v1 v2 v3 v4; exact JgC f k n v0 v1 v2 v3 v4))
def VL (f : Nat) : List PV -> List (Nat × Ent) -> Kont -> Option Res
 | [.ro 99 v0 v1 v2, .sc (.int .i64 v3),
 PV.sc
  (Value.int .i64 v4)], [], k => YC f (fun x0 => k Ex.ret (Jd QX GH [.sc (.int .i64 x0)] [])) (k (Ex.exit 0) (Jd QX GH [PV.top] [])) f v0 v1 v2 v3 v4
 | _, _, _ => none
theorem Jqg (f : Nat) : Je Jar Jck = [] := by kernel_rfl
theorem JvV (f : Nat) : (Item.l Jar W0 GH (VL f)).Ok tau Try.prog 0 := JI Jq Jki Jr (x := Jck) (nm2 := QX) (Js _ _ (by rw [Jqg f]; intro q hq; cases hq)) fun vs hp k res hr => by
 unfold VL at hr
 split at hr
 · exact ⟨f, 0, (JgC f _ f _ _ _ _ _ ).trans hr⟩
 · cases hr
def JvW (f : Nat) (o_z o_f : Bool) (o : List PV) (k : Res -> Option Res) : Option Res := bif decide (zi o.length > 40) then k (Res.mk (.sc (.int .i64 4)) [] []) else YC f (fun x0_0 => k (Res.mk (.sc (.int .i64 x0_0)) [] [])) (k (Res.mk (.sc (.int .i64 0)) [] [])) f o_z o_f o (zi o.length) (0)
theorem JE2 (f : Nat) (o_z o_f : Bool) (o : List PV) (k : Res -> Option Res) : JN tau Jnq Try.f160 (Try.f160.body.get!) (Jkj (VL f)) [.ro] 0 [.ro 99 o_z o_f o] [] k = JvW f o_z o_f o k := by kernel_rfl
theorem JAM (f : Nat) : Je (Try.f160.body.get!) (Jkj (VL f)) = [.l Jar W0 GH (VL f)] := by kernel_rfl
theorem JAN (f : Nat) : ∀ q ∈ Je (Try.f160.body.get!) (Jkj (VL f)), q.Ok tau Try.prog 0 := by
 rw [JAM f]; simp only [List.forall_mem_cons, List.not_mem_nil, false_implies, implies_true, and_true]; exact JvV f
theorem Jtb : Try.prog.funcs[160]? = some Try.f160 := by kernel_rfl
theorem Jtc : Try.f160.body = some (Try.f160.body.get!) := by kernel_rfl
theorem Jtd : Enters Try.prog 160 := enters_of Jtb (by kernel_rfl) Jtc
def GI : Nat := 22
def Jns : Fns := JC 145 Jta (F0)
theorem Jkk : Ju tau Try.prog Jns := (JB).add JvU JAK
def Jas : Code := Qu (Try.f117.body.get!) [1, 1, 0, 1, 0, 0]
def W1 : Nm := [(0, .any), (3, .any)]
def QY : Nm := [(2, .any)]
def Jcl : An := (.seq (.seq .leaf (.cond .leaf .leaf)) (.seq (.block none (.seq .leaf (.seq .leaf (.cond (.seq .leaf .leaf) .leaf)))) .leaf))
def Jkl (r0 : QJ) : An := (.seq .leaf (.seq (.seq .leaf (.cond (.seq .leaf .leaf) .leaf)) (.seq (.seq .leaf (.block none (.sum W1 GI r0))) (.seq .leaf .leaf))))
def ZJ (f : Nat) (rc : Bool -> Bool -> List PV -> Int -> Option Res) (k0 : Int -> Option Res) (k1 : Option Res) (v0 v1 : Bool) (v2 : List PV) (v3 : Int) : Option Res := bif decide (v3 < zi v2.length) then bif decide (0 <= v3) && decide (v3 < zi v2.length) && (PV.isSt 99 #[Field.mk "Kind" 3 0 false "" "" 0, Field.mk "N" 3 1 false "" "" 8, Field.mk "S" 9 2 false "" "" 16].size (v2.getD v3.toNat PV.top) && (PV.isInt IntKind.i64 (PV.child 0 (v2.getD v3.toNat PV.top)) && (PV.isInt IntKind.i64 (PV.child (0 + 1) (v2.getD v3.toNat PV.top)) && ((PV.child (0 + 1 + 1) (v2.getD v3.toNat PV.top)).isStr && true)))) && true then bif ckC (CV.mk (PV.child 0 (v2.getD v3.toNat PV.top)).int (PV.child (0 + 1) (v2.getD v3.toNat PV.top)).int (PV.child (0 + 1 + 1) (v2.getD v3.toNat PV.top)).str) != 0 then k0 (ckC (CV.mk (PV.child 0 (v2.getD v3.toNat PV.top)).int (PV.child (0 + 1) (v2.getD v3.toNat PV.top)).int (PV.child (0 + 1 + 1) (v2.getD v3.toNat PV.top)).str)) else rc v0 v1 v2 (IntKind.i64.wrap (v3 + 1)) else none else k1
def YD (f : Nat) (k0 : Int -> Option Res) (k1 : Option Res) : Nat -> Bool -> Bool -> List PV -> Int -> Option Res
 | 0, _, _, _, _ => none
 | n + 1, v0, v1, v2, v3 => ZJ f (YD f k0 k1 n) k0 k1 v0 v1 v2 v3
theorem Jnt (f : Nat) (k : Kont) (n : Nat) (v0 v1 : Bool) (v2 : List PV) (v3 : Int) : Jn tau 0 W1 (fun s k => ev tau Jns 0 0 Jas (Jcl ) s k) (n + 1) (Jd W1 GI [.ro 99 v0 v1 v2, .sc (.int .i64 v3)] []) (Jt tau 0 QY k) = ZJ f (fun v0 v1 v2 v3 => Jn tau 0 W1 (fun s k => ev tau Jns 0 0 Jas (Jcl ) s k) n (Jd W1 GI [.ro 99 v0 v1 v2, .sc (.int .i64 v3)] []) (Jt tau 0 QY k)) (fun x0 => k Ex.ret (Jd QY GI [.sc (.int .i64 x0)] [])) (k (Ex.exit 0) (Jd QY GI [PV.top] [])) v0 v1 v2 v3 := by kernel_rfl
theorem JgD (f : Nat) (k : Kont) : ∀ (n : Nat) (v0 v1 : Bool) (v2 : List PV) (v3 : Int), Jn tau 0 W1 (fun s k => ev tau Jns 0 0 Jas (Jcl ) s k) n (Jd W1 GI [.ro 99 v0 v1 v2, .sc (.int .i64 v3)] []) (Jt tau 0 QY k) = YD f (fun x0 => k Ex.ret (Jd QY GI [.sc (.int .i64 x0)] [])) (k (Ex.exit 0) (Jd QY GI [PV.top] [])) n v0 v1 v2 v3 | 0, _, _, _, _ => rfl | n + 1, v0, v1, v2, v3 => (Jnt f k n v0 v1 v2 v3).trans (congrArg (fun r => ZJ f r (fun x0 => k Ex.ret (Jd QY GI [.sc (.int .i64 x0)] [])) (k (Ex.exit 0) (Jd QY GI [PV.top] [])) v0 v1 v2 v3) (by funext v0 v1 v2 v3; exact JgD f k n v0 v1 v2 v3))
def VM (f : Nat) : List PV -> List (Nat × Ent) -> Kont -> Option Res
 | [.ro 99 v0 v1 v2,
 .sc (.int .i64 v3)], [], k => YD f (fun x0 => k Ex.ret (Jd QY GI [.sc (.int .i64 x0)] [])) (k (Ex.exit 0) (Jd QY GI [PV.top] [])) f v0 v1 v2 v3
 | _, _, _ => none
theorem Jqh (f : Nat) : Je Jas Jcl = [] := by kernel_rfl
theorem JvX (f : Nat) : (Item.l Jas W1 GI (VM f)).Ok tau Try.prog 0 := JI Jq Jkk Jr (x := Jcl) (nm2 := QY) (Js _ _ (by rw [Jqh f]; intro q hq; cases hq)) fun vs hp k res hr => by
 unfold VM at hr
 split at hr
 · exact ⟨f, 0, (JgD f _ f _ _ _ _ ).trans hr⟩
 · cases hr
def JvY (f : Nat) (o_z o_f : Bool) (o : List PV) (k : Res -> Option Res) : Option Res := bif decide (zi o.length > 40) then k (Res.mk (.sc (.int .i64 4)) [] []) else YD f (fun x0_0 => k (Res.mk (.sc (.int .i64 x0_0)) [] [])) (k (Res.mk (.sc (.int .i64 0)) [] [])) f o_z o_f o (0)
theorem JE3 (f : Nat) (o_z o_f : Bool) (o : List PV) (k : Res -> Option Res) : JN tau Jns Try.f117 (Try.f117.body.get!) (Jkl (VM f)) [.ro] 0 [.ro 99 o_z o_f o] [] k = JvY f o_z o_f o k := by kernel_rfl
theorem JAO (f : Nat) : Je (Try.f117.body.get!) (Jkl (VM f)) = [.l Jas W1 GI (VM f)] := by kernel_rfl
theorem JAP (f : Nat) : ∀ q ∈ Je (Try.f117.body.get!) (Jkl (VM f)), q.Ok tau Try.prog 0 := by
 rw [JAO f]; simp only [List.forall_mem_cons, List.not_mem_nil, false_implies, implies_true, and_true]; exact JvX f
theorem Jte : Try.prog.funcs[117]? = some Try.f117 := by kernel_rfl
theorem Jtf : Try.f117.body = some (Try.f117.body.get!) := by kernel_rfl
theorem Jtg : Enters Try.prog 117 := enters_of Jte (by kernel_rfl) Jtf
def N99 : Nat := 20
def F99 : Fns := F0
theorem Jnu : Ju tau Try.prog F99 := JB
def JdG : Code := Qu (Try.f99.body.get!) [1, 0, 1, 0, 0]
def YE : Nm := [(0, .any), (3, .any)]
def WI : Nm := [(0, .any), (2, .any)]
def JgE : An := (.seq (.seq .leaf (.cond .leaf .leaf)) (.seq (.block none (.seq .leaf (.cond (.seq .leaf .leaf) .leaf))) .leaf))
def Jqi (r0 : QJ) : An := (.seq .leaf (.seq (.seq .leaf (.block none (.sum YE N99 r0))) (.seq .leaf .leaf)))
def GJ (f : Nat) (rc : Bool -> Bool -> List PV -> Int -> Option Res) (k0 : Bool -> Bool -> List PV -> Bool -> Option Res) (k1 : Bool -> Bool -> List PV -> Option Res) (v0 v1 : Bool) (v2 : List PV) (v3 : Int) : Option Res := bif decide (v3 < zi v2.length) then bif decide (0 <= v3) && decide (v3 < zi v2.length) && (PV.isSt 99 #[Field.mk "Kind" 3 0 false "" "" 0, Field.mk "N" 3 1 false "" "" 8, Field.mk "S" 9 2 false "" "" 16].size (v2.getD v3.toNat PV.top) && (PV.isInt IntKind.i64 (PV.child 0 (v2.getD v3.toNat PV.top)) && (PV.isInt IntKind.i64 (PV.child (0 + 1) (v2.getD v3.toNat PV.top)) && ((PV.child (0 + 1 + 1) (v2.getD v3.toNat PV.top)).isStr && true)))) && true then bif decide (zi (PV.child (0 + 1 + 1) (v2.getD v3.toNat PV.top)).str.size > 150) then k0 v0 v1 v2 false else rc v0 v1 v2 (IntKind.i64.wrap (v3 + 1)) else none else k1 v0 v1 v2
def VN (f : Nat) (k0 : Bool -> Bool -> List PV -> Bool -> Option Res) (k1 : Bool -> Bool -> List PV -> Option Res) : Nat -> Bool -> Bool -> List PV -> Int -> Option Res
 | 0, _, _, _, _ => none
 | n + 1, v0, v1, v2, v3 => GJ f (VN f k0 k1 n) k0 k1 v0 v1 v2 v3
theorem Jqj (f : Nat) (k : Kont) (n : Nat) (v0 v1 : Bool) (v2 : List PV) (v3 : Int) : Jn tau 0 YE (fun s k => ev tau F99 0 0 JdG (JgE ) s k) (n + 1) (Jd YE N99 [.ro 99 v0 v1 v2, .sc (.int .i64 v3)] []) (Jt tau 0 WI k) = GJ f (fun v0 v1 v2 v3 => Jn tau 0 YE (fun s k => ev tau F99 0 0 JdG (JgE ) s k) n (Jd YE N99 [.ro 99 v0 v1 v2, .sc (.int .i64 v3)] []) (Jt tau 0 WI k)) (fun x0 x1 x2 x3 => k Ex.ret (Jd WI N99 [.ro 99 x0 x1 x2, .sc (.bool x3)] [])) (fun x0 x1 x2 => k (Ex.exit 0) (Jd WI N99 [.ro 99 x0 x1 x2, PV.top] [])) v0 v1 v2 v3 := by kernel_rfl
theorem Jkm (f : Nat) (k : Kont) : ∀ (n : Nat) (v0 v1 : Bool) (v2 : List PV) (v3 : Int), Jn tau 0 YE (fun s k => ev tau F99 0 0 JdG (JgE ) s k) n (Jd YE N99 [.ro 99 v0 v1 v2, .sc (.int .i64 v3)] []) (Jt tau 0 WI k) = VN f (fun x0 x1 x2 x3 => k Ex.ret (Jd WI N99 [.ro 99 x0 x1 x2, .sc (.bool x3)] [])) (fun x0 x1 x2 => k (Ex.exit 0) (Jd WI N99 [.ro 99 x0 x1 x2, PV.top] [])) n v0 v1 v2 v3 | 0, _, _, _, _ => rfl | n + 1, v0, v1, v2, v3 => (Jqj f k n v0 v1 v2 v3).trans (congrArg (fun r => GJ f r (fun x0 x1 x2 x3 => k Ex.ret (Jd WI N99 [.ro 99 x0 x1 x2, .sc (.bool x3)] [])) (fun x0 x1 x2 => k (Ex.exit 0) (Jd WI N99 [.ro 99 x0 x1 x2, PV.top] [])) v0 v1 v2 v3) (by funext v0 v1 v2 v3; exact Jkm f k n v0 v1 v2 v3))
def Jcm (f : Nat) : List PV -> List (Nat × Ent) -> Kont -> Option Res
 | [.ro 99 v0 v1 v2,
 PV.sc
  (Value.int IntKind.i64
   v3)], [], k => VN f (fun x0 x1 x2 x3 => k Ex.ret (Jd WI N99 [.ro 99 x0 x1 x2,
 .sc (.bool x3)] [])) (fun x0 x1 x2 => k (Ex.exit 0) (Jd WI N99 [.ro 99 x0 x1 x2, PV.top] [])) f v0 v1 v2 v3
 | _, _, _ => none
theorem JvZ (f : Nat) : Je JdG JgE = [] := by kernel_rfl
theorem JAQ (f : Nat) : (Item.l JdG YE N99 (Jcm f)).Ok tau Try.prog 0 := JI Jq Jnu Jr (x := JgE) (nm2 := WI) (Js _ _ (by rw [JvZ f]; intro q hq; cases hq)) fun vs hp k res hr => by
 unfold Jcm at hr
 split at hr
 · exact ⟨f, 0, (Jkm f _ f _ _ _ _ ).trans hr⟩
 · cases hr
def g99 (f : Nat) (o_z o_f : Bool) (o : List PV) (k : Res -> Option Res) : Option Res := VN f (fun x0_0 x1_0 x2_0 x3_0 => k (Res.mk (.sc (.bool x3_0)) [] [])) (fun x0_1 x1_1 x2_1 => k (Res.mk (.sc (.bool (decide (zi x2_1.length <= 50)))) [] [])) f o_z o_f o (0)
theorem e99 (f : Nat) (o_z o_f : Bool) (o : List PV) (k : Res -> Option Res) : JN tau F99 Try.f99 (Try.f99.body.get!) (Jqi (Jcm f)) [.ro] 0 [.ro 99 o_z o_f o] [] k = g99 f o_z o_f o k := by kernel_rfl
theorem JE4 (f : Nat) : Je (Try.f99.body.get!) (Jqi (Jcm f)) = [.l JdG YE N99 (Jcm f)] := by kernel_rfl
theorem JE5 (f : Nat) : ∀ q ∈ Je (Try.f99.body.get!) (Jqi (Jcm f)), q.Ok tau Try.prog 0 := by
 rw [JE4 f]; simp only [List.forall_mem_cons, List.not_mem_nil, false_implies, implies_true, and_true]; exact JAQ f
theorem JAR : Try.prog.funcs[99]? = some Try.f99 := by kernel_rfl
theorem JAS : Try.f99.body = some (Try.f99.body.get!) := by kernel_rfl
theorem JE6 : Enters Try.prog 99 := enters_of JAR (by kernel_rfl) JAS
end
end Go.Proofs.Ytcklhipdldpkhaa.Rx
