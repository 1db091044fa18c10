/- What the functions of this law compute, and their plain laws. Conditions: none. -/
import Derived.KernelRfl
import Derived.Test.YtcklhipdldpkhaaSignOpensP1
namespace Go.Proofs.Ytcklhipdldpkhaa.Rx
open Go
set_option linter.unusedVariables false
set_option linter.unusedSimpArgs false
set_option maxRecDepth 100000
set_option maxHeartbeats 0
def N69 : Nat := 33
noncomputable def F69 : Fns := F0
theorem JgY : Jz tau Try.prog F69 := JG
noncomputable def Jbm : Code := QB (Try.f69.body.get!) [1, 0, 1, 1, 1, 1, 0, 1, 0, 0]
def Xx : Nm := [(0, .any), (3, .any), (19, .any)]
def Y9 : Nm := [(0, .any)]
def Jfh : An := (.seq .leaf (.seq (.cond .leaf .leaf) (.seq (.block none (.seq .leaf .leaf)) .leaf)))
noncomputable def VT : Code := QB (Try.f69.body.get!) [1, 0]
def Yb : Nm := [(0, .any), (3, .any)]
def Za : Nm := [(2, .any)]
def JcK (r1 : QZ) : An := (.seq .leaf (.seq .leaf (.seq .leaf (.seq (.seq .leaf (.cond (.seq .leaf .leaf) .leaf)) (.seq (.seq .leaf (.block none (.sum Xx N69 r1))) (.seq .leaf .leaf))))))
def JrU (r0 : JtQ) (r1 : QZ) : An := (.seq .leaf (.ssum Yb N69 (JcK r1) r0))
noncomputable def VU (f : Nat) (rc : Nat → Int → Int → Bool → List PV → Option Res) (k0 : Nat → Bool → List PV → Option Res) (v0 : Nat) (v1 : Int) (v2 : Int) (v3 : Bool) (v4 : List PV) : Option Res := bif decide (v2 < 8) then bif decide (0 ≤ IntKind.i64.wrap (56 - IntKind.i64.wrap (8 * v2))) && true then bif Jn (v0 + 1) 1 && true then rc (v0 + 1) v1 (IntKind.i64.wrap (v2 + 1)) (v3 && false) (List.take v0 v4 ++ [.sc (.int .u8 (IntKind.u8.wrap (JF IntKind.u64 v1 (IntKind.i64.wrap (56 - IntKind.i64.wrap (8 * v2))))))]) else none else none else k0 v0 v3 v4
noncomputable def Xy (f : Nat) (k0 : Nat → Bool → List PV → Option Res) : Nat → Nat → Int → Int → Bool → List PV → Option Res
  | 0, _, _, _, _, _ => none
  | n + 1, v0, v1, v2, v3, v4 => VU f (Xy f k0 n) k0 v0 v1 v2 v3 v4
theorem Jnw (f : Nat) (k : Kont) (n : Nat) (v0 : Nat) (v1 : Int) (v2 : Int) (v3 : Bool) (v4 : List PV) : Jo tau 1 Xx (fun s k => ev tau F69 1 0 Jbm (Jfh ) s k) (n + 1) (Je Xx N69 [.ow 5 545 [] 0 v0 none, .sc (.int .u64 v1), .sc (.int .i64 v2)] [(0, .dead), (545, .vec false 5 v3 v4)]) (Jv tau 1 Y9 k) = VU f (fun v0 v1 v2 v3 v4 => Jo tau 1 Xx (fun s k => ev tau F69 1 0 Jbm (Jfh ) s k) n (Je Xx N69 [.ow 5 545 [] 0 v0 none, .sc (.int .u64 v1), .sc (.int .i64 v2)] [(0, .dead), (545, .vec false 5 v3 v4)]) (Jv tau 1 Y9 k)) (fun x0 x1 x2 => k (Ex.exit 0) (Je Y9 N69 [.ow 5 545 [] 0 x0 none] [(0, .dead), (545, .vec false 5 x1 x2)])) v0 v1 v2 v3 v4 := by kernel_rfl
theorem Jis (f : Nat) (k : Kont) : ∀ (n : Nat) (v0 : Nat) (v1 : Int) (v2 : Int) (v3 : Bool) (v4 : List PV), Jo tau 1 Xx (fun s k => ev tau F69 1 0 Jbm (Jfh ) s k) n (Je Xx N69 [.ow 5 545 [] 0 v0 none, .sc (.int .u64 v1), .sc (.int .i64 v2)] [(0, .dead), (545, .vec false 5 v3 v4)]) (Jv tau 1 Y9 k) = Xy f (fun x0 x1 x2 => k (Ex.exit 0) (Je Y9 N69 [.ow 5 545 [] 0 x0 none] [(0, .dead), (545, .vec false 5 x1 x2)])) n v0 v1 v2 v3 v4 | 0, _, _, _, _, _ => rfl | n + 1, v0, v1, v2, v3, v4 => (Jnw f k n v0 v1 v2 v3 v4).trans (congrArg (fun r => VU f r (fun x0 x1 x2 => k (Ex.exit 0) (Je Y9 N69 [.ow 5 545 [] 0 x0 none] [(0, .dead), (545, .vec false 5 x1 x2)])) v0 v1 v2 v3 v4) (by funext v0 v1 v2 v3 v4; exact Jis f k n v0 v1 v2 v3 v4))
noncomputable def YB (f : Nat) : List PV → List (Nat × Ent) → Kont → Option Res
  | [.ow 5 545 [] 0 v0 none, .sc (.int .u64 v1),
  PV.sc
    (Value.int IntKind.i64
      v2)], [(0, .dead),
  (545, .vec false 5 v3 v4)], k => Xy f (fun x0 x1 x2 => k (Ex.exit 0) (Je Y9 N69 [.ow 5 545 [] 0 x0 none] [(0, .dead), (545, .vec false 5 x1 x2)])) f v0 v1 v2 v3 v4
  | _, _, _ => none
theorem JrV (f : Nat) : Jg Jbm Jfh = [] := by kernel_rfl
theorem JpS (f : Nat) : (Item.l Jbm Xx N69 (YB f)).Ok tau Try.prog 1 := JI Jr JgY Js (x := Jfh) (nm2 := Y9) (Jp _ _ (by rw [JrV f]; intro q hq; cases hq)) fun vs hp k res hr => by
  unfold YB at hr
  split at hr
  · exact ⟨f, 0, (Jis f _ f _ _ _ _ _ ).trans hr⟩
  · cases hr
noncomputable def VV (f : Nat) (rc : Nat → Int → Bool → List PV → Option Res) (k0 : Nat → Bool → List PV → Option Res) (v0 : Nat) (v1 : Int) (v2 : Bool) (v3 : List PV) : Option Res := bif (zi v0).tmod 64 != 56 then bif Jn (v0 + 1) 1 && true then rc (v0 + 1) v1 (v2 && false) (List.take v0 v3 ++ [.sc (.int .u8 0)]) else none else Xy f (fun x0_0 x1_0 x2_0 => k0 x0_0 x1_0 x2_0) f v0 v1 (0) v2 v3
noncomputable def Z9 (f : Nat) (k0 : Nat → Bool → List PV → Option Res) : Nat → Nat → Int → Bool → List PV → Option Res
  | 0, _, _, _, _ => none
  | n + 1, v0, v1, v2, v3 => VV f (Z9 f k0 n) k0 v0 v1 v2 v3
theorem Jnx (f : Nat) (k : Kont) (n : Nat) (v0 : Nat) (v1 : Int) (v2 : Bool) (v3 : List PV) : QT tau 1 Yb (hasLabel VT) (fun l s k => Qd tau F69 1 0 VT (JcK (YB f)) l s k) (n + 1) 0 (Je Yb N69 [.ow 5 545 [] 0 v0 none, .sc (.int .u64 v1)] [(0, .dead), (545, .vec false 5 v2 v3)]) (Jv tau 1 Za k) = VV f (fun v0 v1 v2 v3 => QT tau 1 Yb (hasLabel VT) (fun l s k => Qd tau F69 1 0 VT (JcK (YB f)) l s k) n 0 (Je Yb N69 [.ow 5 545 [] 0 v0 none, .sc (.int .u64 v1)] [(0, .dead), (545, .vec false 5 v2 v3)]) (Jv tau 1 Za k)) (fun x0 x1 x2 => k Ex.ret (Je Za N69 [.ow 5 545 [] 0 x0 none] [(0, .dead), (545, .vec false 5 x1 x2)])) v0 v1 v2 v3 := by kernel_rfl
theorem Jit (f : Nat) (k : Kont) : ∀ (n : Nat) (v0 : Nat) (v1 : Int) (v2 : Bool) (v3 : List PV), QT tau 1 Yb (hasLabel VT) (fun l s k => Qd tau F69 1 0 VT (JcK (YB f)) l s k) n 0 (Je Yb N69 [.ow 5 545 [] 0 v0 none, .sc (.int .u64 v1)] [(0, .dead), (545, .vec false 5 v2 v3)]) (Jv tau 1 Za k) = Z9 f (fun x0 x1 x2 => k Ex.ret (Je Za N69 [.ow 5 545 [] 0 x0 none] [(0, .dead), (545, .vec false 5 x1 x2)])) n v0 v1 v2 v3 | 0, _, _, _, _ => rfl | n + 1, v0, v1, v2, v3 => (Jnx f k n v0 v1 v2 v3).trans (congrArg (fun r => VV f r (fun x0 x1 x2 => k Ex.ret (Je Za N69 [.ow 5 545 [] 0 x0 none] [(0, .dead), (545, .vec false 5 x1 x2)])) v0 v1 v2 v3) (by funext v0 v1 v2 v3; exact Jit f k n v0 v1 v2 v3))
noncomputable def JcL (f : Nat) : Nat → List PV → List (Nat × Ent) → Kont → Option Res
  | 0, [.ow 5 545 [] 0 v0 none,
  PV.sc
    (Value.int IntKind.u64
      v1)], [(0, .dead),
  (545, .vec false 5 v2 v3)], k => Z9 f (fun x0 x1 x2 => k Ex.ret (Je Za N69 [.ow 5 545 [] 0 x0 none] [(0, .dead), (545, .vec false 5 x1 x2)])) f v0 v1 v2 v3
  | _, _, _, _ => none
theorem JrW (f : Nat) : Jg VT (JcK (YB f)) = [.l Jbm Xx N69 (YB f)] := by kernel_rfl
theorem Jvv (f : Nat) : (Item.s VT Yb N69 (JcL f)).Ok tau Try.prog 1 := Jba Jr JgY Js (x := (JcK (YB f))) (nm2 := Za) (Jp _ _ (by rw [JrW f]; simp only [List.forall_mem_cons, List.not_mem_nil, false_implies, implies_true, and_true]; exact JpS f)) fun l vs hp k res hr => by
  unfold JcL at hr
  split at hr
  · exact ⟨f, 0, (Jit f _ f _ _ _ _ ).trans hr⟩
  · cases hr
noncomputable def g69 (f : Nat) (nl : Bool) (l : List PV) (n : Nat) (k : Res → Option Res) : Option Res := bif Jn (n + 1) 1 && true then bif (zi (n + 1)).tmod 64 != 56 then bif Jn (n + 1 + 1) 1 && true then Z9 f (fun x0_1 x1_1 x2_1 => k (Res.mk (.ow 5 16 [] 0 x0_1 none) [.dead] [.vec false 5 x1_1 x2_1])) f (n + 1 + 1) (IntKind.u64.wrap (IntKind.u64.wrap (zi n) * 8)) (nl && false && false) (List.take (n + 1) (List.take n l ++ [.sc (.int .u8 128)]) ++ [.sc (.int .u8 0)]) else none else Xy f (fun x0_2 x1_2 x2_2 => k (Res.mk (.ow 5 16 [] 0 x0_2 none) [.dead] [.vec false 5 x1_2 x2_2])) f (n + 1) (IntKind.u64.wrap (IntKind.u64.wrap (zi n) * 8)) (0) (nl && false) (List.take n l ++ [.sc (.int .u8 128)]) else none
theorem e69 (f : Nat) (nl : Bool) (l : List PV) (n : Nat) (k : Res → Option Res) : JM tau F69 Try.f69 (Try.f69.body.get!) (JrU (JcL f) (YB f)) [] 0 [.ow 5 0 [] 0 n none] [.vec false 5 nl l] k = g69 f nl l n k := by kernel_rfl
theorem JzQ (f : Nat) : Jg (Try.f69.body.get!) (JrU (JcL f) (YB f)) = [.s VT Yb N69 (JcL f), .l Jbm Xx N69 (YB f)] := by kernel_rfl
theorem JzR (f : Nat) : ∀ q ∈ Jg (Try.f69.body.get!) (JrU (JcL f) (YB f)), q.Ok tau Try.prog 1 := by
  rw [JzQ f]; simp only [List.forall_mem_cons, List.not_mem_nil, false_implies, implies_true, and_true]; exact ⟨Jvv f, JpS f⟩
theorem Jvw : Try.prog.funcs[69]? = some Try.f69 := by kernel_rfl
theorem Jvx : Try.f69.body = some (Try.f69.body.get!) := by kernel_rfl
theorem JzS : Enters Try.prog 69 := enters_of Jvw (by kernel_rfl) Jvx
-- FN sha.padded
def JrX (n : Int) (i : Nat) : Int := IntKind.u8.wrap (JF .u64 n (56 - 8 * (i : Int)))
theorem JpT (f : Nat) (N : Int) (k0 : Nat → Bool → List PV → Option Res) (L : List Int) (hL : L.length ≤ 140737488355300) : ∀ (d i n : Nat) (z : Bool), i + d = 8 → d < n → (d = 0 → z = false) →
    Xy f k0 n (L.length + i) N (i : Int) z (pu .u8 (L ++ (List.range i).map (JrX N))) = k0 (L.length + 8) false (pu .u8 (L ++ (List.range 8).map (JrX N)))
  | 0, i, n + 1, z, h, hn, hz => by
      obtain rfl : i = 8 := by omega
      simp only [Xy, VU]
      rw [hz rfl]
      exact JK (by decide)
  | d + 1, i, n + 1, z, h, hn, hz => by
      have h1 : IntKind.i64.wrap ((i : Int) + 1) = ((i + 1 : Nat) : Int) := by rw [wrap_i64 (by omega) (by omega)]; omega
      have h8 : IntKind.i64.wrap (8 * (i : Int)) = 8 * (i : Int) := wrap_i64 (by omega) (by omega)
      have h9 : IntKind.i64.wrap (56 - 8 * (i : Int)) = 56 - 8 * (i : Int) := wrap_i64 (by omega) (by omega)
      have c1 : decide ((i : Int) < 8) = true := by simp; omega
      have c2 : decide (0 ≤ 56 - 8 * (i : Int)) = true := by simp; omega
      have c3 : Jn (L.length + i + 1) 1 = true := by simp [Jn]; omega
      have hlen : (L ++ (List.range i).map (JrX N)).length = L.length + i := by simp
      simp only [Xy, VU, h1, h8, h9, c1, c2, c3, Bool.and_true, cond_true, Xc, Bool.and_false]
      rw [List.take_of_length_le (by omega)]
      have := JpT f N k0 L hL d (i + 1) n false (by omega) (by omega) (fun _ => rfl)
      rw [List.range_succ, List.map_append, ← List.append_assoc, JZ] at this
      exact this
theorem JpU (f : Nat) (N : Int) (k0 : Nat → Bool → List PV → Option Res) (hf : 9 ≤ f) : ∀ (d n : Nat) (L : List Int) (z : Bool), zs L.length = d → d < n → L.length + d ≤ 140737488355200 →
    Z9 f k0 n L.length N z (pu .u8 L) = Xy f k0 f (L.length + d) N 0 (z && decide (d = 0)) (pu .u8 (L ++ List.replicate d 0))
  | 0, n + 1, L, z, hd, hn, hL => by
      simp only [Z9, VV, Jbh]
      refine (JK (by simp [zs] at hd ⊢; omega)).trans ?_
      simp
  | d + 1, n + 1, L, z, hd, hn, hL => by
      have hlt : d + 1 < 64 := by rw [← hd]; unfold zs; omega
      have c3 : Jn (L.length + 1) 1 = true := by simp [Jn]; omega
      simp only [Z9, VV, Jbh, c3, Bool.and_true, cond_true, Xc, Bool.and_false]
      refine (Jc (by simp [zs] at hd ⊢; omega)).trans ?_
      rw [List.take_of_length_le (Nat.le_refl _)]
      have := JpU f N k0 hf d n (L ++ [0]) false (by simp [zs] at hd ⊢; omega) (by omega) (by simp; omega)
      simp only [List.length_append, List.length_cons, List.length_nil, Nat.zero_add, JZ] at this
      refine this.trans ?_
      rw [show L.length + 1 + d = L.length + (d + 1) from by omega, List.replicate_succ]
      simp
theorem JrY (nl : Bool) (bs : List Int) (hb : bs.length ≤ 140737488355000) (k : Res → Option Res) : g69 100 nl (pu .u8 bs) bs.length k = k ⟨.ow 5 16 [] 0 (QA bs).length none, [.dead], [.vec false 5 false (pu .u8 (QA bs))]⟩ := by
  have c1 : (Jn (bs.length + 1) 1 && true) = true := by simp [Jn]; omega
  have c2 : (Jn (bs.length + 1 + 1) 1 && true) = true := by simp [Jn]; omega
  have hlen : (QA bs).length = bs.length + 1 + zs (bs.length + 1) + 8 := by simp [QA, Jnj]; omega
  have hz : zs (bs.length + 1) < 64 := by unfold zs; omega
  refine (Jc c1).trans ?_
  rw [Jbh, Xc, List.take_of_length_le (Nat.le_refl _)]
  have fin : ∀ z, Xy 100 (fun x0_2 x1_2 x2_2 => k (Res.mk (PV.ow 5 16 [] 0 x0_2 none) [Ent.dead] [Ent.vec false 5 x1_2 x2_2])) 100 (bs.length + 1 + zs (bs.length + 1)) (IntKind.u64.wrap (IntKind.u64.wrap (zi bs.length) * 8)) 0 z (pu .u8 (bs ++ [128] ++ List.replicate (zs (bs.length + 1)) 0)) = k ⟨.ow 5 16 [] 0 (QA bs).length none, [.dead], [.vec false 5 false (pu .u8 (QA bs))]⟩ := by
    intro z
    have := JpT 100 (IntKind.u64.wrap (IntKind.u64.wrap (zi bs.length) * 8)) (fun x0_2 x1_2 x2_2 => k (Res.mk (PV.ow 5 16 [] 0 x0_2 none) [Ent.dead] [Ent.vec false 5 x1_2 x2_2])) (bs ++ [128] ++ List.replicate (zs (bs.length + 1)) 0) (by simp; omega) 8 0 100 z (by omega) (by omega) (by omega)
    have hl2 : (bs ++ [128] ++ List.replicate (zs (bs.length + 1)) 0).length = bs.length + 1 + zs (bs.length + 1) := by simp; omega
    rw [hl2] at this
    simp only [List.range_zero, List.map_nil, List.append_nil, Nat.add_zero] at this
    rw [hlen]
    exact this
  cases hc : (((((bs.length + 1) % 64 : Nat) : Int)) != 56) with
  | true =>
    refine (Jc rfl).trans ((Jc c2).trans ?_)
    have hc' : ((bs.length + 1) % 64 : Nat) ≠ 56 := by simp at hc; omega
    have hz1 : zs (bs.length + 1 + 1) + 1 = zs (bs.length + 1) := by unfold zs; omega
    have := JpU 100 (IntKind.u64.wrap (IntKind.u64.wrap (zi bs.length) * 8)) (fun x0_1 x1_1 x2_1 => k (Res.mk (PV.ow 5 16 [] 0 x0_1 none) [Ent.dead] [Ent.vec false 5 x1_1 x2_1])) (by omega) (zs (bs.length + 1 + 1)) 100 (bs ++ [128] ++ [0]) (nl && false && false) (by simp) (by unfold zs; omega) (by simp; omega)
    have h0 : pu .u8 (bs ++ [128] ++ [0]) = List.take (bs.length + 1) (pu .u8 bs ++ [PV.sc (Value.int IntKind.u8 128)]) ++ [PV.sc (Value.int IntKind.u8 0)] := by
      rw [List.take_of_length_le (by simp)]; simp
    rw [h0] at this
    simp only [List.length_append, List.length_cons, List.length_nil, Nat.zero_add] at this
    refine this.trans ?_
    have h3 : bs ++ [128] ++ [0] ++ List.replicate (zs (bs.length + 1 + 1)) 0 = bs ++ [128] ++ List.replicate (zs (bs.length + 1)) 0 := by
      rw [← hz1, List.replicate_succ]; simp
    rw [h3, show bs.length + 1 + 1 + zs (bs.length + 1 + 1) = bs.length + 1 + zs (bs.length + 1) from by omega]
    exact fin _
  | false =>
    refine (JK rfl).trans ?_
    have hc' : ((bs.length + 1) % 64 : Nat) = 56 := by simp at hc; omega
    have hz0 : zs (bs.length + 1) = 0 := by unfold zs; omega
    have := fin (nl && false)
    rw [hz0] at this
    simpa using this
def JgZ : List PV → List Ent → (Res → Option Res) → Option Res
  | [.ow 5 0 [] 0 n none], [.vec false 5 nl l], k => bif Jh .u8 l && (decide (n = l.length) && decide (l.length ≤ 140737488355000)) then k ⟨.ow 5 16 [] 0 (QA (Jd l)).length none, [.dead], [.vec false 5 false (pu .u8 (QA (Jd l)))]⟩ else none
  | _, _, _ => none
def Jvy : Sig := { own := [true], run := JgZ }
theorem Jvz : Ji tau Try.prog 69 Jvy := JS Jr JgY Js Jvw Jvx _ [] 1 [true] JgZ (JzR 100) fun xs es k res hr => by
  unfold JgZ at hr
  split at hr
  · obtain ⟨hc, hr⟩ := JL hr
    simp only [Bool.and_eq_true, decide_eq_true_eq] at hc
    refine ⟨rfl, 0, (e69 100 _ _ _ _).trans ?_⟩
    rw [hc.2.1, Qb hc.1, JO, JrY _ _ (by simpa using hc.2.2)]
    exact hr
  · cases hr
noncomputable def F68 : Fns := F0
theorem JrZ : Jz tau Try.prog F68 := JG
def Jny : An := (.seq .leaf (.seq .leaf .leaf))
noncomputable def g68 (f : Nat) (k : Res → Option Res) : Option Res := k (Res.mk (.ar 113 [.sc (.int .u32 1779033703), .sc (.int .u32 3144134277), .sc (.int .u32 1013904242), .sc (.int .u32 2773480762), .sc (.int .u32 1359893119), .sc (.int .u32 2600822924), .sc (.int .u32 528734635), .sc (.int .u32 1541459225)]) [] [])
theorem e68 (f : Nat) (k : Res → Option Res) : JM tau F68 Try.f68 (Try.f68.body.get!) Jny [.ro] 0 [] [] k = g68 f k := by kernel_rfl
theorem JzT (f : Nat) : Jg (Try.f68.body.get!) Jny = [] := by kernel_rfl
theorem JzU (f : Nat) : ∀ q ∈ Jg (Try.f68.body.get!) Jny, q.Ok tau Try.prog 0 := by
  rw [JzT f]; intro q hq; cases hq
theorem JvA : Try.prog.funcs[68]? = some Try.f68 := by kernel_rfl
theorem JvB : Try.f68.body = some (Try.f68.body.get!) := by kernel_rfl
theorem JzV : Enters Try.prog 68 := enters_of JvA (by kernel_rfl) JvB
noncomputable def Jk7 : List PV → List Ent → (Res → Option Res) → Option Res
  | [], [], k => g68 0  k
  | _, _, _ => none
noncomputable def s68 : Sig := { own := [], run := Jk7 }
theorem JzW : Ji tau Try.prog 68 s68 := JS Jr JrZ Js JvA JvB Jny [.ro] 0 [] Jk7 (JzU 0) fun xs es k res hr => by
  unfold Jk7 at hr
  split at hr
  · exact ⟨rfl, 0, (e68 0  _).trans hr⟩
  · cases hr
def N27 : Nat := 37
noncomputable def F27 : Fns := JD 68 s68 (JD 69 Jvy (JD 70 Jnv (JD 71 Jvi F0)))
theorem Jg0 : Jz tau Try.prog F27 := (((JG.add Jvj JzM).add Jk6 JrS).add Jvz JzS).add JzW JzV
noncomputable def JcM : Code := QB (Try.f27.body.get!) [1, 1, 0, 1, 0, 0]
def Yc : Nm := [(2, .any), (3, .any), (4, .ro)]
def Zb : Nm := [(2, .any), (3, .any)]
def Jfi : An := (.seq (.seq .leaf (.cond .leaf .leaf)) (.seq (.block none .leaf) .leaf))
noncomputable def JcN : Code := QB (Try.f27.body.get!) [1, 1, 1, 1, 0, 1, 0, 0]
def Yd : Nm := [(2, .any), (3, .any), (5, .any), (20, .any)]
def Zc : Nm := [(2, .any), (5, .any)]
def Jfj : An := (.seq .leaf (.seq (.cond .leaf .leaf) (.seq (.block none (.seq .leaf .leaf)) .leaf)))
def Jnz (r0 : QZ) (r1 : QZ) : An := (.seq .leaf (.seq .leaf (.seq (.seq .leaf (.block none (.sum Yc N27 r0))) (.seq .leaf (.seq (.seq .leaf (.block none (.sum Yd N27 r1))) (.seq .leaf .leaf))))))
def VW (f : Nat) (rc : List PV → List PV → List PV → Option Res) (k0 : List PV → List PV → Option Res) (v0 : List PV) (v1 : List PV) (v2 : List PV) : Option Res := bif decide (zi v0.length > 0) then bif decide (64 ≤ v0.length) && true then bif Jh IntKind.u32 v2 && decide (v2.length = 8) && (Jh IntKind.u8 (List.take 64 v0) && decide ((List.take 64 v0).length = 64)) then bif decide (64 ≤ v0.length) && decide (v0.length ≤ v0.length) && true then rc (List.drop 64 (List.take v0.length v0)) v1 (pu IntKind.u32 (Jfa (Jd v2) (Jd (List.take 64 v0)))) else none else none else none else k0 v1 v2
def Zd (f : Nat) (k0 : List PV → List PV → Option Res) : Nat → List PV → List PV → List PV → Option Res
  | 0, _, _, _ => none
  | n + 1, v0, v1, v2 => VW f (Zd f k0 n) k0 v0 v1 v2
theorem JnA (f : Nat) (k : Kont) (n : Nat) (v0 : List PV) (v1 : List PV) (v2 : List PV) : Jo tau 0 Yc (fun s k => ev tau F27 0 0 JcM (Jfi ) s k) (n + 1) (Je Yc N27 [.ptr 608 [], .ptr 609 [], .ro 5 false false v0] [(608, .box false 37 (PV.ar 37 v1)), (609, .box false 113 (PV.ar 113 v2))]) (Jv tau 0 Zb k) = VW f (fun v0 v1 v2 => Jo tau 0 Yc (fun s k => ev tau F27 0 0 JcM (Jfi ) s k) n (Je Yc N27 [.ptr 608 [], .ptr 609 [], .ro 5 false false v0] [(608, .box false 37 (PV.ar 37 v1)), (609, .box false 113 (PV.ar 113 v2))]) (Jv tau 0 Zb k)) (fun x0 x1 => k (Ex.exit 0) (Je Zb N27 [.ptr 608 [], .ptr 609 []] [(608, .box false 37 (PV.ar 37 x0)), (609, .box false 113 (PV.ar 113 x1))])) v0 v1 v2 := by kernel_rfl
theorem Jiu (f : Nat) (k : Kont) : ∀ (n : Nat) (v0 : List PV) (v1 : List PV) (v2 : List PV), Jo tau 0 Yc (fun s k => ev tau F27 0 0 JcM (Jfi ) s k) n (Je Yc N27 [.ptr 608 [], .ptr 609 [], .ro 5 false false v0] [(608, .box false 37 (PV.ar 37 v1)), (609, .box false 113 (PV.ar 113 v2))]) (Jv tau 0 Zb k) = Zd f (fun x0 x1 => k (Ex.exit 0) (Je Zb N27 [.ptr 608 [], .ptr 609 []] [(608, .box false 37 (PV.ar 37 x0)), (609, .box false 113 (PV.ar 113 x1))])) n v0 v1 v2 | 0, _, _, _ => rfl | n + 1, v0, v1, v2 => (JnA f k n v0 v1 v2).trans (congrArg (fun r => VW f r (fun x0 x1 => k (Ex.exit 0) (Je Zb N27 [.ptr 608 [], .ptr 609 []] [(608, .box false 37 (PV.ar 37 x0)), (609, .box false 113 (PV.ar 113 x1))])) v0 v1 v2) (by funext v0 v1 v2; exact Jiu f k n v0 v1 v2))
def Jbn (f : Nat) : List PV → List (Nat × Ent) → Kont → Option Res
  | [.ptr 608 [], .ptr 609 [],
  PV.ro 5 false false
    v0], [(608, .box false 37 (PV.ar 37 v1)),
  (609,
    Ent.box false 113
      (PV.ar 113
        v2))], k => Zd f (fun x0 x1 => k (Ex.exit 0) (Je Zb N27 [.ptr 608 [], .ptr 609 []] [(608, .box false 37 (PV.ar 37 x0)), (609, .box false 113 (PV.ar 113 x1))])) f v0 v1 v2
  | _, _, _ => none
theorem Jr0 (f : Nat) : Jg JcM Jfi = [] := by kernel_rfl
theorem JvC (f : Nat) : (Item.l JcM Yc N27 (Jbn f)).Ok tau Try.prog 0 := JI Jr Jg0 Js (x := Jfi) (nm2 := Zb) (Jp _ _ (by rw [Jr0 f]; intro q hq; cases hq)) fun vs hp k res hr => by
  unfold Jbn at hr
  split at hr
  · exact ⟨f, 0, (Jiu f _ f _ _ _ ).trans hr⟩
  · cases hr
def VX (f : Nat) (rc : Int → List PV → List PV → List PV → Option Res) (k0 : List PV → List PV → Option Res) (v0 : Int) (v1 : List PV) (v2 : List PV) (v3 : List PV) : Option Res := bif decide (v0 < 32) then bif decide (0 ≤ IntKind.i64.wrap (v0.tdiv 4)) && decide (IntKind.i64.wrap (v0.tdiv 4) < zi 8) && true then bif PV.isInt IntKind.u32 (Jj (PV.ar 113 v2) [(IntKind.i64.wrap (v0.tdiv 4)).toNat]) && true then bif decide (0 ≤ IntKind.i64.wrap (24 - IntKind.i64.wrap (8 * v0.tmod 4))) && true then bif decide (0 ≤ v0) && decide (v0 < zi 32) && true then rc (IntKind.i64.wrap (v0 + 1)) v1 v2 (v3.set v0.toNat (.sc (.int .u8 (IntKind.u8.wrap (JF IntKind.u32 (Jj (PV.ar 113 v2) [(IntKind.i64.wrap (v0.tdiv 4)).toNat]).int (IntKind.i64.wrap (24 - IntKind.i64.wrap (8 * v0.tmod 4)))))))) else none else none else none else none else k0 v1 v3
def Ze (f : Nat) (k0 : List PV → List PV → Option Res) : Nat → Int → List PV → List PV → List PV → Option Res
  | 0, _, _, _, _ => none
  | n + 1, v0, v1, v2, v3 => VX f (Ze f k0 n) k0 v0 v1 v2 v3
theorem JnB (f : Nat) (k : Kont) (n : Nat) (v0 : Int) (v1 : List PV) (v2 : List PV) (v3 : List PV) : Jo tau 0 Yd (fun s k => ev tau F27 0 0 JcN (Jfj ) s k) (n + 1) (Je Yd N27 [.ptr 608 [], .ptr 609 [], .ptr 610 [], .sc (.int .i64 v0)] [(608, .box false 37 (PV.ar 37 v1)), (609, .box false 113 (PV.ar 113 v2)), (610, .box false 37 (PV.ar 37 v3))]) (Jv tau 0 Zc k) = VX f (fun v0 v1 v2 v3 => Jo tau 0 Yd (fun s k => ev tau F27 0 0 JcN (Jfj ) s k) n (Je Yd N27 [.ptr 608 [], .ptr 609 [], .ptr 610 [], .sc (.int .i64 v0)] [(608, .box false 37 (PV.ar 37 v1)), (609, .box false 113 (PV.ar 113 v2)), (610, .box false 37 (PV.ar 37 v3))]) (Jv tau 0 Zc k)) (fun x0 x1 => k (Ex.exit 2) (Je Zc N27 [.ptr 608 [], .ptr 609 []] [(608, .box false 37 (PV.ar 37 x0)), (609, .box false 37 (PV.ar 37 x1))])) v0 v1 v2 v3 := by kernel_rfl
theorem Jiv (f : Nat) (k : Kont) : ∀ (n : Nat) (v0 : Int) (v1 : List PV) (v2 : List PV) (v3 : List PV), Jo tau 0 Yd (fun s k => ev tau F27 0 0 JcN (Jfj ) s k) n (Je Yd N27 [.ptr 608 [], .ptr 609 [], .ptr 610 [], .sc (.int .i64 v0)] [(608, .box false 37 (PV.ar 37 v1)), (609, .box false 113 (PV.ar 113 v2)), (610, .box false 37 (PV.ar 37 v3))]) (Jv tau 0 Zc k) = Ze f (fun x0 x1 => k (Ex.exit 2) (Je Zc N27 [.ptr 608 [], .ptr 609 []] [(608, .box false 37 (PV.ar 37 x0)), (609, .box false 37 (PV.ar 37 x1))])) n v0 v1 v2 v3 | 0, _, _, _, _ => rfl | n + 1, v0, v1, v2, v3 => (JnB f k n v0 v1 v2 v3).trans (congrArg (fun r => VX f r (fun x0 x1 => k (Ex.exit 2) (Je Zc N27 [.ptr 608 [], .ptr 609 []] [(608, .box false 37 (PV.ar 37 x0)), (609, .box false 37 (PV.ar 37 x1))])) v0 v1 v2 v3) (by funext v0 v1 v2 v3; exact Jiv f k n v0 v1 v2 v3))
def Jbo (f : Nat) : List PV → List (Nat × Ent) → Kont → Option Res
  | [.ptr 608 [], .ptr 609 [], .ptr 610 [],
  PV.sc
    (Value.int IntKind.i64
      v0)], [(608, .box false 37 (PV.ar 37 v1)), (609, .box false 113 (PV.ar 113 v2)),
  (610,
    Ent.box false 37
      (PV.ar 37
        v3))], k => Ze f (fun x0 x1 => k (Ex.exit 2) (Je Zc N27 [.ptr 608 [], .ptr 609 []] [(608, .box false 37 (PV.ar 37 x0)), (609, .box false 37 (PV.ar 37 x1))])) f v0 v1 v2 v3
  | _, _, _ => none
theorem Jr1 (f : Nat) : Jg JcN Jfj = [] := by kernel_rfl
theorem JvD (f : Nat) : (Item.l JcN Yd N27 (Jbo f)).Ok tau Try.prog 0 := JI Jr Jg0 Js (x := Jfj) (nm2 := Zc) (Jp _ _ (by rw [Jr1 f]; intro q hq; cases hq)) fun vs hp k res hr => by
  unfold Jbo at hr
  split at hr
  · exact ⟨f, 0, (Jiv f _ f _ _ _ _ ).trans hr⟩
  · cases hr
def g27 (f : Nat) (nl : Bool) (fl : Bool) (l : List PV) (k : Res → Option Res) : Option Res := bif l.all (PV.isRo 5) && (decide ((Jm l).length ≤ 140737488355328) && decide (l.length ≤ 140737488355328)) then bif Jh IntKind.u8 (Jm l) && (decide ((Jm l).length = (Jm l).length) && decide ((Jm l).length ≤ 140737488355000)) then Zd f (fun x0_0 x1_0 => Ze f (fun x0_1 x1_1 => k (Res.mk (.ar 37 x1_1) [] [])) f (0) x0_0 x1_0 ([.sc (.int .u8 0), .sc (.int .u8 0), .sc (.int .u8 0), .sc (.int .u8 0), .sc (.int .u8 0), .sc (.int .u8 0), .sc (.int .u8 0), .sc (.int .u8 0), .sc (.int .u8 0), .sc (.int .u8 0), .sc (.int .u8 0), .sc (.int .u8 0), .sc (.int .u8 0), .sc (.int .u8 0), .sc (.int .u8 0), .sc (.int .u8 0), .sc (.int .u8 0), .sc (.int .u8 0), .sc (.int .u8 0), .sc (.int .u8 0), .sc (.int .u8 0), .sc (.int .u8 0), .sc (.int .u8 0), .sc (.int .u8 0), .sc (.int .u8 0), .sc (.int .u8 0), .sc (.int .u8 0), .sc (.int .u8 0), .sc (.int .u8 0), .sc (.int .u8 0), .sc (.int .u8 0), .sc (.int .u8 0)])) f (List.take (QA (Jd (Jm l))).length (pu IntKind.u8 (QA (Jd (Jm l))))) ([.sc (.int .u8 0), .sc (.int .u8 0), .sc (.int .u8 0), .sc (.int .u8 0), .sc (.int .u8 0), .sc (.int .u8 0), .sc (.int .u8 0), .sc (.int .u8 0), .sc (.int .u8 0), .sc (.int .u8 0), .sc (.int .u8 0), .sc (.int .u8 0), .sc (.int .u8 0), .sc (.int .u8 0), .sc (.int .u8 0), .sc (.int .u8 0), .sc (.int .u8 0), .sc (.int .u8 0), .sc (.int .u8 0), .sc (.int .u8 0), .sc (.int .u8 0), .sc (.int .u8 0), .sc (.int .u8 0), .sc (.int .u8 0), .sc (.int .u8 0), .sc (.int .u8 0), .sc (.int .u8 0), .sc (.int .u8 0), .sc (.int .u8 0), .sc (.int .u8 0), .sc (.int .u8 0), .sc (.int .u8 0)]) ([.sc (.int .u32 1779033703), .sc (.int .u32 3144134277), .sc (.int .u32 1013904242), .sc (.int .u32 2773480762), .sc (.int .u32 1359893119), .sc (.int .u32 2600822924), .sc (.int .u32 528734635), .sc (.int .u32 1541459225)]) else none else none
theorem e27 (f : Nat) (nl : Bool) (fl : Bool) (l : List PV) (k : Res → Option Res) : JM tau F27 Try.f27 (Try.f27.body.get!) (Jnz (Jbn f) (Jbo f)) [] 0 [.ro 29 nl fl l] [] k = g27 f nl fl l k := by kernel_rfl
theorem JzX (f : Nat) : Jg (Try.f27.body.get!) (Jnz (Jbn f) (Jbo f)) = [.l JcM Yc N27 (Jbn f), .l JcN Yd N27 (Jbo f)] := by kernel_rfl
theorem JzY (f : Nat) : ∀ q ∈ Jg (Try.f27.body.get!) (Jnz (Jbn f) (Jbo f)), q.Ok tau Try.prog 0 := by
  rw [JzX f]; simp only [List.forall_mem_cons, List.not_mem_nil, false_implies, implies_true, and_true]; exact ⟨JvC f, JvD f⟩
theorem JvE : Try.prog.funcs[27]? = some Try.f27 := by kernel_rfl
theorem JvF : Try.f27.body = some (Try.f27.body.get!) := by kernel_rfl
theorem JzZ : Enters Try.prog 27 := enters_of JvE (by kernel_rfl) JvF
-- FN sha.Sum
theorem JcO : iv.length = 8 := rfl
theorem JpV (P : List Int) (m : Nat) (hP : P.length = 64 * m) (f : Nat) (k0 : List PV → List PV → Option Res) (a : List PV) : ∀ (d i n : Nat), i + d = m → d < n →
    Zd f k0 n (pu .u8 (P.drop (64 * i))) a (pu .u32 (Wd iv P i)) = k0 a (pu .u32 (Wd iv P m))
  | 0, i, n + 1, h, hn => by
      obtain rfl : i = m := by omega
      have hl : (P.drop (64 * i)).length = 0 := by rw [List.length_drop]; omega
      simp only [Zd, VW, JO, hl]
      exact JK (by decide)
  | d + 1, i, n + 1, h, hn => by
      have hl : 64 ≤ (P.drop (64 * i)).length := by rw [List.length_drop]; omega
      have hf := WJ iv P JcO i
      simp only [Zd, VW, JO, Xc, J6, hf, Wa]
      refine (Jc (by simp; omega)).trans ?_
      refine (Jc (by simp at hl ⊢; omega)).trans ?_
      refine (Jc (by simp at hl ⊢; omega)).trans ?_
      refine (Jc (by simp at hl ⊢; omega)).trans ?_
      rw [List.take_of_length_le (Nat.le_refl _), Jh1, List.drop_drop]
      have := JpV P m hP f k0 a d (i + 1) n (by omega) (by omega)
      rw [show 64 * i + 64 = 64 * (i + 1) from by omega]
      exact this
theorem JpW (s : List Int) (hs : s.length = 8) (f : Nat) (k0 : List PV → List PV → Option Res) (a : List PV) (t : List Int) (ht : t.length = 32) : ∀ (d i n : Nat), i + d = 32 → d < n →
    Ze f k0 n (i : Int) a (pu .u32 s) (pu .u8 (Qz (YC s) t i)) = k0 a (pu .u8 (JjQ s))
  | 0, i, n + 1, h, hn => by
      obtain rfl : i = 32 := by omega
      simp only [Ze, VX]
      refine (JK (by decide)).trans ?_
      have := Q0 (YC s) t
      rw [ht] at this; rw [this]; rfl
  | d + 1, i, n + 1, h, hn => by
      have e1 : ((i : Int)).tdiv 4 = ((i / 4 : Nat) : Int) := by rw [Int.tdiv_eq_ediv_of_nonneg (by omega)]; omega
      have e2 : ((i : Int)).tmod 4 = ((i % 4 : Nat) : Int) := by rw [Int.tmod_eq_emod_of_nonneg (by omega)]; omega
      have h1 : IntKind.i64.wrap ((i : Int) + 1) = ((i + 1 : Nat) : Int) := by rw [wrap_i64 (by omega) (by omega)]; omega
      have h2 : IntKind.i64.wrap ((i / 4 : Nat) : Int) = ((i / 4 : Nat) : Int) := wrap_i64 (by omega) (by omega)
      have h3 : IntKind.i64.wrap (8 * ((i % 4 : Nat) : Int)) = 8 * ((i % 4 : Nat) : Int) := wrap_i64 (by omega) (by omega)
      have h4 : IntKind.i64.wrap (24 - 8 * ((i % 4 : Nat) : Int)) = 24 - 8 * ((i % 4 : Nat) : Int) := wrap_i64 (by omega) (by omega)
      have g1 : ((i : Int)).toNat = i := by omega
      have g2 : (((i / 4 : Nat) : Int)).toNat = i / 4 := by omega
      have c0 : decide ((i : Int) < 32) = true := by simp; omega
      have c1 : (decide (0 ≤ ((i / 4 : Nat) : Int)) && decide (((i / 4 : Nat) : Int) < zi 8) && true) = true := by simp; omega
      have c2 : (decide (0 ≤ 24 - 8 * ((i % 4 : Nat) : Int)) && true) = true := by simp; omega
      have c3 : (decide (0 ≤ (i : Int)) && decide ((i : Int) < zi 32) && true) = true := by simp; omega
      simp only [Ze, VX, e1, e2, h1, h2, h3, h4, g1, g2, WE, c0, c1, c2, c3, Y6 hs (i / 4) (by omega), PV.isInt, PV.int, decide_true, Bool.and_true, cond_true, Wm]
      have := JpW s hs f k0 a t ht d (i + 1) n (by omega) (by omega)
      rw [← Qs (YC s) t i (by omega)] at this
      exact this
theorem Jr2 (nl fl : Bool) (l : List PV) (k : Res → Option Res) (hl : l.all (PV.isRo 5) = true) (hn : l.length ≤ 140737488355328) (hi : Jh .u8 (Jm l) = true) (hs : (Jm l).length ≤ 140737488355000) :
    g27 ((QA (Jd (Jm l))).length / 64 + 100) nl fl l k = k ⟨.ar 37 (pu .u8 (JA (Jd (Jm l)))), [], []⟩ := by
  refine (Jc (by simp only [hl, Bool.true_and, Bool.and_eq_true, decide_eq_true_eq]; omega)).trans ?_
  refine (Jc (by simp only [hi, Bool.true_and, Bool.and_eq_true, decide_eq_true_eq, true_and]; exact hs)).trans ?_
  rw [Xc, List.take_of_length_le (Nat.le_refl _)]
  generalize hP : QA (Jd (Jm l)) = P
  have hlen : P.length = 64 * (P.length / 64) := by rw [← hP]; exact G9 _
  have h0 : ∀ k0 a, Zd (P.length / 64 + 100) k0 (P.length / 64 + 100) (pu .u8 P) a (pu .u32 iv) = k0 a (pu .u32 (Wd iv P (P.length / 64))) := fun k0 a => JpV P (P.length / 64) hlen _ k0 a (P.length / 64) 0 _ (by omega) (by omega)
  have h1 : ∀ k0 a s, s.length = 8 → Ze (P.length / 64 + 100) k0 (P.length / 64 + 100) 0 a (pu .u32 s) (pu .u8 (List.replicate 32 0)) = k0 a (pu .u8 (JjQ s)) := by
    intro k0 a s hs
    have := JpW s hs (P.length / 64 + 100) k0 a (List.replicate 32 0) (by simp) 32 0 (P.length / 64 + 100) (by omega) (by omega)
    rw [QF] at this
    exact this
  refine (h0 _ _).trans ((h1 _ _ _ (WJ iv P JcO _)).trans ?_)
  rw [Jaw, Jij, hP]
def Jg1 : List PV → List Ent → (Res → Option Res) → Option Res
  | [.ro 29 nl fl l], [], k => bif (l.all (PV.isRo 5) && decide (l.length ≤ 140737488355328)) && (Jh .u8 (Jm l) && decide ((Jm l).length ≤ 140737488355000)) then k ⟨.ar 37 (pu .u8 (JA (Jd (Jm l)))), [], []⟩ else none
  | _, _, _ => none
def JvG : Sig := { own := [], run := Jg1 }
theorem JvH : Ji tau Try.prog 27 JvG := Jgw Jr Jg0 Js JvE JvF (fun n => Jnz (Jbn n) (Jbo n)) [] 0 [] Jg1 (fun n => JzY n) fun xs es k res hr => by
  unfold Jg1 at hr
  split at hr
  · rename_i nl fl l
    obtain ⟨hc, hr⟩ := JL hr
    simp only [Bool.and_eq_true, decide_eq_true_eq] at hc
    refine ⟨rfl, (QA (Jd (Jm l))).length / 64 + 100, 0, (e27 _ _ _ _ _).trans ?_⟩
    rw [Jr2 nl fl l k hc.1.1 hc.1.2 hc.2.1 hc.2.2]; exact hr
  · cases hr
noncomputable def JvI : Fns := F0
theorem JnC : Jz tau Try.prog JvI := JG
def Jiw : An := (.seq .leaf (.seq (.seq .leaf (.cond (.seq .leaf .leaf) .leaf)) (.seq .leaf .leaf)))
noncomputable def JvJ (f : Nat) (s_z : Bool) (s_f : Bool) (s : List PV) (k : Res → Option Res) : Option Res := bif s_z then k (Res.mk (.ro 29 true true []) [] []) else bif Jn (0 + s.length) 24 && true then k (Res.mk (.ow 29 16 [] 0 (0 + s.length) none) [] [.vec false 29 false s]) else none
theorem Jz0 (f : Nat) (s_z : Bool) (s_f : Bool) (s : List PV) (k : Res → Option Res) : JM tau JvI Try.f136 (Try.f136.body.get!) Jiw [] 0 [.ro 29 s_z s_f s] [] k = JvJ f s_z s_f s k := by kernel_rfl
theorem JvK (f : Nat) : Jg (Try.f136.body.get!) Jiw = [] := by kernel_rfl
theorem JvL (f : Nat) : ∀ q ∈ Jg (Try.f136.body.get!) Jiw, q.Ok tau Try.prog 0 := by
  rw [JvK f]; intro q hq; cases hq
theorem JpX : Try.prog.funcs[136]? = some Try.f136 := by kernel_rfl
theorem JpY : Try.f136.body = some (Try.f136.body.get!) := by kernel_rfl
theorem JvM : Enters Try.prog 136 := enters_of JpX (by kernel_rfl) JpY
noncomputable def Jg2 : List PV → List Ent → (Res → Option Res) → Option Res
  | [.ro 29 s_z s_f s], [], k => JvJ 0 s_z s_f s k
  | _, _, _ => none
noncomputable def JvN : Sig := { own := [], run := Jg2 }
theorem JvO : Ji tau Try.prog 136 JvN := JS Jr JnC Js JpX JpY Jiw [] 0 [] Jg2 (JvL 0) fun xs es k res hr => by
  unfold Jg2 at hr
  split at hr
  · exact ⟨rfl, 0, (Jz0 0 _ _ _  _).trans hr⟩
  · cases hr
-- FN slices.overlaps[[]byte]
-- EXT slices.overlaps[[]byte]
noncomputable def Jix : Sig := { own := [true, true], run := Jh2 29 }
theorem Jg3 : VE tau (Jkn Try.prog 157) Jix :=
  JtR (fn := Try.f157) (t := 47) (tR := 4) Jr (by kernel_rfl) (by kernel_rfl) (by kernel_rfl) (by kernel_rfl) (by kernel_rfl) (by kernel_rfl) (by
    have h : tau.und 29 = some (.slice 5) := by kernel_rfl
    rw [h]; intro h; cases h)
noncomputable def JvP : Fns := JD 157 Jix (F0)
theorem JnD : Jz tau Try.prog JvP := (JG).addV Jg3
def Jiy : An := (.seq .leaf (.seq .leaf (.seq .leaf (.seq (.seq .leaf (.cond (.seq .leaf .leaf) .leaf)) (.seq .leaf (.seq (.seq .leaf (.cond (.seq .leaf .leaf) .leaf)) (.seq (.seq .leaf (.cond (.seq .leaf (.seq .leaf (.seq .leaf (.seq .leaf .leaf)))) .leaf)) (.seq .leaf (.seq (.seq .leaf (.cond (.seq .leaf (.seq .leaf (.seq .leaf .leaf))) .leaf)) (.seq .leaf (.seq .leaf (.seq .leaf .leaf))))))))))))
noncomputable def Jr3 (f : Nat) (nl : Bool) (L : List PV) (n : Nat) (c : Nat) (x : PV) (k : Res → Option Res) : Option Res := bif decide (n + 1 ≤ (some c).getD (L.length - 0)) && true then bif decide (IntKind.i64.wrap (zi (n + 1) + zi 1) > zi c) then bif decide (0 ≤ IntKind.i64.wrap (IntKind.i64.wrap (zi (n + 1) + zi 1) - 0)) && decide (c - 0 < 0 + (IntKind.i64.wrap (IntKind.i64.wrap (zi (n + 1) + zi 1) - 0)).toNat) && Jn (0 + (IntKind.i64.wrap (IntKind.i64.wrap (zi (n + 1) + zi 1) - 0)).toNat) 24 && true then bif decide (0 + (IntKind.i64.wrap (IntKind.i64.wrap (zi (n + 1) + zi 1) - 0)).toNat ≤ none.getD ((List.replicate (IntKind.i64.wrap (IntKind.i64.wrap (zi (n + 1) + zi 1) - 0)).toNat (PV.ro 5 true true [])).length - 0)) && true then bif decide (1 ≤ 0 + (IntKind.i64.wrap (IntKind.i64.wrap (zi (n + 1) + zi 1) - 0)).toNat) && decide (0 + (IntKind.i64.wrap (IntKind.i64.wrap (zi (n + 1) + zi 1) - 0)).toNat ≤ none.getD ((List.take (0 + (IntKind.i64.wrap (IntKind.i64.wrap (zi (n + 1) + zi 1) - 0)).toNat - 0) [x] ++ List.drop (0 + min 1 (0 + (IntKind.i64.wrap (IntKind.i64.wrap (zi (n + 1) + zi 1) - 0)).toNat - 0)) (List.replicate (IntKind.i64.wrap (IntKind.i64.wrap (zi (n + 1) + zi 1) - 0)).toNat (PV.ro 5 true true []))).length - 0)) && true then bif decide (n + 1 ≤ (some c).getD (L.length - 0)) && true then k (Res.mk (.ro 29 false false (List.take (0 + (IntKind.i64.wrap (IntKind.i64.wrap (zi (n + 1) + zi 1) - 0)).toNat) (List.take 1 (List.take (0 + (IntKind.i64.wrap (IntKind.i64.wrap (zi (n + 1) + zi 1) - 0)).toNat - 0) [x] ++ List.drop (0 + min 1 (0 + (IntKind.i64.wrap (IntKind.i64.wrap (zi (n + 1) + zi 1) - 0)).toNat - 0)) (List.replicate (IntKind.i64.wrap (IntKind.i64.wrap (zi (n + 1) + zi 1) - 0)).toNat (PV.ro 5 true true []))) ++ List.take (0 + (IntKind.i64.wrap (IntKind.i64.wrap (zi (n + 1) + zi 1) - 0)).toNat - 1) (List.take (n + 1 - 0) L) ++ List.drop (1 + min (List.take (n + 1 - 0) L).length (0 + (IntKind.i64.wrap (IntKind.i64.wrap (zi (n + 1) + zi 1) - 0)).toNat - 1)) (List.take (0 + (IntKind.i64.wrap (IntKind.i64.wrap (zi (n + 1) + zi 1) - 0)).toNat - 0) [x] ++ List.drop (0 + min 1 (0 + (IntKind.i64.wrap (IntKind.i64.wrap (zi (n + 1) + zi 1) - 0)).toNat - 0)) (List.replicate (IntKind.i64.wrap (IntKind.i64.wrap (zi (n + 1) + zi 1) - 0)).toNat (PV.ro 5 true true [])))))) [.vec false 29 nl L, .vec false 29 false [x]] []) else none else none else none else none else bif decide (0 ≤ IntKind.i64.wrap (zi (n + 1) + zi 1)) && true && decide ((IntKind.i64.wrap (zi (n + 1) + zi 1)).toNat ≤ (some c).getD (L.length - 0)) && true then bif decide (1 ≤ (IntKind.i64.wrap (zi (n + 1) + zi 1)).toNat - 0) && decide ((IntKind.i64.wrap (zi (n + 1) + zi 1)).toNat - 0 ≤ (some (c - 0)).getD (L.length - 0)) && true then bif Nat.blt 0 ((IntKind.i64.wrap (zi (n + 1) + zi 1)).toNat - 0 - 1) && true then bif decide (1 ≤ (IntKind.i64.wrap (zi (n + 1) + zi 1)).toNat - 0) && decide ((IntKind.i64.wrap (zi (n + 1) + zi 1)).toNat - 0 ≤ (some (c - 0)).getD (L.length - 0)) && true then bif decide ((IntKind.i64.wrap (zi (n + 1) + zi 1)).toNat - 0 ≤ (some (c - 0)).getD (L.length - 0)) && true then bif decide ((IntKind.i64.wrap (zi (n + 1) + zi 1)).toNat - 0 ≤ (some (c - 0)).getD ((List.take 1 L ++ List.take ((IntKind.i64.wrap (zi (n + 1) + zi 1)).toNat - 0 - 1) (List.take ((IntKind.i64.wrap (zi (n + 1) + zi 1)).toNat - 0 - 0) L) ++ List.drop (1 + min (List.take ((IntKind.i64.wrap (zi (n + 1) + zi 1)).toNat - 0 - 0) L).length ((IntKind.i64.wrap (zi (n + 1) + zi 1)).toNat - 0 - 1)) L).length - 0)) && true then k (Res.mk (.ro 29 (Ent.vec false 29 nl (List.take ((IntKind.i64.wrap (zi (n + 1) + zi 1)).toNat - 0 - 0) [x] ++ List.drop (0 + min 1 ((IntKind.i64.wrap (zi (n + 1) + zi 1)).toNat - 0 - 0)) (List.take 1 L ++ List.take ((IntKind.i64.wrap (zi (n + 1) + zi 1)).toNat - 0 - 1) (List.take ((IntKind.i64.wrap (zi (n + 1) + zi 1)).toNat - 0 - 0) L) ++ List.drop (1 + min (List.take ((IntKind.i64.wrap (zi (n + 1) + zi 1)).toNat - 0 - 0) L).length ((IntKind.i64.wrap (zi (n + 1) + zi 1)).toNat - 0 - 1)) L))).nil false (List.take ((IntKind.i64.wrap (zi (n + 1) + zi 1)).toNat - 0) (List.take ((IntKind.i64.wrap (zi (n + 1) + zi 1)).toNat - 0 - 0) [x] ++ List.drop (0 + min 1 ((IntKind.i64.wrap (zi (n + 1) + zi 1)).toNat - 0 - 0)) (List.take 1 L ++ List.take ((IntKind.i64.wrap (zi (n + 1) + zi 1)).toNat - 0 - 1) (List.take ((IntKind.i64.wrap (zi (n + 1) + zi 1)).toNat - 0 - 0) L) ++ List.drop (1 + min (List.take ((IntKind.i64.wrap (zi (n + 1) + zi 1)).toNat - 0 - 0) L).length ((IntKind.i64.wrap (zi (n + 1) + zi 1)).toNat - 0 - 1)) L)))) [.vec true 29 nl (List.take ((IntKind.i64.wrap (zi (n + 1) + zi 1)).toNat - 0 - 0) [x] ++ List.drop (0 + min 1 ((IntKind.i64.wrap (zi (n + 1) + zi 1)).toNat - 0 - 0)) (List.take 1 L ++ List.take ((IntKind.i64.wrap (zi (n + 1) + zi 1)).toNat - 0 - 1) (List.take ((IntKind.i64.wrap (zi (n + 1) + zi 1)).toNat - 0 - 0) L) ++ List.drop (1 + min (List.take ((IntKind.i64.wrap (zi (n + 1) + zi 1)).toNat - 0 - 0) L).length ((IntKind.i64.wrap (zi (n + 1) + zi 1)).toNat - 0 - 1)) L)), .vec false 29 false [x]] []) else none else none else none else none else none else none else none
theorem Jz1 (f : Nat) (nl : Bool) (L : List PV) (n : Nat) (c : Nat) (x : PV) (k : Res → Option Res) : JM tau JvP Try.f140 (Try.f140.body.get!) Jiy [.ro] 0 [.ow 29 0 [] 0 (n + 1) (some c), .sc (.int .i64 0), .ow 29 1 [] 0 1 (some 1)] [.vec false 29 nl L, .vec false 29 false [x]] k = Jr3 f nl L n c x k := by kernel_rfl
theorem JvQ (f : Nat) : Jg (Try.f140.body.get!) Jiy = [] := by kernel_rfl
theorem JvR (f : Nat) : ∀ q ∈ Jg (Try.f140.body.get!) Jiy, q.Ok tau Try.prog 2 := by
  rw [JvQ f]; intro q hq; cases hq
theorem JpZ : Try.prog.funcs[140]? = some Try.f140 := by kernel_rfl
theorem Jp0 : Try.f140.body = some (Try.f140.body.get!) := by kernel_rfl
theorem JvS : Enters Try.prog 140 := enters_of JpZ (by kernel_rfl) Jp0
noncomputable def Jp1 : Fns := JD 157 Jix (F0)
theorem Jk8 : Jz tau Try.prog Jp1 := (JG).addV Jg3
def JdK : An := (.seq .leaf (.seq .leaf (.seq .leaf (.seq (.seq .leaf (.cond (.seq .leaf .leaf) .leaf)) (.seq .leaf (.seq (.seq .leaf (.cond (.seq .leaf .leaf) .leaf)) (.seq (.seq .leaf (.cond (.seq .leaf (.seq .leaf (.seq .leaf (.seq .leaf .leaf)))) .leaf)) (.seq .leaf (.seq (.seq .leaf (.cond (.seq .leaf (.seq .leaf (.seq .leaf .leaf))) .leaf)) (.seq .leaf (.seq .leaf (.seq .leaf .leaf))))))))))))
noncomputable def JvT (f : Nat) (x : PV) (k : Res → Option Res) : Option Res := k (Res.mk (.ro 29 false false [x]) [.vec false 29 false [x]] [])
theorem JvU (f : Nat) (x : PV) (k : Res → Option Res) : JM tau Jp1 Try.f140 (Try.f140.body.get!) JdK [.ro] 0 [.ro 29 true true [], .sc (.int .i64 0), .ow 29 0 [] 0 1 (some 1)] [.vec false 29 false [x]] k = JvT f x k := by kernel_rfl
theorem Jr4 (f : Nat) : Jg (Try.f140.body.get!) JdK = [] := by kernel_rfl
theorem Jr5 (f : Nat) : ∀ q ∈ Jg (Try.f140.body.get!) JdK, q.Ok tau Try.prog 1 := by
  rw [Jr4 f]; intro q hq; cases hq
theorem Jr6 : Try.prog.funcs[140]? = some Try.f140 := by kernel_rfl
theorem Jr7 : Try.f140.body = some (Try.f140.body.get!) := by kernel_rfl
noncomputable def Jp2 : Fns := JD 157 Jix (F0)
theorem Jk9 : Jz tau Try.prog Jp2 := (JG).addV Jg3
def JdL : An := (.seq .leaf (.seq .leaf (.seq .leaf (.seq (.seq .leaf (.cond (.seq .leaf .leaf) .leaf)) (.seq .leaf (.seq (.seq .leaf (.cond (.seq .leaf .leaf) .leaf)) (.seq (.seq .leaf (.cond (.seq .leaf (.seq .leaf (.seq .leaf (.seq .leaf .leaf)))) .leaf)) (.seq .leaf (.seq (.seq .leaf (.cond (.seq .leaf (.seq .leaf (.seq .leaf .leaf))) .leaf)) (.seq .leaf (.seq .leaf (.seq .leaf .leaf))))))))))))
noncomputable def JvV (f : Nat) (nl : Bool) (x : PV) (k : Res → Option Res) : Option Res := k (Res.mk (.ro 29 (Ent.vec false 29 (nl && ((Ent.vec false 29 false [x]).nil, List.take 1 (List.drop 0 [x])).snd.isEmpty) [x]).nil false [x]) [.dead, .vec false 29 false [x]] [])
theorem JvW (f : Nat) (nl : Bool) (x : PV) (k : Res → Option Res) : JM tau Jp2 Try.f140 (Try.f140.body.get!) JdL [.ro] 0 [.ow 29 0 [] 0 0 none, .sc (.int .i64 0), .ow 29 1 [] 0 1 (some 1)] [.vec false 29 nl [], .vec false 29 false [x]] k = JvV f nl x k := by kernel_rfl
theorem Jr8 (f : Nat) : Jg (Try.f140.body.get!) JdL = [] := by kernel_rfl
theorem Jr9 (f : Nat) : ∀ q ∈ Jg (Try.f140.body.get!) JdL, q.Ok tau Try.prog 2 := by
  rw [Jr8 f]; intro q hq; cases hq
theorem Jsa : Try.prog.funcs[140]? = some Try.f140 := by kernel_rfl
theorem Jsb : Try.f140.body = some (Try.f140.body.get!) := by kernel_rfl
-- FN slices.Insert[[][]byte,[]byte]
theorem JvX (els : List PV) (n : Nat) (hn : els.length = n + 1) (hb : n ≤ 1000000000) (c : Nat) (hc : n + 1 ≤ c) (x : PV) :
    ∃ r, Jr3 0 false (els ++ List.replicate (c - (n + 1)) .top) n c x some = some r ∧ ∃ p0 p1, r = ⟨.ro 29 false false (x :: els), [p0, p1], []⟩ := by
  have h1 : IntKind.i64.wrap (zi (n + 1) + zi 1) = ((n + 2 : Nat) : Int) := by simp only [zi]; rw [wrap_i64 (by omega) (by omega)]; omega
  have h2 : IntKind.i64.wrap (((n + 2 : Nat) : Int) - 0) = ((n + 2 : Nat) : Int) := by rw [wrap_i64 (by omega) (by omega)]; omega
  have h3 : (((n + 2 : Nat) : Int)).toNat = n + 2 := by omega
  have hL : (els ++ List.replicate (c - (n + 1)) PV.top).length = c := by simp; omega
  have hB : ∀ a b, a < b → Nat.blt a b = true := fun a b h => by rw [Nat.blt, Nat.ble_eq]; exact h
  unfold Jr3
  simp only [h1, h2, h3, Option.getD_some, Option.getD_none, Nat.sub_zero, Nat.zero_add, List.nil_append]
  have hbt : ∀ {c : Bool} {a b : Option Res} (h : c = true), (bif c then a else b) = a := fun h => Jc h
  by_cases hg : c < n + 2
  · obtain rfl : c = n + 1 := by omega
    have e0 : n + 1 - (n + 1) = 0 := by omega
    simp only [e0, List.replicate_zero, List.append_nil, List.length_append, List.length_take, List.length_drop, List.length_replicate, List.length_cons, List.length_nil]
    have t1 : List.take (n + 2) [x] = [x] := List.take_of_length_le (by simp)
    have t2 : List.take (n + 1) els = els := List.take_of_length_le (by omega)
    have t3 : List.take 1 ([x] ++ List.drop (min 1 (n + 2)) (List.replicate (n + 2) (PV.ro 5 true true []))) = [x] := by simp
    have hr : Jn (n + 2) 24 = true := by simp [Jn]; omega
    refine ⟨_, (hbt (by simp <;> omega)).trans ((hbt (by simp [zi] <;> omega)).trans ((hbt (by simp only [hr]; simp <;> omega)).trans ((hbt (by simp)).trans ((hbt (by simp <;> omega)).trans ((hbt (by simp <;> omega)).trans rfl))))), ?_⟩
    simp only [t1, t2, t3, hn]
    have t4 : List.take (n + 2 - 1) els = els := List.take_of_length_le (by omega)
    have t5 : List.drop (1 + min (min (n + 1) (n + 1)) (n + 2 - 1)) ([x] ++ List.drop (min 1 (n + 2)) (List.replicate (n + 2) (PV.ro 5 true true []))) = [] := List.drop_eq_nil_iff.2 (by simp; omega)
    rw [t4, t5]
    have t6 : List.take (n + 2) ([x] ++ els ++ []) = x :: els := by rw [List.take_of_length_le (by simp; omega)]; simp
    rw [t6]
    exact ⟨_, _, rfl⟩
  · have t1 : List.take (n + 2 - 1) (List.take (n + 2) (els ++ List.replicate (c - (n + 1)) PV.top)) = els := by
      rw [List.take_take, show min (n + 2 - 1) (n + 2) = els.length from by omega, List.take_left']
      rfl
    have t2 : (List.take (n + 2) (els ++ List.replicate (c - (n + 1)) PV.top)).length = n + 2 := by rw [List.length_take]; omega
    have t3 : List.take (n + 2) [x] = [x] := List.take_of_length_le (by simp)
    refine ⟨_, (hbt (by simp; omega)).trans ((JK (by simp [zi]; omega)).trans ((hbt (by simp; omega)).trans ((hbt (by simp; omega)).trans ((hbt (by rw [hB _ _ (by omega)]; rfl)).trans ((hbt (by simp; omega)).trans ((hbt (by simp; omega)).trans ((hbt (by simp; omega)).trans rfl))))))), ?_⟩
    simp only [t1, t2, t3]
    have hT : ∀ R : List PV, List.take (n + 2) ([x] ++ List.drop (min 1 (n + 2)) (List.take 1 (els ++ List.replicate (c - (n + 1)) PV.top) ++ els ++ R)) = x :: els := by
      intro R
      have hone : (List.take 1 (els ++ List.replicate (c - (n + 1)) PV.top)).length = 1 := by rw [List.length_take]; omega
      rw [show min 1 (n + 2) = 1 from by omega, List.append_assoc, List.drop_left' hone, ← List.append_assoc, List.take_left' (by simp; omega)]
      rfl
    rw [hT]
    exact ⟨_, _, rfl⟩
def JdM : List PV → List Ent → (Res → Option Res) → Option Res
  | [.ow 29 0 [] 0 m none, .sc (.int .i64 0), .ow 29 1 [] 0 1 (some 1)], [.vec false 29 false els, .vec false 29 false [x]], k => bif decide (m = els.length) && decide (els.length ≤ 1000000000) then k ⟨.ro 29 false false (x :: els), [.dead, .dead], []⟩ else none
  | [.ro 29 true true [], .sc (.int .i64 0), .ow 29 0 [] 0 1 (some 1)], [.vec false 29 false [x]], k => k ⟨.ro 29 false false [x], [.vec false 29 false [x]], []⟩
  | _, _, _ => none
def Jp3 : Sig := { own := [true, false, true], run := JdM }
theorem Jla : tau.isPtr 29 = false := by kernel_rfl
theorem Jsc : Ji tau Try.prog 140 Jp3 := Ji.mk' fun xs es k res hl hr => by
  change JdM xs es k = some res at hr
  unfold JdM at hr
  split at hr
  · rename_i m els x
    obtain ⟨hc, hr2⟩ := JL hr
    simp only [Bool.and_eq_true, decide_eq_true_eq] at hc
    obtain ⟨rfl, hb⟩ := hc
    by_cases h0 : els = []
    · subst h0
      have h1 := (JvW 0 false x some)
      have h2 := QQ Jr Jk9 Js Jsa Jsb JdL [.ro] 2 0 (Jr9 0) hl rfl h1
      obtain ⟨r0, hr0, hc0⟩ := h2
      obtain rfl := Option.some.inj hr0
      refine ⟨_, hr2, fun im ow w us hus hi => (hc0 im ow w us hus hi).mono fun e w' hR => ?_⟩
      obtain ⟨u, im', ow', he, hv, G⟩ := hR
      refine ⟨u, im', ow', he, hv, ?_⟩
      have K := Good.kill (i := 1) (e := .vec false 29 false [x]) G.inv rfl
      have e1 : JP (JH [Ent.dead, .vec false 29 false [x]] []) 1 .dead = JH [.dead, .dead] [] := by
        funext i
        match i with
        | 0 => rfl
        | 1 => rfl
        | i + 2 => simp [JP, JH]
      rw [e1] at K
      exact G.trans K
    · obtain ⟨n, hn⟩ : ∃ n, els.length = n + 1 := ⟨els.length - 1, by have : 0 < els.length := List.length_pos_iff.2 h0; omega⟩
      refine Jrn Jr (by omega) Jla Jla hr2 fun c hc => ?_
      obtain ⟨r, hg, p0, p1, rfl⟩ := JvX els n hn (by omega) c (by omega) x
      rw [hn]
      generalize els ++ List.replicate (c - (n + 1)) PV.top = L at hg ⊢
      refine ⟨p0, p1, ?_⟩
      have h1 := (Jz1 0 false L n c x some).trans hg
      exact QQ Jr JnD Js JpZ Jp0 Jiy [.ro] 2 0 (JvR 0) hl rfl h1
  · rename_i x
    exact QQ Jr Jk8 Js Jr6 Jr7 JdK [.ro] 1 0 (Jr5 0) hl rfl ((JvU 0 x k).trans hr)
  · cases hr
noncomputable def JvY : Fns := F0
theorem JnE : Jz tau Try.prog JvY := JG
def JnF : Nm := [(0, .any), (2, .any), (3, .any), (5, .any)]
def Jsd : An := (.seq .leaf (.seq (.cond .leaf .leaf) (.seq (.block none (.seq .leaf .leaf)) .leaf)))
def Jiz : An := (.seq .leaf (.seq .leaf (.seq (.seq .leaf (.block none (.loop JnF Jsd))) (.seq .leaf .leaf))))
noncomputable def JvZ (f : Nat) (x : Int) (k : Res → Option Res) : Option Res := k (Res.mk (.ar 190 [.sc (.int .u8 x), .sc (.int .u8 x), .sc (.int .u8 x), .sc (.int .u8 x), .sc (.int .u8 x), .sc (.int .u8 x), .sc (.int .u8 x), .sc (.int .u8 x), .sc (.int .u8 x), .sc (.int .u8 x), .sc (.int .u8 x), .sc (.int .u8 x), .sc (.int .u8 x), .sc (.int .u8 x), .sc (.int .u8 x), .sc (.int .u8 x), .sc (.int .u8 x), .sc (.int .u8 x), .sc (.int .u8 x), .sc (.int .u8 x), .sc (.int .u8 x), .sc (.int .u8 x), .sc (.int .u8 x), .sc (.int .u8 x), .sc (.int .u8 x), .sc (.int .u8 x), .sc (.int .u8 x), .sc (.int .u8 x), .sc (.int .u8 x), .sc (.int .u8 x), .sc (.int .u8 x), .sc (.int .u8 x), .sc (.int .u8 x), .sc (.int .u8 x), .sc (.int .u8 x), .sc (.int .u8 x), .sc (.int .u8 x), .sc (.int .u8 x), .sc (.int .u8 x), .sc (.int .u8 x), .sc (.int .u8 x), .sc (.int .u8 x), .sc (.int .u8 x), .sc (.int .u8 x), .sc (.int .u8 x), .sc (.int .u8 x), .sc (.int .u8 x), .sc (.int .u8 x), .sc (.int .u8 x), .sc (.int .u8 x), .sc (.int .u8 x), .sc (.int .u8 x), .sc (.int .u8 x), .sc (.int .u8 x), .sc (.int .u8 x), .sc (.int .u8 x), .sc (.int .u8 x), .sc (.int .u8 x), .sc (.int .u8 x), .sc (.int .u8 x), .sc (.int .u8 x), .sc (.int .u8 x), .sc (.int .u8 x), .sc (.int .u8 x)]) [] [])
theorem Jz2 (f : Nat) (x : Int) (k : Res → Option Res) : JM tau JvY Try.f159 (Try.f159.body.get!) Jiz [.ro] 70 [.sc (.int .u8 x)] [] k = JvZ f x k := by kernel_rfl
theorem Jv0 (f : Nat) : Jg (Try.f159.body.get!) Jiz = [] := by kernel_rfl
theorem Jv1 (f : Nat) : ∀ q ∈ Jg (Try.f159.body.get!) Jiz, q.Ok tau Try.prog 0 := by
  rw [Jv0 f]; intro q hq; cases hq
theorem Jp4 : Try.prog.funcs[159]? = some Try.f159 := by kernel_rfl
theorem Jp5 : Try.f159.body = some (Try.f159.body.get!) := by kernel_rfl
theorem Jv2 : Enters Try.prog 159 := enters_of Jp4 (by kernel_rfl) Jp5
noncomputable def Jg4 : List PV → List Ent → (Res → Option Res) → Option Res
  | [.sc (.int .u8 x)], [], k => JvZ 0 x k
  | _, _, _ => none
noncomputable def Jv3 : Sig := { own := [], run := Jg4 }
theorem Jv4 : Ji tau Try.prog 159 Jv3 := JS Jr JnE Js Jp4 Jp5 Jiz [.ro] 0 [] Jg4 (Jv1 0) fun xs es k res hr => by
  unfold Jg4 at hr
  split at hr
  · exact ⟨rfl, 70, (Jz2 0 _  _).trans hr⟩
  · cases hr
def Jb2 : Nat := 26
noncomputable def Jlb : Fns := JD 159 Jv3 (F0)
theorem JiA : Jz tau Try.prog Jlb := (JG).add Jv4 Jv2
noncomputable def GE : Code := QB (Try.f141.body.get!) [1, 1, 1, 0, 1, 0, 0]
def WK : Nm := [(2, .any), (5, .any), (13, .any)]
def Xl : Nm := [(5, .any)]
def Jbp : An := (.seq .leaf (.seq (.cond .leaf .leaf) (.seq (.block none (.seq .leaf .leaf)) .leaf)))
def JiB (r0 : QZ) : An := (.seq .leaf (.seq .leaf (.seq (.seq .leaf (.cond (.seq .leaf .leaf) .leaf)) (.seq (.seq .leaf (.block none (.sum WK Jb2 r0))) (.seq .leaf .leaf)))))
noncomputable def Zf (f : Nat) (rc : Int → List PV → List PV → Option Res) (k0 : List PV → Option Res) (v0 : Int) (v1 : List PV) (v2 : List PV) : Option Res := bif decide (v0 < 64) then bif decide (0 ≤ v0) && decide (v0 < zi 64) && true then bif PV.isInt IntKind.u8 (Jj (PV.ar 190 v2) [v0.toNat]) && true then bif decide (0 ≤ v0) && decide (v0 < zi 64) && true then bif PV.isInt IntKind.u8 (Jj (PV.ar 190 v1) [v0.toNat]) && true then bif decide (0 ≤ v0) && decide (v0 < zi 64) && true then rc (IntKind.i64.wrap (v0 + 1)) v1 (v2.set v0.toNat (.sc (.int .u8 (JC BinOp.xor IntKind.u8 (Jj (PV.ar 190 v2) [v0.toNat]).int (Jj (PV.ar 190 v1) [v0.toNat]).int)))) else none else none else none else none else none else k0 v2
noncomputable def Xm (f : Nat) (k0 : List PV → Option Res) : Nat → Int → List PV → List PV → Option Res
  | 0, _, _, _ => none
  | n + 1, v0, v1, v2 => Zf f (Xm f k0 n) k0 v0 v1 v2
theorem Jlc (f : Nat) (k : Kont) (n : Nat) (v0 : Int) (v1 : List PV) (v2 : List PV) : Jo tau 0 WK (fun s k => ev tau Jlb 0 0 GE (Jbp ) s k) (n + 1) (Je WK Jb2 [.ptr 432 [], .ptr 433 [], .sc (.int .i64 v0)] [(432, .box false 190 (PV.ar 190 v1)), (433, .box false 190 (PV.ar 190 v2))]) (Jv tau 0 Xl k) = Zf f (fun v0 v1 v2 => Jo tau 0 WK (fun s k => ev tau Jlb 0 0 GE (Jbp ) s k) n (Je WK Jb2 [.ptr 432 [], .ptr 433 [], .sc (.int .i64 v0)] [(432, .box false 190 (PV.ar 190 v1)), (433, .box false 190 (PV.ar 190 v2))]) (Jv tau 0 Xl k)) (fun x0 => k (Ex.exit 0) (Je Xl Jb2 [.ptr 432 []] [(432, .box false 190 (PV.ar 190 x0))])) v0 v1 v2 := by kernel_rfl
theorem Jfk (f : Nat) (k : Kont) : ∀ (n : Nat) (v0 : Int) (v1 : List PV) (v2 : List PV), Jo tau 0 WK (fun s k => ev tau Jlb 0 0 GE (Jbp ) s k) n (Je WK Jb2 [.ptr 432 [], .ptr 433 [], .sc (.int .i64 v0)] [(432, .box false 190 (PV.ar 190 v1)), (433, .box false 190 (PV.ar 190 v2))]) (Jv tau 0 Xl k) = Xm f (fun x0 => k (Ex.exit 0) (Je Xl Jb2 [.ptr 432 []] [(432, .box false 190 (PV.ar 190 x0))])) n v0 v1 v2 | 0, _, _, _ => rfl | n + 1, v0, v1, v2 => (Jlc f k n v0 v1 v2).trans (congrArg (fun r => Zf f r (fun x0 => k (Ex.exit 0) (Je Xl Jb2 [.ptr 432 []] [(432, .box false 190 (PV.ar 190 x0))])) v0 v1 v2) (by funext v0 v1 v2; exact Jfk f k n v0 v1 v2))
noncomputable def Va (f : Nat) : List PV → List (Nat × Ent) → Kont → Option Res
  | [.ptr 432 [], .ptr 433 [],
  PV.sc
    (Value.int IntKind.i64
      v0)], [(432, .box false 190 (PV.ar 190 v1)),
  (433, .box false 190 (PV.ar 190 v2))], k => Xm f (fun x0 => k (Ex.exit 0) (Je Xl Jb2 [.ptr 432 []] [(432, .box false 190 (PV.ar 190 x0))])) f v0 v1 v2
  | _, _, _ => none
theorem JnG (f : Nat) : Jg GE Jbp = [] := by kernel_rfl
theorem Jse (f : Nat) : (Item.l GE WK Jb2 (Va f)).Ok tau Try.prog 0 := JI Jr JiA Js (x := Jbp) (nm2 := Xl) (Jp _ _ (by rw [JnG f]; intro q hq; cases hq)) fun vs hp k res hr => by
  unfold Va at hr
  split at hr
  · exact ⟨f, 0, (Jfk f _ f _ _ _ ).trans hr⟩
  · cases hr
noncomputable def JnH (f : Nat) (k1 : List PV) (x : Int) (k : Res → Option Res) : Option Res := bif decide (k1.length = 64) && true && Jh IntKind.u8 k1 && true && true then bif Qp k1 [.sc (.int .u8 0), .sc (.int .u8 0), .sc (.int .u8 0), .sc (.int .u8 0), .sc (.int .u8 0), .sc (.int .u8 0), .sc (.int .u8 0), .sc (.int .u8 0), .sc (.int .u8 0), .sc (.int .u8 0), .sc (.int .u8 0), .sc (.int .u8 0), .sc (.int .u8 0), .sc (.int .u8 0), .sc (.int .u8 0), .sc (.int .u8 0), .sc (.int .u8 0), .sc (.int .u8 0), .sc (.int .u8 0), .sc (.int .u8 0), .sc (.int .u8 0), .sc (.int .u8 0), .sc (.int .u8 0), .sc (.int .u8 0), .sc (.int .u8 0), .sc (.int .u8 0), .sc (.int .u8 0), .sc (.int .u8 0), .sc (.int .u8 0), .sc (.int .u8 0), .sc (.int .u8 0), .sc (.int .u8 0), .sc (.int .u8 0), .sc (.int .u8 0), .sc (.int .u8 0), .sc (.int .u8 0), .sc (.int .u8 0), .sc (.int .u8 0), .sc (.int .u8 0), .sc (.int .u8 0), .sc (.int .u8 0), .sc (.int .u8 0), .sc (.int .u8 0), .sc (.int .u8 0), .sc (.int .u8 0), .sc (.int .u8 0), .sc (.int .u8 0), .sc (.int .u8 0), .sc (.int .u8 0), .sc (.int .u8 0), .sc (.int .u8 0), .sc (.int .u8 0), .sc (.int .u8 0), .sc (.int .u8 0), .sc (.int .u8 0), .sc (.int .u8 0), .sc (.int .u8 0), .sc (.int .u8 0), .sc (.int .u8 0), .sc (.int .u8 0), .sc (.int .u8 0), .sc (.int .u8 0), .sc (.int .u8 0), .sc (.int .u8 0)] then k (Res.mk (.ro 5 false false [.sc (.int .u8 x), .sc (.int .u8 x), .sc (.int .u8 x), .sc (.int .u8 x), .sc (.int .u8 x), .sc (.int .u8 x), .sc (.int .u8 x), .sc (.int .u8 x), .sc (.int .u8 x), .sc (.int .u8 x), .sc (.int .u8 x), .sc (.int .u8 x), .sc (.int .u8 x), .sc (.int .u8 x), .sc (.int .u8 x), .sc (.int .u8 x), .sc (.int .u8 x), .sc (.int .u8 x), .sc (.int .u8 x), .sc (.int .u8 x), .sc (.int .u8 x), .sc (.int .u8 x), .sc (.int .u8 x), .sc (.int .u8 x), .sc (.int .u8 x), .sc (.int .u8 x), .sc (.int .u8 x), .sc (.int .u8 x), .sc (.int .u8 x), .sc (.int .u8 x), .sc (.int .u8 x), .sc (.int .u8 x), .sc (.int .u8 x), .sc (.int .u8 x), .sc (.int .u8 x), .sc (.int .u8 x), .sc (.int .u8 x), .sc (.int .u8 x), .sc (.int .u8 x), .sc (.int .u8 x), .sc (.int .u8 x), .sc (.int .u8 x), .sc (.int .u8 x), .sc (.int .u8 x), .sc (.int .u8 x), .sc (.int .u8 x), .sc (.int .u8 x), .sc (.int .u8 x), .sc (.int .u8 x), .sc (.int .u8 x), .sc (.int .u8 x), .sc (.int .u8 x), .sc (.int .u8 x), .sc (.int .u8 x), .sc (.int .u8 x), .sc (.int .u8 x), .sc (.int .u8 x), .sc (.int .u8 x), .sc (.int .u8 x), .sc (.int .u8 x), .sc (.int .u8 x), .sc (.int .u8 x), .sc (.int .u8 x), .sc (.int .u8 x)]) [] []) else Xm f (fun x0_0 => k (Res.mk (.ro 5 false false (List.take 64 x0_0)) [] [])) f (0) k1 ([.sc (.int .u8 x), .sc (.int .u8 x), .sc (.int .u8 x), .sc (.int .u8 x), .sc (.int .u8 x), .sc (.int .u8 x), .sc (.int .u8 x), .sc (.int .u8 x), .sc (.int .u8 x), .sc (.int .u8 x), .sc (.int .u8 x), .sc (.int .u8 x), .sc (.int .u8 x), .sc (.int .u8 x), .sc (.int .u8 x), .sc (.int .u8 x), .sc (.int .u8 x), .sc (.int .u8 x), .sc (.int .u8 x), .sc (.int .u8 x), .sc (.int .u8 x), .sc (.int .u8 x), .sc (.int .u8 x), .sc (.int .u8 x), .sc (.int .u8 x), .sc (.int .u8 x), .sc (.int .u8 x), .sc (.int .u8 x), .sc (.int .u8 x), .sc (.int .u8 x), .sc (.int .u8 x), .sc (.int .u8 x), .sc (.int .u8 x), .sc (.int .u8 x), .sc (.int .u8 x), .sc (.int .u8 x), .sc (.int .u8 x), .sc (.int .u8 x), .sc (.int .u8 x), .sc (.int .u8 x), .sc (.int .u8 x), .sc (.int .u8 x), .sc (.int .u8 x), .sc (.int .u8 x), .sc (.int .u8 x), .sc (.int .u8 x), .sc (.int .u8 x), .sc (.int .u8 x), .sc (.int .u8 x), .sc (.int .u8 x), .sc (.int .u8 x), .sc (.int .u8 x), .sc (.int .u8 x), .sc (.int .u8 x), .sc (.int .u8 x), .sc (.int .u8 x), .sc (.int .u8 x), .sc (.int .u8 x), .sc (.int .u8 x), .sc (.int .u8 x), .sc (.int .u8 x), .sc (.int .u8 x), .sc (.int .u8 x), .sc (.int .u8 x)]) else none
theorem Jz3 (f : Nat) (k1 : List PV) (x : Int) (k : Res → Option Res) : JM tau Jlb Try.f141 (Try.f141.body.get!) (JiB (Va f)) [.ro] 0 [.ar 190 k1, .sc (.int .u8 x)] [] k = JnH f k1 x k := by kernel_rfl
theorem Jv5 (f : Nat) : Jg (Try.f141.body.get!) (JiB (Va f)) = [.l GE WK Jb2 (Va f)] := by kernel_rfl
theorem Jv6 (f : Nat) : ∀ q ∈ Jg (Try.f141.body.get!) (JiB (Va f)), q.Ok tau Try.prog 0 := by
  rw [Jv5 f]; simp only [List.forall_mem_cons, List.not_mem_nil, false_implies, implies_true, and_true]; exact Jse f
theorem Jp6 : Try.prog.funcs[141]? = some Try.f141 := by kernel_rfl
theorem Jp7 : Try.f141.body = some (Try.f141.body.get!) := by kernel_rfl
theorem Jv7 : Enters Try.prog 141 := enters_of Jp6 (by kernel_rfl) Jp7
-- FN (hmac.block).turned
def JT (l : List Int) (x : Int) : List Int := l.map fun b => JC .xor .u8 b x
@[simp] theorem Jfl (l : List Int) (x : Int) : (JT l x).length = l.length := by simp [JT]
theorem Jfm (K : List Int) (hK : K.length = 64) (x : Int) : (List.range 64).map (fun j => JC .xor .u8 x (K.getD j 0)) = JT K x := by
  apply List.ext_getElem
  · simp [hK]
  · intro i h1 h2
    have h1' : i < K.length := by simpa using h2
    simp only [List.getElem_map, List.getElem_range, JT]
    rw [ZU, List.getD_eq_getElem?_getD, List.getElem?_eq_getElem h1']; rfl
theorem Jld (K : List Int) (hK : K.length = 64) (x : Int) (f : Nat) (k0 : List PV → Option Res) : ∀ (d i n : Nat), i + d = 64 → d < n →
    Xm f k0 n (i : Int) (pu .u8 K) (pu .u8 (Qz (fun j => JC .xor .u8 x (K.getD j 0)) (List.replicate 64 x) i)) = k0 (pu .u8 (JT K x))
  | 0, i, n + 1, h, hn => by
      obtain rfl : i = 64 := by omega
      simp only [Xm, Zf]
      refine (JK (by decide)).trans ?_
      have := Q0 (fun j => JC .xor .u8 x (K.getD j 0)) (List.replicate 64 x)
      rw [List.length_replicate] at this
      rw [this, Jfm K hK]
  | d + 1, i, n + 1, h, hn => by
      have g1 : ((i : Int)).toNat = i := by omega
      have h1 : IntKind.i64.wrap ((i : Int) + 1) = ((i + 1 : Nat) : Int) := by rw [wrap_i64 (by omega) (by omega)]; omega
      have c0 : (decide (0 ≤ (i : Int)) && decide ((i : Int) < zi 64) && true) = true := by simp; omega
      have hF := X6 (fun j => JC .xor .u8 x (K.getD j 0)) (List.replicate 64 x) i (by simp; omega)
      rw [List.length_replicate] at hF
      simp only [Xm, Zf, g1, h1, WE]
      rw [JV (by omega), JV (by omega), Qn (by omega), Qn (by omega), GB _ _ _ (by simp; omega), Wm]
      refine (Jc (by simp; omega)).trans ((Jc c0).trans ((Jc rfl).trans ((Jc c0).trans ((Jc rfl).trans ((Jc c0).trans ?_)))))
      have := Jld K hK x f k0 d (i + 1) n (by omega) (by omega)
      rw [← Qs _ _ i (by simp; omega)] at this
      rw [show (List.replicate 64 x).getD i 0 = x from by rw [List.getD_eq_getElem?_getD, List.getElem?_replicate, if_pos (by omega)]; rfl]
      exact this
theorem Jv8 : JT (List.replicate 64 0) 54 = List.replicate 64 54 ∧ JT (List.replicate 64 0) 92 = List.replicate 64 92 := by
  have h1 : JC .xor .u8 0 54 = 54 := by decide
  have h2 : JC .xor .u8 0 92 = 92 := by decide
  simp only [JT, List.map_replicate, h1, h2, and_self]
theorem JjR (l : List PV) (x : Int) (k : Res → Option Res) : JnH 70 l x k =
    (bif decide (l.length = 64) && true && Jh IntKind.u8 l && true && true then
      (bif Qp l (pu .u8 (List.replicate 64 0)) then k ⟨.ro 5 false false (pu .u8 (List.replicate 64 x)), [], []⟩
      else Xm 70 (fun x0_0 => k (Res.mk (PV.ro 5 false false (List.take 64 x0_0)) [] [])) 70 0 l (pu .u8 (List.replicate 64 x)))
    else none) := by kernel_rfl
theorem JnI (K : List Int) (hK : K.length = 64) (x : Int) (hx : x = 54 ∨ x = 92) (k : Res → Option Res) : JnH 70 (pu .u8 K) x k = k ⟨.ro 5 false false (pu .u8 (JT K x)), [], []⟩ := by
  have h0 := Jld K hK x 70 (fun x0_0 => k (Res.mk (PV.ro 5 false false (List.take 64 x0_0)) [] [])) 64 0 70 (by omega) (by omega)
  rw [QF, List.take_of_length_le (by simp [hK])] at h0
  rw [JjR, Jc (by simp [hK]), WW]
  by_cases hk : K = List.replicate 64 0
  · have h1 : JT K x = List.replicate 64 x := by
      rw [hk]
      rcases hx with h | h
      · rw [h]; exact Jv8.1
      · rw [h]; exact Jv8.2
    rw [Jc (beq_iff_eq.2 hk), h1]
  · rw [JK (beq_eq_false_iff_ne.2 hk)]
    exact h0
def JdN : List PV → List Ent → (Res → Option Res) → Option Res
  | [.ar 190 l, .sc (.int .u8 x)], [], k => bif Jh .u8 l && decide (l.length = 64) && (x == 54 || x == 92) then k ⟨.ro 5 false false (pu .u8 (JT (Jd l) x)), [], []⟩ else none
  | _, _, _ => none
def Jp8 : Sig := { own := [], run := JdN }
theorem Jsf : Ji tau Try.prog 141 Jp8 := Ji.mk' fun xs es k res hl hr => by
  change JdN xs es k = some res at hr
  unfold JdN at hr
  split at hr
  · rename_i l x
    obtain ⟨hc, hr2⟩ := JL hr
    simp only [Bool.and_eq_true, decide_eq_true_eq, Bool.or_eq_true, beq_iff_eq] at hc
    have hp := Qb hc.1.1
    have h2 : JnH 70 l x k = some res := by
      rw [hp, JnI _ (by simpa using hc.1.2) x hc.2]; exact hr2
    have h1 := (Jz3 70 l x k).trans h2
    exact QQ Jr JiA Js Jp6 Jp7 (JiB (Va 70)) [.ro] 0 0 (Jv6 70) hl rfl h1
  · cases hr
noncomputable abbrev z80 : List PV := [PV.sc (.int .u8 0), PV.sc (.int .u8 0), PV.sc (.int .u8 0), PV.sc (.int .u8 0), PV.sc (.int .u8 0), PV.sc (.int .u8 0), PV.sc (.int .u8 0), PV.sc (.int .u8 0), PV.sc (.int .u8 0), PV.sc (.int .u8 0), PV.sc (.int .u8 0), PV.sc (.int .u8 0), PV.sc (.int .u8 0), PV.sc (.int .u8 0), PV.sc (.int .u8 0), PV.sc (.int .u8 0), PV.sc (.int .u8 0), PV.sc (.int .u8 0), PV.sc (.int .u8 0), PV.sc (.int .u8 0), PV.sc (.int .u8 0), PV.sc (.int .u8 0), PV.sc (.int .u8 0), PV.sc (.int .u8 0), PV.sc (.int .u8 0), PV.sc (.int .u8 0), PV.sc (.int .u8 0), PV.sc (.int .u8 0), PV.sc (.int .u8 0), PV.sc (.int .u8 0), PV.sc (.int .u8 0), PV.sc (.int .u8 0), PV.sc (.int .u8 0), PV.sc (.int .u8 0), PV.sc (.int .u8 0), PV.sc (.int .u8 0), PV.sc (.int .u8 0), PV.sc (.int .u8 0), PV.sc (.int .u8 0), PV.sc (.int .u8 0), PV.sc (.int .u8 0), PV.sc (.int .u8 0), PV.sc (.int .u8 0), PV.sc (.int .u8 0), PV.sc (.int .u8 0), PV.sc (.int .u8 0), PV.sc (.int .u8 0), PV.sc (.int .u8 0), PV.sc (.int .u8 0), PV.sc (.int .u8 0), PV.sc (.int .u8 0), PV.sc (.int .u8 0), PV.sc (.int .u8 0), PV.sc (.int .u8 0), PV.sc (.int .u8 0), PV.sc (.int .u8 0), PV.sc (.int .u8 0), PV.sc (.int .u8 0), PV.sc (.int .u8 0), PV.sc (.int .u8 0), PV.sc (.int .u8 0), PV.sc (.int .u8 0), PV.sc (.int .u8 0), PV.sc (.int .u8 0)]
noncomputable def F80 : Fns := JD 141 Jp8 (JD 140 Jp3 (JD 136 JvN (JD 27 JvG (F0))))
theorem Jsg : Jz tau Try.prog F80 := ((((JG).add JvH JzZ).add JvO JvM).add Jsc JvS).add Jsf Jv7
def JnJ : An := (.seq .leaf (.seq (.seq .leaf (.cond (.seq .leaf .leaf) .leaf)) (.seq .leaf (.seq .leaf (.seq .leaf (.seq .leaf .leaf))))))
noncomputable def g80 (f : Nat) (key_z : Bool) (key_f : Bool) (key : List PV) (parts_z : Bool) (parts_f : Bool) (parts : List PV) (k : Res → Option Res) : Option Res := bif decide (zi key.length > 64) then bif Jh IntKind.u8 (Jm [PV.ro 5 key_z key_f key]) && decide ((Jm [PV.ro 5 key_z key_f key]).length ≤ 140737488355000) then bif parts_z then bif Jh IntKind.u8 (List.take 64 (List.take 32 (pu IntKind.u8 (JA (Jd (Jm [PV.ro 5 key_z key_f key]))))) ++ List.drop (0 + min (List.take 32 (pu IntKind.u8 (JA (Jd (Jm [PV.ro 5 key_z key_f key]))))).length 64) z80) && decide ((List.take 64 (List.take 32 (pu IntKind.u8 (JA (Jd (Jm [PV.ro 5 key_z key_f key]))))) ++ List.drop (0 + min (List.take 32 (pu IntKind.u8 (JA (Jd (Jm [PV.ro 5 key_z key_f key]))))).length 64) z80).length = 64) && true then bif Jh IntKind.u8 (Jm [PV.ro 5 false false (pu IntKind.u8 (JT (Jd (List.take 64 (List.take 32 (pu IntKind.u8 (JA (Jd (Jm [PV.ro 5 key_z key_f key]))))) ++ List.drop (0 + min (List.take 32 (pu IntKind.u8 (JA (Jd (Jm [PV.ro 5 key_z key_f key]))))).length 64) z80)) 54))]) && decide ((Jm [PV.ro 5 false false (pu IntKind.u8 (JT (Jd (List.take 64 (List.take 32 (pu IntKind.u8 (JA (Jd (Jm [PV.ro 5 key_z key_f key]))))) ++ List.drop (0 + min (List.take 32 (pu IntKind.u8 (JA (Jd (Jm [PV.ro 5 key_z key_f key]))))).length 64) z80)) 54))]).length ≤ 140737488355000) then bif Jh IntKind.u8 (List.take 64 (List.take 32 (pu IntKind.u8 (JA (Jd (Jm [PV.ro 5 key_z key_f key]))))) ++ List.drop (0 + min (List.take 32 (pu IntKind.u8 (JA (Jd (Jm [PV.ro 5 key_z key_f key]))))).length 64) z80) && decide ((List.take 64 (List.take 32 (pu IntKind.u8 (JA (Jd (Jm [PV.ro 5 key_z key_f key]))))) ++ List.drop (0 + min (List.take 32 (pu IntKind.u8 (JA (Jd (Jm [PV.ro 5 key_z key_f key]))))).length 64) z80).length = 64) && true then bif Jh IntKind.u8 (Jm [PV.ro 5 false false (pu IntKind.u8 (JT (Jd (List.take 64 (List.take 32 (pu IntKind.u8 (JA (Jd (Jm [PV.ro 5 key_z key_f key]))))) ++ List.drop (0 + min (List.take 32 (pu IntKind.u8 (JA (Jd (Jm [PV.ro 5 key_z key_f key]))))).length 64) z80)) 92)), PV.ro 5 false false (List.take 32 (pu IntKind.u8 (JA (Jd (Jm [PV.ro 5 false false (pu IntKind.u8 (JT (Jd (List.take 64 (List.take 32 (pu IntKind.u8 (JA (Jd (Jm [PV.ro 5 key_z key_f key]))))) ++ List.drop (0 + min (List.take 32 (pu IntKind.u8 (JA (Jd (Jm [PV.ro 5 key_z key_f key]))))).length 64) z80)) 54))])))))]) && decide ((Jm [PV.ro 5 false false (pu IntKind.u8 (JT (Jd (List.take 64 (List.take 32 (pu IntKind.u8 (JA (Jd (Jm [PV.ro 5 key_z key_f key]))))) ++ List.drop (0 + min (List.take 32 (pu IntKind.u8 (JA (Jd (Jm [PV.ro 5 key_z key_f key]))))).length 64) z80)) 92)), PV.ro 5 false false (List.take 32 (pu IntKind.u8 (JA (Jd (Jm [PV.ro 5 false false (pu IntKind.u8 (JT (Jd (List.take 64 (List.take 32 (pu IntKind.u8 (JA (Jd (Jm [PV.ro 5 key_z key_f key]))))) ++ List.drop (0 + min (List.take 32 (pu IntKind.u8 (JA (Jd (Jm [PV.ro 5 key_z key_f key]))))).length 64) z80)) 54))])))))]).length ≤ 140737488355000) then k (Res.mk (PV.ar 37 (pu IntKind.u8 (JA (Jd (Jm [PV.ro 5 false false (pu IntKind.u8 (JT (Jd (List.take 64 (List.take 32 (pu IntKind.u8 (JA (Jd (Jm [PV.ro 5 key_z key_f key]))))) ++ List.drop (0 + min (List.take 32 (pu IntKind.u8 (JA (Jd (Jm [PV.ro 5 key_z key_f key]))))).length 64) z80)) 92)), PV.ro 5 false false (List.take 32 (pu IntKind.u8 (JA (Jd (Jm [PV.ro 5 false false (pu IntKind.u8 (JT (Jd (List.take 64 (List.take 32 (pu IntKind.u8 (JA (Jd (Jm [PV.ro 5 key_z key_f key]))))) ++ List.drop (0 + min (List.take 32 (pu IntKind.u8 (JA (Jd (Jm [PV.ro 5 key_z key_f key]))))).length 64) z80)) 54))])))))]))))) [] []) else none else none else none else none else bif Jn (0 + parts.length) 24 && true then bif Jh IntKind.u8 (List.take 64 (List.take 32 (pu IntKind.u8 (JA (Jd (Jm [PV.ro 5 key_z key_f key]))))) ++ List.drop (0 + min (List.take 32 (pu IntKind.u8 (JA (Jd (Jm [PV.ro 5 key_z key_f key]))))).length 64) z80) && decide ((List.take 64 (List.take 32 (pu IntKind.u8 (JA (Jd (Jm [PV.ro 5 key_z key_f key]))))) ++ List.drop (0 + min (List.take 32 (pu IntKind.u8 (JA (Jd (Jm [PV.ro 5 key_z key_f key]))))).length 64) z80).length = 64) && true then bif decide (0 + parts.length = parts.length) && decide (parts.length ≤ 1000000000) then bif parts.all (PV.isRo 5) && decide ((PV.ro 5 false false (pu IntKind.u8 (JT (Jd (List.take 64 (List.take 32 (pu IntKind.u8 (JA (Jd (Jm [PV.ro 5 key_z key_f key]))))) ++ List.drop (0 + min (List.take 32 (pu IntKind.u8 (JA (Jd (Jm [PV.ro 5 key_z key_f key]))))).length 64) z80)) 54)) :: parts).length ≤ 140737488355328) && (Jh IntKind.u8 (Jm (PV.ro 5 false false (pu IntKind.u8 (JT (Jd (List.take 64 (List.take 32 (pu IntKind.u8 (JA (Jd (Jm [PV.ro 5 key_z key_f key]))))) ++ List.drop (0 + min (List.take 32 (pu IntKind.u8 (JA (Jd (Jm [PV.ro 5 key_z key_f key]))))).length 64) z80)) 54)) :: parts)) && decide ((Jm (PV.ro 5 false false (pu IntKind.u8 (JT (Jd (List.take 64 (List.take 32 (pu IntKind.u8 (JA (Jd (Jm [PV.ro 5 key_z key_f key]))))) ++ List.drop (0 + min (List.take 32 (pu IntKind.u8 (JA (Jd (Jm [PV.ro 5 key_z key_f key]))))).length 64) z80)) 54)) :: parts)).length ≤ 140737488355000)) then bif Jh IntKind.u8 (List.take 64 (List.take 32 (pu IntKind.u8 (JA (Jd (Jm [PV.ro 5 key_z key_f key]))))) ++ List.drop (0 + min (List.take 32 (pu IntKind.u8 (JA (Jd (Jm [PV.ro 5 key_z key_f key]))))).length 64) z80) && decide ((List.take 64 (List.take 32 (pu IntKind.u8 (JA (Jd (Jm [PV.ro 5 key_z key_f key]))))) ++ List.drop (0 + min (List.take 32 (pu IntKind.u8 (JA (Jd (Jm [PV.ro 5 key_z key_f key]))))).length 64) z80).length = 64) && true then bif Jh IntKind.u8 (Jm [PV.ro 5 false false (pu IntKind.u8 (JT (Jd (List.take 64 (List.take 32 (pu IntKind.u8 (JA (Jd (Jm [PV.ro 5 key_z key_f key]))))) ++ List.drop (0 + min (List.take 32 (pu IntKind.u8 (JA (Jd (Jm [PV.ro 5 key_z key_f key]))))).length 64) z80)) 92)), PV.ro 5 false false (List.take 32 (pu IntKind.u8 (JA (Jd (Jm (PV.ro 5 false false (pu IntKind.u8 (JT (Jd (List.take 64 (List.take 32 (pu IntKind.u8 (JA (Jd (Jm [PV.ro 5 key_z key_f key]))))) ++ List.drop (0 + min (List.take 32 (pu IntKind.u8 (JA (Jd (Jm [PV.ro 5 key_z key_f key]))))).length 64) z80)) 54)) :: parts))))))]) && decide ((Jm [PV.ro 5 false false (pu IntKind.u8 (JT (Jd (List.take 64 (List.take 32 (pu IntKind.u8 (JA (Jd (Jm [PV.ro 5 key_z key_f key]))))) ++ List.drop (0 + min (List.take 32 (pu IntKind.u8 (JA (Jd (Jm [PV.ro 5 key_z key_f key]))))).length 64) z80)) 92)), PV.ro 5 false false (List.take 32 (pu IntKind.u8 (JA (Jd (Jm (PV.ro 5 false false (pu IntKind.u8 (JT (Jd (List.take 64 (List.take 32 (pu IntKind.u8 (JA (Jd (Jm [PV.ro 5 key_z key_f key]))))) ++ List.drop (0 + min (List.take 32 (pu IntKind.u8 (JA (Jd (Jm [PV.ro 5 key_z key_f key]))))).length 64) z80)) 54)) :: parts))))))]).length ≤ 140737488355000) then k (Res.mk (PV.ar 37 (pu IntKind.u8 (JA (Jd (Jm [PV.ro 5 false false (pu IntKind.u8 (JT (Jd (List.take 64 (List.take 32 (pu IntKind.u8 (JA (Jd (Jm [PV.ro 5 key_z key_f key]))))) ++ List.drop (0 + min (List.take 32 (pu IntKind.u8 (JA (Jd (Jm [PV.ro 5 key_z key_f key]))))).length 64) z80)) 92)), PV.ro 5 false false (List.take 32 (pu IntKind.u8 (JA (Jd (Jm (PV.ro 5 false false (pu IntKind.u8 (JT (Jd (List.take 64 (List.take 32 (pu IntKind.u8 (JA (Jd (Jm [PV.ro 5 key_z key_f key]))))) ++ List.drop (0 + min (List.take 32 (pu IntKind.u8 (JA (Jd (Jm [PV.ro 5 key_z key_f key]))))).length 64) z80)) 54)) :: parts))))))]))))) [] []) else none else none else none else none else none else none else none else bif parts_z then bif Jh IntKind.u8 (List.take 64 key ++ List.drop (0 + min key.length 64) z80) && decide ((List.take 64 key ++ List.drop (0 + min key.length 64) z80).length = 64) && true then bif Jh IntKind.u8 (Jm [PV.ro 5 false false (pu IntKind.u8 (JT (Jd (List.take 64 key ++ List.drop (0 + min key.length 64) z80)) 54))]) && decide ((Jm [PV.ro 5 false false (pu IntKind.u8 (JT (Jd (List.take 64 key ++ List.drop (0 + min key.length 64) z80)) 54))]).length ≤ 140737488355000) then bif Jh IntKind.u8 (List.take 64 key ++ List.drop (0 + min key.length 64) z80) && decide ((List.take 64 key ++ List.drop (0 + min key.length 64) z80).length = 64) && true then bif Jh IntKind.u8 (Jm [PV.ro 5 false false (pu IntKind.u8 (JT (Jd (List.take 64 key ++ List.drop (0 + min key.length 64) z80)) 92)), PV.ro 5 false false (List.take 32 (pu IntKind.u8 (JA (Jd (Jm [PV.ro 5 false false (pu IntKind.u8 (JT (Jd (List.take 64 key ++ List.drop (0 + min key.length 64) z80)) 54))])))))]) && decide ((Jm [PV.ro 5 false false (pu IntKind.u8 (JT (Jd (List.take 64 key ++ List.drop (0 + min key.length 64) z80)) 92)), PV.ro 5 false false (List.take 32 (pu IntKind.u8 (JA (Jd (Jm [PV.ro 5 false false (pu IntKind.u8 (JT (Jd (List.take 64 key ++ List.drop (0 + min key.length 64) z80)) 54))])))))]).length ≤ 140737488355000) then k (Res.mk (PV.ar 37 (pu IntKind.u8 (JA (Jd (Jm [PV.ro 5 false false (pu IntKind.u8 (JT (Jd (List.take 64 key ++ List.drop (0 + min key.length 64) z80)) 92)), PV.ro 5 false false (List.take 32 (pu IntKind.u8 (JA (Jd (Jm [PV.ro 5 false false (pu IntKind.u8 (JT (Jd (List.take 64 key ++ List.drop (0 + min key.length 64) z80)) 54))])))))]))))) [] []) else none else none else none else none else bif Jn (0 + parts.length) 24 && true then bif Jh IntKind.u8 (List.take 64 key ++ List.drop (0 + min key.length 64) z80) && decide ((List.take 64 key ++ List.drop (0 + min key.length 64) z80).length = 64) && true then bif decide (0 + parts.length = parts.length) && decide (parts.length ≤ 1000000000) then bif parts.all (PV.isRo 5) && decide ((PV.ro 5 false false (pu IntKind.u8 (JT (Jd (List.take 64 key ++ List.drop (0 + min key.length 64) z80)) 54)) :: parts).length ≤ 140737488355328) && (Jh IntKind.u8 (Jm (PV.ro 5 false false (pu IntKind.u8 (JT (Jd (List.take 64 key ++ List.drop (0 + min key.length 64) z80)) 54)) :: parts)) && decide ((Jm (PV.ro 5 false false (pu IntKind.u8 (JT (Jd (List.take 64 key ++ List.drop (0 + min key.length 64) z80)) 54)) :: parts)).length ≤ 140737488355000)) then bif Jh IntKind.u8 (List.take 64 key ++ List.drop (0 + min key.length 64) z80) && decide ((List.take 64 key ++ List.drop (0 + min key.length 64) z80).length = 64) && true then bif Jh IntKind.u8 (Jm [PV.ro 5 false false (pu IntKind.u8 (JT (Jd (List.take 64 key ++ List.drop (0 + min key.length 64) z80)) 92)), PV.ro 5 false false (List.take 32 (pu IntKind.u8 (JA (Jd (Jm (PV.ro 5 false false (pu IntKind.u8 (JT (Jd (List.take 64 key ++ List.drop (0 + min key.length 64) z80)) 54)) :: parts))))))]) && decide ((Jm [PV.ro 5 false false (pu IntKind.u8 (JT (Jd (List.take 64 key ++ List.drop (0 + min key.length 64) z80)) 92)), PV.ro 5 false false (List.take 32 (pu IntKind.u8 (JA (Jd (Jm (PV.ro 5 false false (pu IntKind.u8 (JT (Jd (List.take 64 key ++ List.drop (0 + min key.length 64) z80)) 54)) :: parts))))))]).length ≤ 140737488355000) then k (Res.mk (PV.ar 37 (pu IntKind.u8 (JA (Jd (Jm [PV.ro 5 false false (pu IntKind.u8 (JT (Jd (List.take 64 key ++ List.drop (0 + min key.length 64) z80)) 92)), PV.ro 5 false false (List.take 32 (pu IntKind.u8 (JA (Jd (Jm (PV.ro 5 false false (pu IntKind.u8 (JT (Jd (List.take 64 key ++ List.drop (0 + min key.length 64) z80)) 54)) :: parts))))))]))))) [] []) else none else none else none else none else none else none
theorem e80 (f : Nat) (key_z : Bool) (key_f : Bool) (key : List PV) (parts_z : Bool) (parts_f : Bool) (parts : List PV) (k : Res → Option Res) : JM tau F80 Try.f80 (Try.f80.body.get!) JnJ [.ro] 0 [.ro 5 key_z key_f key, .ro 29 parts_z parts_f parts] [] k = g80 f key_z key_f key parts_z parts_f parts k := by kernel_rfl
theorem Jz4 (f : Nat) : Jg (Try.f80.body.get!) JnJ = [] := by kernel_rfl
theorem Jz5 (f : Nat) : ∀ q ∈ Jg (Try.f80.body.get!) JnJ, q.Ok tau Try.prog 0 := by
  rw [Jz4 f]; intro q hq; cases hq
theorem Jv9 : Try.prog.funcs[80]? = some Try.f80 := by kernel_rfl
theorem Jwa : Try.f80.body = some (Try.f80.body.get!) := by kernel_rfl
theorem Jsh : Enters Try.prog 80 := enters_of Jv9 (by kernel_rfl) Jwa
noncomputable def Jle : List PV → List Ent → (Res → Option Res) → Option Res
  | [.ro 5 key_z key_f key, .ro 29 parts_z parts_f parts], [], k => g80 0 key_z key_f key parts_z parts_f parts k
  | _, _, _ => none
noncomputable def s80 : Sig := { own := [], run := Jle }
theorem Jz6 : Ji tau Try.prog 80 s80 := JS Jr Jsg Js Jv9 Jwa JnJ [.ro] 0 [] Jle (Jz5 0) fun xs es k res hr => by
  unfold Jle at hr
  split at hr
  · exact ⟨rfl, 0, (e80 0 _ _ _ _ _ _  _).trans hr⟩
  · cases hr
-- FN hmac.Mac
theorem Zg (a b : List PV) : Jd (a ++ b) = Jd a ++ Jd b := by simp [Jd]
@[simp] theorem Jwb : Jd [] = [] := rfl
/-- a key, with noughts behind it -/
def JjS (s : List Int) : List Int := s ++ List.replicate (64 - s.length) 0
def VY (key : List Int) : List Int := if key.length > 64 then JjS (JA key) else JjS key
def Jfn (key text : List Int) : List Int := JA (JT (VY key) 92 ++ JA (JT (VY key) 54 ++ text))
noncomputable def JU : List Int → List Int → List Int := hid Jfn
theorem Jay (key text : List Int) : JU key text = Jfn key text := by rw [JU, hid_eq]
theorem Xn (key text : List Int) : (JU key text).length = 32 := by rw [Jay]; exact J8 _
theorem Xo (key : List Int) : (VY key).length = 64 := by
  unfold VY JjS
  split
  · rw [List.length_append, J8, List.length_replicate]
  · rw [List.length_append, List.length_replicate]; omega
def x54 (kb : List PV) : PV := .ro 5 false false (pu .u8 (JT (Jd kb) 54))
def x92 (kb : List PV) : PV := .ro 5 false false (pu .u8 (JT (Jd kb) 92))
def t32 (l : List PV) : PV := .ro 5 false false (List.take 32 (pu .u8 (JA (Jd (Jm l)))))
def kbG (src : List PV) : List PV := [] ++ List.take 64 src ++ List.drop (0 + min src.length 64) (pu .u8 (List.replicate 64 0))
def VZ (pz : Bool) (parts kb : List PV) (k : Res → Option Res) : Option Res :=
  bif pz then
    bif Jh .u8 kb && decide (kb.length = 64) && true then
      bif Jh .u8 (Jm [x54 kb]) && decide ((Jm [x54 kb]).length ≤ 140737488355000) then
        bif Jh .u8 kb && decide (kb.length = 64) && true then
          bif Jh .u8 (Jm [x92 kb, t32 [x54 kb]]) && decide ((Jm [x92 kb, t32 [x54 kb]]).length ≤ 140737488355000) then
            k ⟨.ar 37 (pu .u8 (JA (Jd (Jm [x92 kb, t32 [x54 kb]])))), [], []⟩
          else none
        else none
      else none
    else none
  else bif Jn (0 + parts.length) 24 && true then
    bif Jh .u8 kb && decide (kb.length = 64) && true then
      bif decide (0 + parts.length = ([] ++ parts).length) && decide (([] ++ parts).length ≤ 1000000000) then
        bif ([] ++ parts).all (PV.isRo 5) && decide ((x54 kb :: ([] ++ parts)).length ≤ 140737488355328) && (Jh .u8 (Jm (x54 kb :: ([] ++ parts))) && decide ((Jm (x54 kb :: ([] ++ parts))).length ≤ 140737488355000)) then
          bif Jh .u8 kb && decide (kb.length = 64) && true then
            bif Jh .u8 (Jm [x92 kb, t32 (x54 kb :: ([] ++ parts))]) && decide ((Jm [x92 kb, t32 (x54 kb :: ([] ++ parts))]).length ≤ 140737488355000) then
              k ⟨.ar 37 (pu .u8 (JA (Jd (Jm [x92 kb, t32 (x54 kb :: ([] ++ parts))])))), [], []⟩
            else none
          else none
        else none
      else none
    else none
  else none
theorem Jlf (kz kf : Bool) (key : List PV) (pz pf : Bool) (parts : List PV) (k : Res → Option Res) : g80 0 kz kf key pz pf parts k =
    (bif decide (zi key.length > 64) then
      bif Jh .u8 (Jm [.ro 5 kz kf key]) && decide ((Jm [.ro 5 kz kf key]).length ≤ 140737488355000) then
        VZ pz parts (kbG (List.take 32 (pu .u8 (JA (Jd (Jm [.ro 5 kz kf key])))))) k
      else none
    else VZ pz parts (kbG key) k) := by kernel_rfl
theorem JdO (s : List Int) (h : s.length ≤ 64) : kbG (pu .u8 s) = pu .u8 (JjS s) := by
  unfold kbG JjS
  rw [JO, show 0 + min s.length 64 = s.length from by omega, Jh1, List.drop_replicate, List.take_of_length_le (by simpa using h), List.nil_append, ← JZ]
theorem Jbq (K : List Int) (hK : K.length = 64) (pz : Bool) (parts : List PV) (hz : pz = true → parts = []) (h1 : parts.all (PV.isRo 5) = true) (h2 : parts.length ≤ 1000000) (h3 : Jh .u8 (Jm parts) = true) (h4 : (Jm parts).length ≤ 1000000000) (k : Res → Option Res) :
    VZ pz parts (pu .u8 K) k = k ⟨.ar 37 (pu .u8 (JA (JT K 92 ++ JA (JT K 54 ++ Jd (Jm parts))))), [], []⟩ := by
  have hk : (Jh .u8 (pu .u8 K) && decide ((pu .u8 K).length = 64) && true) = true := by simp [hK]
  have e54 : x54 (pu .u8 K) = .ro 5 false false (pu .u8 (JT K 54)) := by simp [x54]
  have e92 : x92 (pu .u8 K) = .ro 5 false false (pu .u8 (JT K 92)) := by simp [x92]
  have hS : ∀ l : List Int, List.take 32 (pu .u8 (JA l)) = pu .u8 (JA l) := fun l => List.take_of_length_le (by simp [J8])
  cases pz with
  | true =>
    have := hz rfl; subst this
    have et : t32 [x54 (pu .u8 K)] = .ro 5 false false (pu .u8 (JA (JT K 54))) := by simp [t32, e54, PV.els, hS]
    unfold VZ
    rw [cond_true, Jc hk, Jc (by simp [e54, PV.els, hK]), Jc hk, et, e92, Jc (by simp [PV.els, hK, QP, J8])]
    simp [PV.els, Zg]
  | false =>
    have et : t32 (x54 (pu .u8 K) :: ([] ++ parts)) = .ro 5 false false (pu .u8 (JA (JT K 54 ++ Jd (Jm parts)))) := by
      rw [List.nil_append, t32, e54, ZG, hS]
      simp only [PV.els]
      rw [Zg, Wa]
    unfold VZ
    have hp : (pu IntKind.u8 K).length = 64 := by simp [hK]
    rw [cond_false, Jc (by simp [Jn]; omega), Jc hk, Jc (by simp; omega), Jc, Jc hk, et, e92, Jc (by simp [PV.els, hK, QP, J8])]
    · simp [PV.els, Zg]
    · rw [e54]
      simp only [List.nil_append, ZG, PV.els, h1, QP, J6, h3, List.length_cons, List.length_append, JO, Jfl, hK, Bool.true_and, Bool.and_true, Bool.and_eq_true, decide_eq_true_eq]
      omega
noncomputable def Jg5 : List PV → List Ent → (Res → Option Res) → Option Res
  | [.ro 5 kz kf key, .ro 29 pz pf parts], [], k =>
    bif (Jh .u8 key && decide (key.length ≤ 1000000000)) && ((parts.all (PV.isRo 5) && decide (parts.length ≤ 1000000)) && (Jh .u8 (Jm parts) && decide ((Jm parts).length ≤ 1000000000))) && (!pz || parts.isEmpty) then
      k ⟨.ar 37 (pu .u8 (JU (Jd key) (Jd (Jm parts)))), [], []⟩ else none
  | _, _, _ => none
noncomputable def JnK : Sig := { own := [], run := Jg5 }
theorem Jsi (kz kf : Bool) (key : List PV) (pz pf : Bool) (parts : List PV) (k : Res → Option Res) (a1 : Jh .u8 key = true) (a2 : key.length ≤ 1000000000) (h1 : parts.all (PV.isRo 5) = true) (h2 : parts.length ≤ 1000000) (h3 : Jh .u8 (Jm parts) = true) (h4 : (Jm parts).length ≤ 1000000000) (hz : pz = true → parts = []) :
    g80 0 kz kf key pz pf parts k = k ⟨.ar 37 (pu .u8 (JU (Jd key) (Jd (Jm parts)))), [], []⟩ := by
  rw [Jlf, Jay, Jfn]
  have hf : Jm [.ro 5 kz kf key] = key := by simp [PV.els]
  have hi := Qb a1
  by_cases hc : key.length > 64
  · rw [Jc (by simp [zi]; omega), hf, Jc (by simp [a1]; omega), List.take_of_length_le (by simp [J8]), JdO _ (by rw [J8]; omega),
      Jbq _ (by rw [← Xo (Jd key), VY, if_pos (by simpa using hc)]) pz parts hz h1 h2 h3 h4, VY, if_pos (by simpa using hc)]
  · have hl : (Jd key).length ≤ 64 := by simp; omega
    rw [JK (by simp [zi]; omega), hi, JdO _ hl, Wa, Jbq _ (by rw [← Xo (Jd key), VY, if_neg (by omega)]) pz parts hz h1 h2 h3 h4, VY, if_neg (by omega)]
theorem Jlg : Ji tau Try.prog 80 JnK := Jz6.of fun xs es k res hr => by
  change Jg5 xs es k = some res at hr
  unfold Jg5 at hr
  split at hr
  · rename_i kz kf key pz pf parts
    obtain ⟨hc, hr⟩ := JL hr
    simp only [Bool.and_eq_true, decide_eq_true_eq, Bool.or_eq_true, Bool.not_eq_true', List.isEmpty_iff] at hc
    obtain ⟨⟨⟨a1, a2⟩, ⟨h1, h2⟩, h3, h4⟩, hz⟩ := hc
    exact (Jsi kz kf key pz pf parts k a1 a2 h1 h2 h3 h4 (fun hp => hz.resolve_left (by rw [hp]; decide))).trans hr
  · cases hr

-- FN wire.Parse
structure PA where
  (l : List PV) (b : List PV)
def kOk (l : List PV) : Bool := Jh .u8 l && decide (l.length ≤ 1000000000)
theorem JnL {z0 f0 z1 f1 z2 f2 : Bool} {k0 k1 k2 : List PV} (h0 : kOk k0 = true) (h1 : kOk k1 = true) (h2 : kOk k2 = true) (d : Int) : kOk (QG ⟨[.ro 5 z0 f0 k0, .ro 5 z1 f1 k1, .ro 5 z2 f2 k2], d⟩) = true := by
  rw [Jax]
  show kOk (W4 _ d).els = true
  unfold W4
  cases h : QK d 2 with
  | false => rfl
  | true =>
    simp only [QK, Bool.and_eq_true, decide_eq_true_eq] at h
    have : d = 0 ∨ d = 1 ∨ d = 2 := by omega
    rcases this with rfl | rfl | rfl
    · exact h0
    · exact h1
    · exact h2
theorem Jz7 : Try.prog.funcs[96]? = some Try.f96 := by kernel_rfl
theorem Jz8 : Try.f96.body = some (Try.f96.body.get!) := by kernel_rfl
theorem Jwc : Enters Try.prog 96 := enters_of Jz7 (by kernel_rfl) Jz8
theorem Jz9 : Try.prog.funcs[98]? = some Try.f98 := by kernel_rfl
theorem JAa : Try.f98.body = some (Try.f98.body.get!) := by kernel_rfl
theorem Jsj : Enters Try.prog 98 := enters_of Jz9 (by kernel_rfl) JAa
noncomputable def Jp9 : Fns := F0
theorem Jlh : Jz tau Try.prog Jp9 := JG
def JdP : An := (.seq .leaf (.seq (.seq .leaf (.cond (.seq .leaf .leaf) .leaf)) (.seq .leaf .leaf)))
noncomputable def Jqa (f : Nat) (s_z : Bool) (s_f : Bool) (s : List PV) (k : Res → Option Res) : Option Res := bif s_z then k (Res.mk (.ro 5 true true []) [] []) else bif Jn (0 + s.length) 1 && true then k (Res.mk (.ow 5 16 [] 0 (0 + s.length) none) [] [.vec false 5 false s]) else none
theorem Jwd (f : Nat) (s_z : Bool) (s_f : Bool) (s : List PV) (k : Res → Option Res) : JM tau Jp9 Try.f131 (Try.f131.body.get!) JdP [] 0 [.ro 5 s_z s_f s] [] k = Jqa f s_z s_f s k := by kernel_rfl
theorem Jsk (f : Nat) : Jg (Try.f131.body.get!) JdP = [] := by kernel_rfl
theorem Jsl (f : Nat) : ∀ q ∈ Jg (Try.f131.body.get!) JdP, q.Ok tau Try.prog 0 := by
  rw [Jsk f]; intro q hq; cases hq
theorem Jli : Try.prog.funcs[131]? = some Try.f131 := by kernel_rfl
theorem Jlj : Try.f131.body = some (Try.f131.body.get!) := by kernel_rfl
theorem Jlk : Enters Try.prog 131 := enters_of Jli (by kernel_rfl) Jlj
noncomputable def JdQ : List PV → List Ent → (Res → Option Res) → Option Res
  | [.ro 5 s_z s_f s], [], k => Jqa 0 s_z s_f s k
  | _, _, _ => none
noncomputable def Jll : Sig := { own := [], run := JdQ }
theorem Jlm : Ji tau Try.prog 131 Jll := JS Jr Jlh Js Jli Jlj JdP [] 0 [] JdQ (Jsl 0) fun xs es k res hr => by
  unfold JdQ at hr
  split at hr
  · exact ⟨rfl, 0, (Jwd 0 _ _ _  _).trans hr⟩
  · cases hr
noncomputable def F97 : Fns := JD 131 Jll (F0)
theorem Jsm : Jz tau Try.prog F97 := (JG).add Jlm Jlk
def Jsn : Nm := [(0, .any), (1, .any), (5, .own), (6, .any)]
def Jwe : An := (.seq .leaf (.seq .leaf (.seq .leaf (.seq .leaf (.seq (.seq .leaf (.seq .leaf (.cond .leaf .leaf))) (.seq .leaf .leaf))))))
def JnM : An := (.seq .leaf (.scope Jsn Jwe))
noncomputable def g97 (f : Nat) (b_z : Bool) (b_f : Bool) (b : List PV) (n : Int) (k : Res → Option Res) : Option Res := bif b_z then k (Res.mk (.ro 5 false false [.sc (.int .u8 (IntKind.u8.wrap (JF IntKind.u64 (IntKind.u64.wrap n) (IntKind.i64.wrap (8 * 0))))), .sc (.int .u8 (IntKind.u8.wrap (JF IntKind.u64 (IntKind.u64.wrap n) (IntKind.i64.wrap (8 * IntKind.i64.wrap (0 + 1)))))), .sc (.int .u8 (IntKind.u8.wrap (JF IntKind.u64 (IntKind.u64.wrap n) (IntKind.i64.wrap (8 * IntKind.i64.wrap (IntKind.i64.wrap (0 + 1) + 1)))))), .sc (.int .u8 (IntKind.u8.wrap (JF IntKind.u64 (IntKind.u64.wrap n) (IntKind.i64.wrap (8 * IntKind.i64.wrap (IntKind.i64.wrap (IntKind.i64.wrap (0 + 1) + 1) + 1)))))), .sc (.int .u8 (IntKind.u8.wrap (JF IntKind.u64 (IntKind.u64.wrap n) (IntKind.i64.wrap (8 * IntKind.i64.wrap (IntKind.i64.wrap (IntKind.i64.wrap (IntKind.i64.wrap (0 + 1) + 1) + 1) + 1)))))), .sc (.int .u8 (IntKind.u8.wrap (JF IntKind.u64 (IntKind.u64.wrap n) (IntKind.i64.wrap (8 * IntKind.i64.wrap (IntKind.i64.wrap (IntKind.i64.wrap (IntKind.i64.wrap (IntKind.i64.wrap (0 + 1) + 1) + 1) + 1) + 1)))))), .sc (.int .u8 (IntKind.u8.wrap (JF IntKind.u64 (IntKind.u64.wrap n) (IntKind.i64.wrap (8 * IntKind.i64.wrap (IntKind.i64.wrap (IntKind.i64.wrap (IntKind.i64.wrap (IntKind.i64.wrap (IntKind.i64.wrap (0 + 1) + 1) + 1) + 1) + 1) + 1)))))), .sc (.int .u8 (IntKind.u8.wrap (JF IntKind.u64 (IntKind.u64.wrap n) (IntKind.i64.wrap (8 * IntKind.i64.wrap (IntKind.i64.wrap (IntKind.i64.wrap (IntKind.i64.wrap (IntKind.i64.wrap (IntKind.i64.wrap (IntKind.i64.wrap (0 + 1) + 1) + 1) + 1) + 1) + 1) + 1))))))]) [] []) else bif Jn (0 + b.length) 1 && true then bif Jn (0 + b.length + 1) 1 && true then bif Jn (0 + b.length + 1 + 1) 1 && true then bif Jn (0 + b.length + 1 + 1 + 1) 1 && true then bif Jn (0 + b.length + 1 + 1 + 1 + 1) 1 && true then bif Jn (0 + b.length + 1 + 1 + 1 + 1 + 1) 1 && true then bif Jn (0 + b.length + 1 + 1 + 1 + 1 + 1 + 1) 1 && true then bif Jn (0 + b.length + 1 + 1 + 1 + 1 + 1 + 1 + 1) 1 && true then bif Jn (0 + b.length + 1 + 1 + 1 + 1 + 1 + 1 + 1 + 1) 1 && true then bif Jn (0 + (List.take (0 + b.length + 1 + 1 + 1 + 1 + 1 + 1 + 1 + 1) (List.take (0 + b.length + 1 + 1 + 1 + 1 + 1 + 1 + 1) (List.take (0 + b.length + 1 + 1 + 1 + 1 + 1 + 1) (List.take (0 + b.length + 1 + 1 + 1 + 1 + 1) (List.take (0 + b.length + 1 + 1 + 1 + 1) (List.take (0 + b.length + 1 + 1 + 1) (List.take (0 + b.length + 1 + 1) (List.take (0 + b.length + 1) (List.take (0 + b.length) b ++ [.sc (.int .u8 (IntKind.u8.wrap (JF IntKind.u64 (IntKind.u64.wrap n) (IntKind.i64.wrap (8 * 0)))))]) ++ [.sc (.int .u8 (IntKind.u8.wrap (JF IntKind.u64 (IntKind.u64.wrap n) (IntKind.i64.wrap (8 * IntKind.i64.wrap (0 + 1))))))]) ++ [.sc (.int .u8 (IntKind.u8.wrap (JF IntKind.u64 (IntKind.u64.wrap n) (IntKind.i64.wrap (8 * IntKind.i64.wrap (IntKind.i64.wrap (0 + 1) + 1))))))]) ++ [.sc (.int .u8 (IntKind.u8.wrap (JF IntKind.u64 (IntKind.u64.wrap n) (IntKind.i64.wrap (8 * IntKind.i64.wrap (IntKind.i64.wrap (IntKind.i64.wrap (0 + 1) + 1) + 1))))))]) ++ [.sc (.int .u8 (IntKind.u8.wrap (JF IntKind.u64 (IntKind.u64.wrap n) (IntKind.i64.wrap (8 * IntKind.i64.wrap (IntKind.i64.wrap (IntKind.i64.wrap (IntKind.i64.wrap (0 + 1) + 1) + 1) + 1))))))]) ++ [.sc (.int .u8 (IntKind.u8.wrap (JF IntKind.u64 (IntKind.u64.wrap n) (IntKind.i64.wrap (8 * IntKind.i64.wrap (IntKind.i64.wrap (IntKind.i64.wrap (IntKind.i64.wrap (IntKind.i64.wrap (0 + 1) + 1) + 1) + 1) + 1))))))]) ++ [.sc (.int .u8 (IntKind.u8.wrap (JF IntKind.u64 (IntKind.u64.wrap n) (IntKind.i64.wrap (8 * IntKind.i64.wrap (IntKind.i64.wrap (IntKind.i64.wrap (IntKind.i64.wrap (IntKind.i64.wrap (IntKind.i64.wrap (0 + 1) + 1) + 1) + 1) + 1) + 1))))))]) ++ [.sc (.int .u8 (IntKind.u8.wrap (JF IntKind.u64 (IntKind.u64.wrap n) (IntKind.i64.wrap (8 * IntKind.i64.wrap (IntKind.i64.wrap (IntKind.i64.wrap (IntKind.i64.wrap (IntKind.i64.wrap (IntKind.i64.wrap (IntKind.i64.wrap (0 + 1) + 1) + 1) + 1) + 1) + 1) + 1))))))])).length) 1 && true then k (Res.mk (.ro 5 false false (List.take (0 + (List.take (0 + b.length + 1 + 1 + 1 + 1 + 1 + 1 + 1 + 1) (List.take (0 + b.length + 1 + 1 + 1 + 1 + 1 + 1 + 1) (List.take (0 + b.length + 1 + 1 + 1 + 1 + 1 + 1) (List.take (0 + b.length + 1 + 1 + 1 + 1 + 1) (List.take (0 + b.length + 1 + 1 + 1 + 1) (List.take (0 + b.length + 1 + 1 + 1) (List.take (0 + b.length + 1 + 1) (List.take (0 + b.length + 1) (List.take (0 + b.length) b ++ [.sc (.int .u8 (IntKind.u8.wrap (JF IntKind.u64 (IntKind.u64.wrap n) (IntKind.i64.wrap (8 * 0)))))]) ++ [.sc (.int .u8 (IntKind.u8.wrap (JF IntKind.u64 (IntKind.u64.wrap n) (IntKind.i64.wrap (8 * IntKind.i64.wrap (0 + 1))))))]) ++ [.sc (.int .u8 (IntKind.u8.wrap (JF IntKind.u64 (IntKind.u64.wrap n) (IntKind.i64.wrap (8 * IntKind.i64.wrap (IntKind.i64.wrap (0 + 1) + 1))))))]) ++ [.sc (.int .u8 (IntKind.u8.wrap (JF IntKind.u64 (IntKind.u64.wrap n) (IntKind.i64.wrap (8 * IntKind.i64.wrap (IntKind.i64.wrap (IntKind.i64.wrap (0 + 1) + 1) + 1))))))]) ++ [.sc (.int .u8 (IntKind.u8.wrap (JF IntKind.u64 (IntKind.u64.wrap n) (IntKind.i64.wrap (8 * IntKind.i64.wrap (IntKind.i64.wrap (IntKind.i64.wrap (IntKind.i64.wrap (0 + 1) + 1) + 1) + 1))))))]) ++ [.sc (.int .u8 (IntKind.u8.wrap (JF IntKind.u64 (IntKind.u64.wrap n) (IntKind.i64.wrap (8 * IntKind.i64.wrap (IntKind.i64.wrap (IntKind.i64.wrap (IntKind.i64.wrap (IntKind.i64.wrap (0 + 1) + 1) + 1) + 1) + 1))))))]) ++ [.sc (.int .u8 (IntKind.u8.wrap (JF IntKind.u64 (IntKind.u64.wrap n) (IntKind.i64.wrap (8 * IntKind.i64.wrap (IntKind.i64.wrap (IntKind.i64.wrap (IntKind.i64.wrap (IntKind.i64.wrap (IntKind.i64.wrap (0 + 1) + 1) + 1) + 1) + 1) + 1))))))]) ++ [.sc (.int .u8 (IntKind.u8.wrap (JF IntKind.u64 (IntKind.u64.wrap n) (IntKind.i64.wrap (8 * IntKind.i64.wrap (IntKind.i64.wrap (IntKind.i64.wrap (IntKind.i64.wrap (IntKind.i64.wrap (IntKind.i64.wrap (IntKind.i64.wrap (0 + 1) + 1) + 1) + 1) + 1) + 1) + 1))))))])).length) (List.take (0 + b.length + 1 + 1 + 1 + 1 + 1 + 1 + 1 + 1) (List.take (0 + b.length + 1 + 1 + 1 + 1 + 1 + 1 + 1) (List.take (0 + b.length + 1 + 1 + 1 + 1 + 1 + 1) (List.take (0 + b.length + 1 + 1 + 1 + 1 + 1) (List.take (0 + b.length + 1 + 1 + 1 + 1) (List.take (0 + b.length + 1 + 1 + 1) (List.take (0 + b.length + 1 + 1) (List.take (0 + b.length + 1) (List.take (0 + b.length) b ++ [.sc (.int .u8 (IntKind.u8.wrap (JF IntKind.u64 (IntKind.u64.wrap n) (IntKind.i64.wrap (8 * 0)))))]) ++ [.sc (.int .u8 (IntKind.u8.wrap (JF IntKind.u64 (IntKind.u64.wrap n) (IntKind.i64.wrap (8 * IntKind.i64.wrap (0 + 1))))))]) ++ [.sc (.int .u8 (IntKind.u8.wrap (JF IntKind.u64 (IntKind.u64.wrap n) (IntKind.i64.wrap (8 * IntKind.i64.wrap (IntKind.i64.wrap (0 + 1) + 1))))))]) ++ [.sc (.int .u8 (IntKind.u8.wrap (JF IntKind.u64 (IntKind.u64.wrap n) (IntKind.i64.wrap (8 * IntKind.i64.wrap (IntKind.i64.wrap (IntKind.i64.wrap (0 + 1) + 1) + 1))))))]) ++ [.sc (.int .u8 (IntKind.u8.wrap (JF IntKind.u64 (IntKind.u64.wrap n) (IntKind.i64.wrap (8 * IntKind.i64.wrap (IntKind.i64.wrap (IntKind.i64.wrap (IntKind.i64.wrap (0 + 1) + 1) + 1) + 1))))))]) ++ [.sc (.int .u8 (IntKind.u8.wrap (JF IntKind.u64 (IntKind.u64.wrap n) (IntKind.i64.wrap (8 * IntKind.i64.wrap (IntKind.i64.wrap (IntKind.i64.wrap (IntKind.i64.wrap (IntKind.i64.wrap (0 + 1) + 1) + 1) + 1) + 1))))))]) ++ [.sc (.int .u8 (IntKind.u8.wrap (JF IntKind.u64 (IntKind.u64.wrap n) (IntKind.i64.wrap (8 * IntKind.i64.wrap (IntKind.i64.wrap (IntKind.i64.wrap (IntKind.i64.wrap (IntKind.i64.wrap (IntKind.i64.wrap (0 + 1) + 1) + 1) + 1) + 1) + 1))))))]) ++ [.sc (.int .u8 (IntKind.u8.wrap (JF IntKind.u64 (IntKind.u64.wrap n) (IntKind.i64.wrap (8 * IntKind.i64.wrap (IntKind.i64.wrap (IntKind.i64.wrap (IntKind.i64.wrap (IntKind.i64.wrap (IntKind.i64.wrap (IntKind.i64.wrap (0 + 1) + 1) + 1) + 1) + 1) + 1) + 1))))))])))) [] []) else none else none else none else none else none else none else none else none else none else none
theorem e97 (f : Nat) (b_z : Bool) (b_f : Bool) (b : List PV) (n : Int) (k : Res → Option Res) : JM tau F97 Try.f97 (Try.f97.body.get!) JnM [.ro] 12 [.ro 5 b_z b_f b, .sc (.int .i64 n)] [] k = g97 f b_z b_f b n k := by kernel_rfl
theorem JAb (f : Nat) : Jg (Try.f97.body.get!) JnM = [] := by kernel_rfl
theorem JAc (f : Nat) : ∀ q ∈ Jg (Try.f97.body.get!) JnM, q.Ok tau Try.prog 0 := by
  rw [JAb f]; intro q hq; cases hq
theorem Jwf : Try.prog.funcs[97]? = some Try.f97 := by kernel_rfl
theorem Jwg : Try.f97.body = some (Try.f97.body.get!) := by kernel_rfl
theorem Jso : Enters Try.prog 97 := enters_of Jwf (by kernel_rfl) Jwg





-- FN code.Byte | code.Text | code.Int | ref1.Byte | ref1.Int | ref1.Text
def ib (n i : Int) : Int := IntKind.u8.wrap (JF .u64 (IntKind.u64.wrap n) (8 * i))
def JiC (n : Int) : List Int := [ib n 0, ib n 1, ib n 2, ib n 3, ib n 4, ib n 5, ib n 6, ib n 7]
noncomputable def Qj : Int → List Int := hid JiC
theorem Xp (n : Int) : Qj n = JiC n := by rw [Qj, hid_eq]
@[simp] theorem Xq (n : Int) : (Qj n).length = 8 := by rw [Xp]; rfl
/-- a text's bytes -/
def JnN (s : ByteArray) : List Int := s.data.toList.map fun b => (b.toNat : Int)
noncomputable def bsI : ByteArray → List Int := hid JnN
theorem Jbr (s : ByteArray) : bsI s = JnN s := by rw [bsI, hid_eq]
theorem Jbs (s : ByteArray) : Jl s = pu .u8 (bsI s) := by rw [Jbr]; simp [Jl, pu, JnN]
@[simp] theorem Jbt (s : ByteArray) : (bsI s).length = s.size := by rw [Jbr]; simp [JnN]
theorem Jsp (s : ByteArray) : ∀ x ∈ bsI s, 0 ≤ x ∧ x < 256 := by
  intro x hx
  rw [Jbr] at hx
  obtain ⟨b, _, rfl⟩ := List.mem_map.1 hx
  have := b.toNat_lt
  omega
noncomputable def Vb (s : ByteArray) : List Int := [IntKind.u8.wrap (zi s.size), IntKind.u8.wrap (JF .i64 (zi s.size) 8)] ++ bsI s
noncomputable def Qt : ByteArray → List Int := hid Vb
theorem W5 (s : ByteArray) : Qt s = Vb s := by rw [Qt, hid_eq]
@[simp] theorem V0 (s : ByteArray) : (Qt s).length = s.size + 2 := by rw [W5]; simp [Vb]
theorem ZH (x : Int) : 0 ≤ IntKind.u8.wrap x ∧ IntKind.u8.wrap x < 256 := by rw [W2]; omega
theorem Ye (n : Int) : ∀ x ∈ Qj n, 0 ≤ x ∧ x < 256 := by
  rw [Xp]; intro x hx
  simp only [JiC, List.mem_cons, List.not_mem_nil, or_false] at hx
  rcases hx with h | h | h | h | h | h | h | h <;> (rw [h]; exact ZH _)
theorem Jfo (s : ByteArray) : ∀ x ∈ Qt s, 0 ≤ x ∧ x < 256 := by
  rw [W5]; intro x hx
  rcases List.mem_append.1 hx with hx | hx
  · simp only [List.mem_cons, List.not_mem_nil, or_false] at hx
    rcases hx with h | h <;> (rw [h]; exact ZH _)
  · exact Jsp s x hx
theorem JnO (f : Bool) (b : List PV) (n : Int) (k : Res → Option Res) : g97 0 true f b n k = k ⟨.ro 5 false false (pu .u8 (Qj n)), [], []⟩ := by
  rw [Xp]; kernel_rfl
theorem Jwh (f : Bool) (b : List PV) (hb : b.length ≤ 1000000000) (n : Int) (k : Res → Option Res) : g97 0 false f b n k = k ⟨.ro 5 false false (b ++ pu .u8 (Qj n)), [], []⟩ := by
  rw [Xp]
  unfold g97
  refine (JK rfl).trans ?_
  repeat (refine (Jc (by simp [Jn]; omega)).trans ?_)
  repeat rw [List.take_of_length_le (by simp <;> omega)]
  simp only [List.nil_append, List.append_assoc]
  rfl
noncomputable def JdR : List PV → List Ent → (Res → Option Res) → Option Res
  | [.ro 5 z f b, .sc (.int .i64 n)], [], k => bif slB z b then k ⟨.ro 5 false false (b ++ pu .u8 (Qj n)), [], []⟩ else none
  | _, _, _ => none
noncomputable def JAd : Sig := { own := [], run := JdR }
theorem Jwi : Ji tau Try.prog 97 JAd := Ji.mk' fun xs es k res hl hr => by
  change JdR xs es k = some res at hr
  unfold JdR at hr
  split at hr
  · rename_i z f b n
    obtain ⟨hc, hr2⟩ := JL hr
    clear hr
    obtain ⟨h1, h2⟩ := Wp.1 hc
    have hg : g97 0 z f b n k = some res := by
      cases z with
      | true => obtain rfl := h1 rfl; rw [JnO]; exact hr2
      | false => rw [Jwh f b h2]; exact hr2
    exact QQ Jr Jsm Js Jwf Jwg JnM [.ro] 0 12 (JAc 0) hl rfl ((e97 0 z f b n k).trans hg)
  · cases hr
theorem Jfp (s : ByteArray) : s.extract 0 s.size = s := by
  apply ByteArray.ext
  simp [ByteArray.data_extract]
theorem Jac (n : Int) (i : Nat) (h : 8 * i < 64) : ib n i = (n % 18446744073709551616) / (2 ^ (8 * i)) % 256 := by
  unfold ib JF
  rw [W2, Qv]
  have : min (8 * (i : Int)).toNat IntKind.u64.bits = 8 * i := by
    show min _ 64 = _
    omega
  rw [this, Int.fdiv_eq_ediv_of_nonneg _ (Int.pow_nonneg (by decide))]
theorem JjT (n : Int) : QJ (Qj n) = n % 18446744073709551616 := by
  rw [Xp]
  simp only [JiC, QJ]
  have e0 : ib n 0 = n % 18446744073709551616 / 2 ^ (8 * 0) % 256 := Jac n 0 (by decide)
  have e1 : ib n 1 = n % 18446744073709551616 / 2 ^ (8 * 1) % 256 := Jac n 1 (by decide)
  have e2 : ib n 2 = n % 18446744073709551616 / 2 ^ (8 * 2) % 256 := Jac n 2 (by decide)
  have e3 : ib n 3 = n % 18446744073709551616 / 2 ^ (8 * 3) % 256 := Jac n 3 (by decide)
  have e4 : ib n 4 = n % 18446744073709551616 / 2 ^ (8 * 4) % 256 := Jac n 4 (by decide)
  have e5 : ib n 5 = n % 18446744073709551616 / 2 ^ (8 * 5) % 256 := Jac n 5 (by decide)
  have e6 : ib n 6 = n % 18446744073709551616 / 2 ^ (8 * 6) % 256 := Jac n 6 (by decide)
  have e7 : ib n 7 = n % 18446744073709551616 / 2 ^ (8 * 7) % 256 := Jac n 7 (by decide)
  simp only [Nat.reduceMul, Int.reducePow] at e0 e1 e2 e3 e4 e5 e6 e7
  omega
theorem Jb3 (n : Int) : IntKind.i64.wrap (n % 18446744073709551616) = IntKind.i64.wrap n := by
  have h : n % 18446744073709551616 % 18446744073709551616 = n % 18446744073709551616 := Int.emod_emod_of_dvd n (Int.dvd_refl _)
  show (if _ then _ else _) = (if _ then _ else _)
  have e : ∀ x : Int, x % 2 ^ IntKind.i64.bits = x % 18446744073709551616 := fun x => rfl
  simp only [e, h]
def i64B (n : Int) : Bool := decide (-9223372036854775808 ≤ n) && decide (n < 9223372036854775808)
theorem JdS {n : Int} (h : i64B n = true) : IntKind.i64.wrap (n % 18446744073709551616) = n := by
  simp only [i64B, Bool.and_eq_true, decide_eq_true_eq] at h
  have e : IntKind.i64.wrap (n % 18446744073709551616) = IntKind.i64.wrap n := Jb3 n
  rw [e]; exact wrap_i64 h.1 h.2
theorem Jln (l : List Int) (r : List PV) {n : Nat} (h : l.length = n) : J0 n ⟨pu .u8 l ++ r, 0⟩ = pu .u8 l := by
  unfold J0 Wu
  have : Nat.ble n (pu .u8 l ++ r).length = true := (Nat.ble_eq ▸ (by simp; omega) : Nat.ble n (pu .u8 l ++ r).length = true)
  rw [this]
  show List.take n (pu .u8 l ++ r) = _
  rw [List.take_append_of_le_length (by simp; omega), List.take_of_length_le (by simp; omega)]
theorem V1 (l : List Int) (r : List PV) {n : Nat} (h : l.length = n) : J1 n ⟨pu .u8 l ++ r, 0⟩ = ⟨r, 0⟩ := by
  unfold J1 Wu
  have : Nat.ble n (pu .u8 l ++ r).length = true := (Nat.ble_eq ▸ (by simp; omega) : Nat.ble n (pu .u8 l ++ r).length = true)
  rw [this]
  show RS.mk (List.drop n (pu .u8 l ++ r)) 0 = _
  rw [List.drop_append_of_le_length (by simp; omega), List.drop_of_length_le (by simp; omega), List.nil_append]
theorem JdT (l : List Int) (r : List PV) {n : Nat} (h : l.length = n) : QI n ⟨pu .u8 l ++ r, 0⟩ = IntKind.i64.wrap (QJ l) := by
  unfold QI; rw [Jln l r h, Wa]
theorem Yf {n : Int} (h : i64B n = true) (r : List PV) : Jt 8 ⟨pu .u8 (Qj n) ++ r, 0⟩ = n := by
  rw [WF, JdT _ _ (Xq n), JjT, JdS h]
theorem QR (n : Int) (r : List PV) : Jb 8 ⟨pu .u8 (Qj n) ++ r, 0⟩ = ⟨r, 0⟩ := by
  rw [Wb, V1 _ _ (Xq n)]
theorem Jbu (n : Int) (r : List PV) : Jt 1 ⟨pu .u8 [IntKind.u8.wrap n] ++ r, 0⟩ = IntKind.u8.wrap n := by
  rw [WF, JdT [IntKind.u8.wrap n] r (n := 1) rfl]
  have := ZH n
  simp only [QJ]
  rw [wrap_i64 (by omega) (by omega)]; omega
theorem ZI (n : Int) (r : List PV) : Jb 1 ⟨pu .u8 [IntKind.u8.wrap n] ++ r, 0⟩ = ⟨r, 0⟩ := by
  rw [Wb, V1 [IntKind.u8.wrap n] r (n := 1) rfl]
theorem JnP (l : List PV) (h : byB l = true) : Jl (⟨(Jq l).toArray⟩ : ByteArray) = l := by
  simp only [Jl]
  show (Jq l).map _ = l
  induction l with
  | nil => rfl
  | cons p ps ih =>
    have h1 : (p.isInt .u8 && (decide (0 ≤ p.int) && decide (p.int < 256))) = true ∧ byB ps = true := by
      have : byB (p :: ps) = ((p.isInt .u8 && (decide (0 ≤ p.int) && decide (p.int < 256))) && byB ps) := rfl
      rw [this, Bool.and_eq_true] at h; exact h
    simp only [Jq, List.map_cons, ih h1.2]
    congr 1
    have h2 := h1.1
    simp only [Bool.and_eq_true, decide_eq_true_eq] at h2
    obtain ⟨h2, h3, h4⟩ := h2
    match p, h2 with
    | .sc (.int .u8 x), _ =>
      simp only [PV.int] at h3 h4 ⊢
      congr 2
      simp [UInt8.toNat_ofNat]
      omega
    all_goals skip
theorem JiD {t : ByteArray} (h : t.size ≤ 65535) (r : List PV) : JQ ⟨pu .u8 (Qt t) ++ r, 0⟩ = t ∧ J9 ⟨pu .u8 (Qt t) ++ r, 0⟩ = ⟨r, 0⟩ := by
  have hn : ∀ r, QI 2 ⟨pu .u8 [IntKind.u8.wrap (zi t.size), IntKind.u8.wrap (JF .i64 (zi t.size) 8)] ++ r, 0⟩ = (t.size : Int) := by
    intro r
    rw [JdT [IntKind.u8.wrap (zi t.size), IntKind.u8.wrap (JF .i64 (zi t.size) 8)] r (n := 2) rfl]
    simp only [QJ, JF, W2, zi]
    have : min (8 : Int).toNat IntKind.i64.bits = 8 := by decide
    rw [this, Int.fdiv_eq_ediv_of_nonneg _ (by decide), wrap_i64 (by omega) (by omega)]
    omega
  have hs : ∀ r, J1 2 ⟨pu .u8 [IntKind.u8.wrap (zi t.size), IntKind.u8.wrap (JF .i64 (zi t.size) 8)] ++ r, 0⟩ = ⟨r, 0⟩ := fun r => V1 _ _ rfl
  have he : pu .u8 (Qt t) ++ r = pu .u8 [IntKind.u8.wrap (zi t.size), IntKind.u8.wrap (JF .i64 (zi t.size) 8)] ++ (pu .u8 (bsI t) ++ r) := by
    rw [W5, Vb, JZ, List.append_assoc]
  rw [Jau, VI, he]
  unfold VH Jcv
  rw [hn, hs, Int.toNat_natCast, Jln _ _ (Jbt t), V1 _ _ (Jbt t)]
  refine ⟨?_, rfl⟩
  rw [← Jbs]
  apply ByteArray.ext
  apply Array.ext'
  show Jq (Jl t) = t.data.toList
  simp only [Jl]
  generalize t.data.toList = l
  induction l with
  | nil => rfl
  | cons x l ih =>
    simp only [List.map_cons, Jq, ih, PV.int]
    congr 1
    simp
theorem Jlo : ∀ (l : List Int) (r : List PV), (∀ x ∈ l, 0 ≤ x ∧ x < 256) → GC l.length ⟨pu .u8 l ++ r, 0⟩ = ⟨r, 0⟩ ∧ ZO l.length ⟨pu .u8 l ++ r, 0⟩ = l
  | [], r, _ => ⟨rfl, rfl⟩
  | x :: l, r, h => by
      have h2 := Jlo l r fun y hy => h y (List.mem_cons_of_mem _ hy)
      have hx := h x List.mem_cons_self
      have e1 : J1 1 ⟨pu .u8 (x :: l) ++ r, 0⟩ = ⟨pu .u8 l ++ r, 0⟩ := by
        rw [show pu .u8 (x :: l) ++ r = pu .u8 [x] ++ (pu .u8 l ++ r) from rfl, V1 [x] _ (n := 1) rfl]
      have e2 : QI 1 ⟨pu .u8 (x :: l) ++ r, 0⟩ = x := by
        rw [show pu .u8 (x :: l) ++ r = pu .u8 [x] ++ (pu .u8 l ++ r) from rfl, JdT [x] _ (n := 1) rfl]
        simp only [QJ]
        rw [wrap_i64 (by omega) (by omega)]; omega
      simp only [List.length_cons, GC, ZO, e1, e2, h2.1, h2.2, true_and]
      rw [W2]; congr 1; omega
structure MsgOk (ns : List Int) (ts : List ByteArray) (h : List Int) : Prop where
  len : ns.length = 12
  num : ∀ n, n < 12 → i64B (ns.getD n 0) = true
  cnt : ts.length ≤ 4
  txt : ∀ t ∈ ts, t.size ≤ 65535
  sum : h.length = 32
  sumB : ∀ x ∈ h, 0 ≤ x ∧ x < 256
theorem JAe {τ : Tab} {m : Nat} {a b : TypeId} {pvs : List PV} (h : TyL τ m [a, b] pvs) : ∃ p q, pvs = [p, q] ∧ Ty τ m a p ∧ Ty τ m b q := by
  match pvs, h with
  | [p, q], h => exact ⟨p, q, rfl, h.1, h.2.1⟩
theorem JAf {τ : Tab} {m : Nat} {a b c : TypeId} {pvs : List PV} (h : TyL τ m [a, b, c] pvs) : ∃ p q r, pvs = [p, q, r] ∧ Ty τ m a p ∧ Ty τ m b q ∧ Ty τ m c r := by
  match pvs, h with
  | [p, q, r], h => exact ⟨p, q, r, rfl, h.1, h.2.1, h.2.2.1⟩
-- FN law9.Keys | law16.Good | law16.Few
noncomputable def kb : Nat → List PV → List PV := hid fun i b => pu .u8 [107, 48 + i] ++ b.take 60
theorem Jlp (i : Nat) (b : List PV) : kb i b = pu .u8 [107, 48 + i] ++ b.take 60 := by rw [kb, hid_eq]
theorem JiE (i : Nat) {b : List PV} (h : Jh .u8 b = true) : kOk (kb i b) = true := by
  rw [Jlp]; unfold kOk
  have h2 : Jh .u8 (b.take 60) = true := by
    rw [Qb h, Xc]; simp
  rw [QP, h2, J6]
  simp; omega
noncomputable def Jg6 : List PV → List Ent → (Res → Option Res) → Option Res
  | [.ro 5 z f b], [], k => k ⟨.st 31 [.ro 5 false false (kb 0 b), .ro 5 false false (kb 1 b), .ro 5 false false (kb 2 b)], [], []⟩
  | _, _, _ => none
noncomputable def Jsq : Sig := { own := [], run := Jg6 }
theorem Jwj (n m : Nat) : (Qc (zi n) m).toNat = min n m := by unfold Qc; simp only [zi]; split <;> omega
theorem Jqb : Ji tau Try.prog 21 Jsq := Jy7.of fun xs es k res hr => by
  change Jg6 xs es k = some res at hr
  unfold Jg6 at hr
  split at hr
  · rename_i z f b
    show g21 0 z f b k = some res
    have hm : (Qc (zi b.length) 60).toNat = min b.length 60 := Jwj b.length 60
    have ht : List.take (min b.length 60) b = b.take 60 := by rw [Nat.min_comm, List.take_eq_take_iff]; omega
    have hl : (b.take 60).length ≤ 60 := by simp; omega
    have e : ∀ x y : Int, List.take (2 + (b.take 60).length) (.sc (.int .u8 x) :: .sc (.int .u8 y) :: id (b.take 60)) = .sc (.int .u8 x) :: .sc (.int .u8 y) :: b.take 60 := fun x y => List.take_of_length_le (by simp; omega)
    have hk : ∀ i, kb i b = .sc (.int .u8 107) :: .sc (.int .u8 (48 + i)) :: b.take 60 := fun i => by rw [Jlp]; simp
    unfold g21
    simp only [hm, ht, e]
    have hr4 : Jn (2 + (b.take 60).length) 1 = true := by simp only [Jn, Nat.mul_one, decide_eq_true_eq]; omega
    rw [Jc (by simp; unfold Qc; simp only [zi]; split <;> omega), hr4]
    simp only [hk] at hr
    exact hr
  · cases hr
def Jsr : Nat → C13 → Int
  | 0, c => 1 + c.kd % 5
  | 1, c => c.fr % 3
  | 2, c => (c.fr % 3 + 1 + c.to % 2) % 3
  | 3, c => c.wh % 3
  | 4, c => c.wn % 100
  | 5, c => c.cd % 3
  | 6, c => c.cu % 8
  | 7, c => c.ve % 1073741824
  | 8, c => c.co % 1073741824
  | 9, c => c.ad % 3
  | 10, c => c.au % 8
  | 11, c => c.su % 1073741824
  | _, c => c.er % 256
noncomputable def XL : Nat → C13 → Int := hid Jsr
noncomputable abbrev JBF (c : C13) : C13 := ⟨XL 0 c, XL 1 c, XL 2 c, XL 3 c, XL 4 c, XL 5 c, XL 6 c, XL 7 c, XL 8 c, XL 9 c, XL 10 c, XL 11 c, XL 12 c⟩
noncomputable def F72 : Fns := F0
theorem Jss : Jz tau Try.prog F72 := JG
def JnQ : An := (.seq .leaf (.seq .leaf .leaf))
noncomputable def g72 (f : Nat) (k : Res → Option Res) : Option Res := k (Res.mk (.ar 118 [.sc (.int .u32 1116352408), .sc (.int .u32 1899447441), .sc (.int .u32 3049323471), .sc (.int .u32 3921009573), .sc (.int .u32 961987163), .sc (.int .u32 1508970993), .sc (.int .u32 2453635748), .sc (.int .u32 2870763221), .sc (.int .u32 3624381080), .sc (.int .u32 310598401), .sc (.int .u32 607225278), .sc (.int .u32 1426881987), .sc (.int .u32 1925078388), .sc (.int .u32 2162078206), .sc (.int .u32 2614888103), .sc (.int .u32 3248222580), .sc (.int .u32 3835390401), .sc (.int .u32 4022224774), .sc (.int .u32 264347078), .sc (.int .u32 604807628), .sc (.int .u32 770255983), .sc (.int .u32 1249150122), .sc (.int .u32 1555081692), .sc (.int .u32 1996064986), .sc (.int .u32 2554220882), .sc (.int .u32 2821834349), .sc (.int .u32 2952996808), .sc (.int .u32 3210313671), .sc (.int .u32 3336571891), .sc (.int .u32 3584528711), .sc (.int .u32 113926993), .sc (.int .u32 338241895), .sc (.int .u32 666307205), .sc (.int .u32 773529912), .sc (.int .u32 1294757372), .sc (.int .u32 1396182291), .sc (.int .u32 1695183700), .sc (.int .u32 1986661051), .sc (.int .u32 2177026350), .sc (.int .u32 2456956037), .sc (.int .u32 2730485921), .sc (.int .u32 2820302411), .sc (.int .u32 3259730800), .sc (.int .u32 3345764771), .sc (.int .u32 3516065817), .sc (.int .u32 3600352804), .sc (.int .u32 4094571909), .sc (.int .u32 275423344), .sc (.int .u32 430227734), .sc (.int .u32 506948616), .sc (.int .u32 659060556), .sc (.int .u32 883997877), .sc (.int .u32 958139571), .sc (.int .u32 1322822218), .sc (.int .u32 1537002063), .sc (.int .u32 1747873779), .sc (.int .u32 1955562222), .sc (.int .u32 2024104815), .sc (.int .u32 2227730452), .sc (.int .u32 2361852424), .sc (.int .u32 2428436474), .sc (.int .u32 2756734187), .sc (.int .u32 3204031479), .sc (.int .u32 3329325298)]) [] [])
theorem e72 (f : Nat) (k : Res → Option Res) : JM tau F72 Try.f72 (Try.f72.body.get!) JnQ [.ro] 0 [] [] k = g72 f k := by kernel_rfl
theorem JAg (f : Nat) : Jg (Try.f72.body.get!) JnQ = [] := by kernel_rfl
theorem JAh (f : Nat) : ∀ q ∈ Jg (Try.f72.body.get!) JnQ, q.Ok tau Try.prog 0 := by
  rw [JAg f]; intro q hq; cases hq
theorem Jwk : Try.prog.funcs[72]? = some Try.f72 := by kernel_rfl
theorem Jwl : Try.f72.body = some (Try.f72.body.get!) := by kernel_rfl
theorem JAi : Enters Try.prog 72 := enters_of Jwk (by kernel_rfl) Jwl
noncomputable def Jlq : List PV → List Ent → (Res → Option Res) → Option Res
  | [], [], k => g72 0  k
  | _, _, _ => none
noncomputable def s72 : Sig := { own := [], run := Jlq }
theorem JAj : Ji tau Try.prog 72 s72 := JS Jr Jss Js Jwk Jwl JnQ [.ro] 0 [] Jlq (JAh 0) fun xs es k res hr => by
  unfold Jlq at hr
  split at hr
  · exact ⟨rfl, 0, (e72 0  _).trans hr⟩
  · cases hr
def N28 : Nat := 278
noncomputable def F28 : Fns := JD 72 s72 (JD 73 JuS F0)
theorem Yg : Jz tau Try.prog F28 := (JG.add JuT JzC).add JAj JAi
noncomputable def JcP : Code := QB (Try.f28.body.get!) [1, 1, 1, 1, 1, 0, 0, 0]
def Yh : Nm := [(0, .any), (2, .any), (3, .any), (4, .any), (5, .any)]
def Zh : Nm := [(0, .any), (2, .any), (3, .any), (4, .any), (5, .any)]
def Jfq : An := (.seq (.seq .leaf (.cond .leaf .leaf)) (.block none .leaf))
noncomputable def JcQ : Code := QB (Try.f28.body.get!) [1, 1, 1, 1, 1, 1, 1, 0, 1, 0, 0]
def Yi : Nm := [(2, .any), (3, .any), (4, .any), (5, .any), (6, .any), (7, .any)]
def Zi : Nm := [(2, .any), (3, .any), (4, .any), (5, .any)]
def Jfr : An := (.seq (.seq .leaf (.cond .leaf .leaf)) (.seq (.block none .leaf) .leaf))
noncomputable def JcR : Code := QB (Try.f28.body.get!) [1, 1, 1, 1, 1, 1, 1, 1, 1, 0, 1, 0, 0, 1, 0, 0, 0, 1, 0, 0]
def Yj : Nm := [(2, .any), (3, .any), (4, .any), (5, .any), (8, .any), (9, .any), (10, .any)]
def Zj : Nm := [(2, .any), (3, .any), (4, .any), (5, .any), (8, .any), (9, .any)]
def Jfs : An := (.seq (.seq .leaf (.cond .leaf .leaf)) (.seq (.block none (.seq .leaf .leaf)) .leaf))
noncomputable def JcS : Code := QB (Try.f28.body.get!) [1, 1, 1, 1, 1, 1, 1, 1, 1, 0, 1, 0, 0, 1, 0, 0, 1, 0, 1, 0, 0]
def Yk : Nm := [(2, .any), (3, .any), (4, .any), (5, .any), (8, .any), (9, .any), (12, .any)]
def Zk : Nm := [(2, .any), (3, .any), (4, .any), (5, .any), (8, .any), (9, .any)]
def Jft : An := (.seq (.seq .leaf (.cond .leaf .leaf)) (.seq (.block none (.seq .leaf .leaf)) .leaf))
noncomputable def JcT : Code := QB (Try.f28.body.get!) [1, 1, 1, 1, 1, 1, 1, 1, 1, 0, 1, 0, 0, 1, 0, 0, 1, 1, 1, 0, 1, 0, 0]
def Yl : Nm := [(2, .any), (3, .any), (4, .any), (5, .any), (8, .any), (9, .any), (15, .any), (16, .any)]
def Zl : Nm := [(2, .any), (3, .any), (4, .any), (5, .any), (8, .any), (9, .any), (15, .any)]
def Jfu : An := (.seq (.seq .leaf (.cond .leaf .leaf)) (.seq (.block none (.seq .leaf (.seq .leaf (.seq .leaf .leaf)))) .leaf))
noncomputable def JcU : Code := QB (Try.f28.body.get!) [1, 1, 1, 1, 1, 1, 1, 1, 1, 0, 1, 0, 0, 1, 0, 0, 1, 1, 1, 1, 1, 0, 0]
def Ym : Nm := [(2, .any), (3, .any), (4, .any), (5, .any), (8, .any), (9, .any), (15, .any), (20, .any)]
def Zm : Nm := [(2, .any), (3, .any), (4, .any), (5, .any), (8, .any), (9, .any)]
def Jfv : An := (.seq (.seq .leaf (.cond .leaf .leaf)) (.seq (.block none .leaf) .leaf))
noncomputable def JcV : Code := QB (Try.f28.body.get!) [1, 1, 1, 1, 1, 1, 1, 1, 1, 0, 1, 0, 0]
def Yn : Nm := [(2, .any), (3, .any), (4, .any), (5, .any), (8, .any), (9, .any)]
def Zn : Nm := [(2, .any), (4, .any)]
def Jfw (r3 : QZ) (r4 : QZ) (r5 : QZ) (r6 : QZ) : An := (.seq (.seq .leaf (.cond .leaf .leaf)) (.seq (.block none (.seq (.seq .leaf (.block none (.sum Yj N28 r3))) (.seq (.seq .leaf (.block none (.sum Yk N28 r4))) (.seq .leaf (.seq (.seq .leaf (.block none (.sum Yl N28 r5))) (.seq .leaf (.block none (.sum Ym N28 r6)))))))) .leaf))
noncomputable def JcW : Code := QB (Try.f28.body.get!) [1, 1, 1, 1, 1, 1, 1, 1, 1, 1, 1, 0, 1, 0, 0]
def Yo : Nm := [(2, .any), (4, .any), (21, .any), (22, .any)]
def Zo : Nm := [(2, .any), (21, .any)]
def Jfx : An := (.seq (.seq .leaf (.cond .leaf .leaf)) (.seq (.block none .leaf) .leaf))
def JnR (r0 : QZ) (r1 : QZ) (r2 : QZ) (r7 : QZ) : An := (.seq .leaf (.seq .leaf (.seq .leaf (.seq .leaf (.seq .leaf (.seq (.block none (.sum Yh N28 r0)) (.seq .leaf (.seq (.seq .leaf (.block none (.sum Yi N28 r1))) (.seq .leaf (.seq (.seq .leaf (.block none (.sum Yn N28 r2))) (.seq .leaf (.seq (.seq .leaf (.block none (.sum Yo N28 r7))) (.seq .leaf .leaf)))))))))))))
def V2 (f : Nat) (rc : Bool → Bool → List PV → Nat → List PV → List PV → List PV → List PV → Option Res) (k0 : Bool → Bool → List PV → Nat → List PV → List PV → List PV → List PV → Option Res) (v0 : Bool) (v1 : Bool) (v2 : List PV) (v3 : Nat) (v4 : List PV) (v5 : List PV) (v6 : List PV) (v7 : List PV) : Option Res := bif (zi v3).tmod 64 != 56 then bif Jn (v3 + 1) 1 && true then rc v0 v1 v2 (v3 + 1) v4 v5 v6 (List.take v3 v7 ++ [.sc (.int .u8 0)]) else none else k0 v0 v1 v2 v3 v4 v5 v6 v7
def Vc (f : Nat) (k0 : Bool → Bool → List PV → Nat → List PV → List PV → List PV → List PV → Option Res) : Nat → Bool → Bool → List PV → Nat → List PV → List PV → List PV → List PV → Option Res
  | 0, _, _, _, _, _, _, _, _ => none
  | n + 1, v0, v1, v2, v3, v4, v5, v6, v7 => V2 f (Vc f k0 n) k0 v0 v1 v2 v3 v4 v5 v6 v7
theorem JnS (f : Nat) (k : Kont) (n : Nat) (v0 : Bool) (v1 : Bool) (v2 : List PV) (v3 : Nat) (v4 : List PV) (v5 : List PV) (v6 : List PV) (v7 : List PV) : Jo tau 0 Yh (fun s k => ev tau F28 0 0 JcP (Jfq ) s k) (n + 1) (Je Yh N28 [.ro 5 v0 v1 v2, .ptr 4464 [], .ptr 4465 [], .ptr 4466 [], .ow 5 4467 [] 0 v3 none] [(4464, .box false 37 (PV.ar 37 v4)), (4465, .box false 118 (PV.ar 118 v5)), (4466, .box false 112 (PV.ar 112 v6)), (4467, .vec false 5 false v7)]) (Jv tau 0 Zh k) = V2 f (fun v0 v1 v2 v3 v4 v5 v6 v7 => Jo tau 0 Yh (fun s k => ev tau F28 0 0 JcP (Jfq ) s k) n (Je Yh N28 [.ro 5 v0 v1 v2, .ptr 4464 [], .ptr 4465 [], .ptr 4466 [], .ow 5 4467 [] 0 v3 none] [(4464, .box false 37 (PV.ar 37 v4)), (4465, .box false 118 (PV.ar 118 v5)), (4466, .box false 112 (PV.ar 112 v6)), (4467, .vec false 5 false v7)]) (Jv tau 0 Zh k)) (fun x0 x1 x2 x3 x4 x5 x6 x7 => k (Ex.exit 0) (Je Zh N28 [.ro 5 x0 x1 x2, .ptr 4464 [], .ptr 4465 [], .ptr 4466 [], .ow 5 4467 [] 0 x3 none] [(4464, .box false 37 (PV.ar 37 x4)), (4465, .box false 118 (PV.ar 118 x5)), (4466, .box false 112 (PV.ar 112 x6)), (4467, .vec false 5 false x7)])) v0 v1 v2 v3 v4 v5 v6 v7 := by kernel_rfl
theorem JiF (f : Nat) (k : Kont) : ∀ (n : Nat) (v0 : Bool) (v1 : Bool) (v2 : List PV) (v3 : Nat) (v4 : List PV) (v5 : List PV) (v6 : List PV) (v7 : List PV), Jo tau 0 Yh (fun s k => ev tau F28 0 0 JcP (Jfq ) s k) n (Je Yh N28 [.ro 5 v0 v1 v2, .ptr 4464 [], .ptr 4465 [], .ptr 4466 [], .ow 5 4467 [] 0 v3 none] [(4464, .box false 37 (PV.ar 37 v4)), (4465, .box false 118 (PV.ar 118 v5)), (4466, .box false 112 (PV.ar 112 v6)), (4467, .vec false 5 false v7)]) (Jv tau 0 Zh k) = Vc f (fun x0 x1 x2 x3 x4 x5 x6 x7 => k (Ex.exit 0) (Je Zh N28 [.ro 5 x0 x1 x2, .ptr 4464 [], .ptr 4465 [], .ptr 4466 [], .ow 5 4467 [] 0 x3 none] [(4464, .box false 37 (PV.ar 37 x4)), (4465, .box false 118 (PV.ar 118 x5)), (4466, .box false 112 (PV.ar 112 x6)), (4467, .vec false 5 false x7)])) n v0 v1 v2 v3 v4 v5 v6 v7 | 0, _, _, _, _, _, _, _, _ => rfl | n + 1, v0, v1, v2, v3, v4, v5, v6, v7 => (JnS f k n v0 v1 v2 v3 v4 v5 v6 v7).trans (congrArg (fun r => V2 f r (fun x0 x1 x2 x3 x4 x5 x6 x7 => k (Ex.exit 0) (Je Zh N28 [.ro 5 x0 x1 x2, .ptr 4464 [], .ptr 4465 [], .ptr 4466 [], .ow 5 4467 [] 0 x3 none] [(4464, .box false 37 (PV.ar 37 x4)), (4465, .box false 118 (PV.ar 118 x5)), (4466, .box false 112 (PV.ar 112 x6)), (4467, .vec false 5 false x7)])) v0 v1 v2 v3 v4 v5 v6 v7) (by funext v0 v1 v2 v3 v4 v5 v6 v7; exact JiF f k n v0 v1 v2 v3 v4 v5 v6 v7))
def Jbv (f : Nat) : List PV → List (Nat × Ent) → Kont → Option Res
  | [.ro 5 v0 v1 v2, .ptr 4464 [], .ptr 4465 [], .ptr 4466 [],
  PV.ow 5 4467 [] 0 v3
    none], [(4464, .box false 37 (PV.ar 37 v4)), (4465, .box false 118 (PV.ar 118 v5)), (4466, .box false 112 (PV.ar 112 v6)),
  (4467,
    Ent.vec false 5 false
      v7)], k => Vc f (fun x0 x1 x2 x3 x4 x5 x6 x7 => k (Ex.exit
  0) (Je Zh N28 [.ro 5 x0 x1 x2, .ptr 4464 [], .ptr 4465 [], .ptr 4466 [],
  PV.ow 5 4467 [] 0 x3
    none] [(4464, .box false 37 (PV.ar 37 x4)), (4465, .box false 118 (PV.ar 118 x5)), (4466, .box false 112 (PV.ar 112 x6)), (4467, .vec false 5 false x7)])) f v0 v1 v2 v3 v4 v5 v6 v7
  | _, _, _ => none
theorem Jst (f : Nat) : Jg JcP Jfq = [] := by kernel_rfl
theorem Jwm (f : Nat) : (Item.l JcP Yh N28 (Jbv f)).Ok tau Try.prog 0 := JI Jr Yg Js (x := Jfq) (nm2 := Zh) (Jp _ _ (by rw [Jst f]; intro q hq; cases hq)) fun vs hp k res hr => by
  unfold Jbv at hr
  split at hr
  · exact ⟨f, 0, (JiF f _ f _ _ _ _ _ _ _ _ ).trans hr⟩
  · cases hr
def V3 (f : Nat) (rc : Nat → Int → Int → List PV → List PV → List PV → List PV → Option Res) (k0 : Nat → List PV → List PV → List PV → List PV → Option Res) (v0 : Nat) (v1 : Int) (v2 : Int) (v3 : List PV) (v4 : List PV) (v5 : List PV) (v6 : List PV) : Option Res := bif decide (v2 ≥ 0) then bif decide (0 ≤ IntKind.u64.wrap (8 * IntKind.u64.wrap v2)) && true then bif Jn (v0 + 1) 1 && true then rc (v0 + 1) v1 (IntKind.i64.wrap (v2 - 1)) v3 v4 v5 (List.take v0 v6 ++ [.sc (.int .u8 (IntKind.u8.wrap (JF IntKind.u64 v1 (IntKind.u64.wrap (8 * IntKind.u64.wrap v2)))))]) else none else none else k0 v0 v3 v4 v5 v6
def Vd (f : Nat) (k0 : Nat → List PV → List PV → List PV → List PV → Option Res) : Nat → Nat → Int → Int → List PV → List PV → List PV → List PV → Option Res
  | 0, _, _, _, _, _, _, _ => none
  | n + 1, v0, v1, v2, v3, v4, v5, v6 => V3 f (Vd f k0 n) k0 v0 v1 v2 v3 v4 v5 v6
theorem JnT (f : Nat) (k : Kont) (n : Nat) (v0 : Nat) (v1 : Int) (v2 : Int) (v3 : List PV) (v4 : List PV) (v5 : List PV) (v6 : List PV) : Jo tau 0 Yi (fun s k => ev tau F28 0 0 JcQ (Jfr ) s k) (n + 1) (Je Yi N28 [.ptr 4464 [], .ptr 4465 [], .ptr 4466 [], .ow 5 4467 [] 0 v0 none, .sc (.int .u64 v1), .sc (.int .i64 v2)] [(4464, .box false 37 (PV.ar 37 v3)), (4465, .box false 118 (PV.ar 118 v4)), (4466, .box false 112 (PV.ar 112 v5)), (4467, .vec false 5 false v6)]) (Jv tau 0 Zi k) = V3 f (fun v0 v1 v2 v3 v4 v5 v6 => Jo tau 0 Yi (fun s k => ev tau F28 0 0 JcQ (Jfr ) s k) n (Je Yi N28 [.ptr 4464 [], .ptr 4465 [], .ptr 4466 [], .ow 5 4467 [] 0 v0 none, .sc (.int .u64 v1), .sc (.int .i64 v2)] [(4464, .box false 37 (PV.ar 37 v3)), (4465, .box false 118 (PV.ar 118 v4)), (4466, .box false 112 (PV.ar 112 v5)), (4467, .vec false 5 false v6)]) (Jv tau 0 Zi k)) (fun x0 x1 x2 x3 x4 => k (Ex.exit 2) (Je Zi N28 [.ptr 4464 [], .ptr 4465 [], .ptr 4466 [], .ow 5 4467 [] 0 x0 none] [(4464, .box false 37 (PV.ar 37 x1)), (4465, .box false 118 (PV.ar 118 x2)), (4466, .box false 112 (PV.ar 112 x3)), (4467, .vec false 5 false x4)])) v0 v1 v2 v3 v4 v5 v6 := by kernel_rfl
theorem JiG (f : Nat) (k : Kont) : ∀ (n : Nat) (v0 : Nat) (v1 : Int) (v2 : Int) (v3 : List PV) (v4 : List PV) (v5 : List PV) (v6 : List PV), Jo tau 0 Yi (fun s k => ev tau F28 0 0 JcQ (Jfr ) s k) n (Je Yi N28 [.ptr 4464 [], .ptr 4465 [], .ptr 4466 [], .ow 5 4467 [] 0 v0 none, .sc (.int .u64 v1), .sc (.int .i64 v2)] [(4464, .box false 37 (PV.ar 37 v3)), (4465, .box false 118 (PV.ar 118 v4)), (4466, .box false 112 (PV.ar 112 v5)), (4467, .vec false 5 false v6)]) (Jv tau 0 Zi k) = Vd f (fun x0 x1 x2 x3 x4 => k (Ex.exit 2) (Je Zi N28 [.ptr 4464 [], .ptr 4465 [], .ptr 4466 [], .ow 5 4467 [] 0 x0 none] [(4464, .box false 37 (PV.ar 37 x1)), (4465, .box false 118 (PV.ar 118 x2)), (4466, .box false 112 (PV.ar 112 x3)), (4467, .vec false 5 false x4)])) n v0 v1 v2 v3 v4 v5 v6 | 0, _, _, _, _, _, _, _ => rfl | n + 1, v0, v1, v2, v3, v4, v5, v6 => (JnT f k n v0 v1 v2 v3 v4 v5 v6).trans (congrArg (fun r => V3 f r (fun x0 x1 x2 x3 x4 => k (Ex.exit 2) (Je Zi N28 [.ptr 4464 [], .ptr 4465 [], .ptr 4466 [], .ow 5 4467 [] 0 x0 none] [(4464, .box false 37 (PV.ar 37 x1)), (4465, .box false 118 (PV.ar 118 x2)), (4466, .box false 112 (PV.ar 112 x3)), (4467, .vec false 5 false x4)])) v0 v1 v2 v3 v4 v5 v6) (by funext v0 v1 v2 v3 v4 v5 v6; exact JiG f k n v0 v1 v2 v3 v4 v5 v6))
def Jbw (f : Nat) : List PV → List (Nat × Ent) → Kont → Option Res
  | [.ptr 4464 [], .ptr 4465 [], .ptr 4466 [], .ow 5 4467 [] 0 v0 none, .sc (.int .u64 v1),
  PV.sc
    (Value.int IntKind.i64
      v2)], [(4464, .box false 37 (PV.ar 37 v3)), (4465, .box false 118 (PV.ar 118 v4)), (4466, .box false 112 (PV.ar 112 v5)),
  (4467,
    Ent.vec false 5 false
      v6)], k => Vd f (fun x0 x1 x2 x3 x4 => k (Ex.exit
  2) (Je Zi N28 [.ptr 4464 [], .ptr 4465 [], .ptr 4466 [],
  PV.ow 5 4467 [] 0 x0
    none] [(4464, .box false 37 (PV.ar 37 x1)), (4465, .box false 118 (PV.ar 118 x2)), (4466, .box false 112 (PV.ar 112 x3)), (4467, .vec false 5 false x4)])) f v0 v1 v2 v3 v4 v5 v6
  | _, _, _ => none
theorem Jsu (f : Nat) : Jg JcQ Jfr = [] := by kernel_rfl
theorem Jwn (f : Nat) : (Item.l JcQ Yi N28 (Jbw f)).Ok tau Try.prog 0 := JI Jr Yg Js (x := Jfr) (nm2 := Zi) (Jp _ _ (by rw [Jsu f]; intro q hq; cases hq)) fun vs hp k res hr => by
  unfold Jbw at hr
  split at hr
  · exact ⟨f, 0, (JiG f _ f _ _ _ _ _ _ _ ).trans hr⟩
  · cases hr
def V4 (f : Nat) (rc : Nat → Int → Int → List PV → List PV → List PV → List PV → List PV → Option Res) (k0 : Nat → Int → List PV → List PV → List PV → List PV → List PV → Option Res) (v0 : Nat) (v1 : Int) (v2 : Int) (v3 : List PV) (v4 : List PV) (v5 : List PV) (v6 : List PV) (v7 : List PV) : Option Res := bif decide (v2 < 16) then bif decide (0 ≤ IntKind.i64.wrap (v1 + IntKind.i64.wrap (4 * v2))) && decide (IntKind.i64.wrap (v1 + IntKind.i64.wrap (4 * v2)) < zi v0) && true then bif PV.isInt IntKind.u8 (Jj (v6.getD (0 + (IntKind.i64.wrap (v1 + IntKind.i64.wrap (4 * v2))).toNat) PV.top) []) && true then bif decide (0 ≤ IntKind.i64.wrap (IntKind.i64.wrap (v1 + IntKind.i64.wrap (4 * v2)) + 1)) && decide (IntKind.i64.wrap (IntKind.i64.wrap (v1 + IntKind.i64.wrap (4 * v2)) + 1) < zi v0) && true then bif PV.isInt IntKind.u8 (Jj (v6.getD (0 + (IntKind.i64.wrap (IntKind.i64.wrap (v1 + IntKind.i64.wrap (4 * v2)) + 1)).toNat) PV.top) []) && true then bif decide (0 ≤ IntKind.i64.wrap (IntKind.i64.wrap (v1 + IntKind.i64.wrap (4 * v2)) + 2)) && decide (IntKind.i64.wrap (IntKind.i64.wrap (v1 + IntKind.i64.wrap (4 * v2)) + 2) < zi v0) && true then bif PV.isInt IntKind.u8 (Jj (v6.getD (0 + (IntKind.i64.wrap (IntKind.i64.wrap (v1 + IntKind.i64.wrap (4 * v2)) + 2)).toNat) PV.top) []) && true then bif decide (0 ≤ IntKind.i64.wrap (IntKind.i64.wrap (v1 + IntKind.i64.wrap (4 * v2)) + 3)) && decide (IntKind.i64.wrap (IntKind.i64.wrap (v1 + IntKind.i64.wrap (4 * v2)) + 3) < zi v0) && true then bif PV.isInt IntKind.u8 (Jj (v6.getD (0 + (IntKind.i64.wrap (IntKind.i64.wrap (v1 + IntKind.i64.wrap (4 * v2)) + 3)).toNat) PV.top) []) && true then bif decide (0 ≤ v2) && decide (v2 < zi 64) && true then rc v0 v1 (IntKind.i64.wrap (v2 + 1)) v3 v4 v5 v6 (v7.set v2.toNat (.sc (.int .u32 (JC BinOp.or IntKind.u32 (JC BinOp.or IntKind.u32 (JC BinOp.or IntKind.u32 (WA IntKind.u32 (IntKind.u32.wrap (Jj (v6.getD (0 + (IntKind.i64.wrap (v1 + IntKind.i64.wrap (4 * v2))).toNat) PV.top) []).int) 24) (WA IntKind.u32 (IntKind.u32.wrap (Jj (v6.getD (0 + (IntKind.i64.wrap (IntKind.i64.wrap (v1 + IntKind.i64.wrap (4 * v2)) + 1)).toNat) PV.top) []).int) 16)) (WA IntKind.u32 (IntKind.u32.wrap (Jj (v6.getD (0 + (IntKind.i64.wrap (IntKind.i64.wrap (v1 + IntKind.i64.wrap (4 * v2)) + 2)).toNat) PV.top) []).int) 8)) (IntKind.u32.wrap (Jj (v6.getD (0 + (IntKind.i64.wrap (IntKind.i64.wrap (v1 + IntKind.i64.wrap (4 * v2)) + 3)).toNat) PV.top) []).int))))) else none else none else none else none else none else none else none else none else none else k0 v0 v1 v3 v4 v5 v6 v7
def Ve (f : Nat) (k0 : Nat → Int → List PV → List PV → List PV → List PV → List PV → Option Res) : Nat → Nat → Int → Int → List PV → List PV → List PV → List PV → List PV → Option Res
  | 0, _, _, _, _, _, _, _, _ => none
  | n + 1, v0, v1, v2, v3, v4, v5, v6, v7 => V4 f (Ve f k0 n) k0 v0 v1 v2 v3 v4 v5 v6 v7
theorem JnU (f : Nat) (k : Kont) (n : Nat) (v0 : Nat) (v1 : Int) (v2 : Int) (v3 : List PV) (v4 : List PV) (v5 : List PV) (v6 : List PV) (v7 : List PV) : Jo tau 0 Yj (fun s k => ev tau F28 0 0 JcR (Jfs ) s k) (n + 1) (Je Yj N28 [.ptr 4464 [], .ptr 4465 [], .ptr 4466 [], .ow 5 4467 [] 0 v0 none, .ptr 4468 [], .sc (.int .i64 v1), .sc (.int .i64 v2)] [(4464, .box false 37 (PV.ar 37 v3)), (4465, .box false 118 (PV.ar 118 v4)), (4466, .box false 112 (PV.ar 112 v5)), (4467, .vec false 5 false v6), (4468, .box false 118 (PV.ar 118 v7))]) (Jv tau 0 Zj k) = V4 f (fun v0 v1 v2 v3 v4 v5 v6 v7 => Jo tau 0 Yj (fun s k => ev tau F28 0 0 JcR (Jfs ) s k) n (Je Yj N28 [.ptr 4464 [], .ptr 4465 [], .ptr 4466 [], .ow 5 4467 [] 0 v0 none, .ptr 4468 [], .sc (.int .i64 v1), .sc (.int .i64 v2)] [(4464, .box false 37 (PV.ar 37 v3)), (4465, .box false 118 (PV.ar 118 v4)), (4466, .box false 112 (PV.ar 112 v5)), (4467, .vec false 5 false v6), (4468, .box false 118 (PV.ar 118 v7))]) (Jv tau 0 Zj k)) (fun x0 x1 x2 x3 x4 x5 x6 => k (Ex.exit 6) (Je Zj N28 [.ptr 4464 [], .ptr 4465 [], .ptr 4466 [], .ow 5 4467 [] 0 x0 none, .ptr 4468 [], .sc (.int .i64 x1)] [(4464, .box false 37 (PV.ar 37 x2)), (4465, .box false 118 (PV.ar 118 x3)), (4466, .box false 112 (PV.ar 112 x4)), (4467, .vec false 5 false x5), (4468, .box false 118 (PV.ar 118 x6))])) v0 v1 v2 v3 v4 v5 v6 v7 := by kernel_rfl
theorem JiH (f : Nat) (k : Kont) : ∀ (n : Nat) (v0 : Nat) (v1 : Int) (v2 : Int) (v3 : List PV) (v4 : List PV) (v5 : List PV) (v6 : List PV) (v7 : List PV), Jo tau 0 Yj (fun s k => ev tau F28 0 0 JcR (Jfs ) s k) n (Je Yj N28 [.ptr 4464 [], .ptr 4465 [], .ptr 4466 [], .ow 5 4467 [] 0 v0 none, .ptr 4468 [], .sc (.int .i64 v1), .sc (.int .i64 v2)] [(4464, .box false 37 (PV.ar 37 v3)), (4465, .box false 118 (PV.ar 118 v4)), (4466, .box false 112 (PV.ar 112 v5)), (4467, .vec false 5 false v6), (4468, .box false 118 (PV.ar 118 v7))]) (Jv tau 0 Zj k) = Ve f (fun x0 x1 x2 x3 x4 x5 x6 => k (Ex.exit 6) (Je Zj N28 [.ptr 4464 [], .ptr 4465 [], .ptr 4466 [], .ow 5 4467 [] 0 x0 none, .ptr 4468 [], .sc (.int .i64 x1)] [(4464, .box false 37 (PV.ar 37 x2)), (4465, .box false 118 (PV.ar 118 x3)), (4466, .box false 112 (PV.ar 112 x4)), (4467, .vec false 5 false x5), (4468, .box false 118 (PV.ar 118 x6))])) n v0 v1 v2 v3 v4 v5 v6 v7 | 0, _, _, _, _, _, _, _, _ => rfl | n + 1, v0, v1, v2, v3, v4, v5, v6, v7 => (JnU f k n v0 v1 v2 v3 v4 v5 v6 v7).trans (congrArg (fun r => V4 f r (fun x0 x1 x2 x3 x4 x5 x6 => k (Ex.exit 6) (Je Zj N28 [.ptr 4464 [], .ptr 4465 [], .ptr 4466 [], .ow 5 4467 [] 0 x0 none, .ptr 4468 [], .sc (.int .i64 x1)] [(4464, .box false 37 (PV.ar 37 x2)), (4465, .box false 118 (PV.ar 118 x3)), (4466, .box false 112 (PV.ar 112 x4)), (4467, .vec false 5 false x5), (4468, .box false 118 (PV.ar 118 x6))])) v0 v1 v2 v3 v4 v5 v6 v7) (by funext v0 v1 v2 v3 v4 v5 v6 v7; exact JiH f k n v0 v1 v2 v3 v4 v5 v6 v7))
def Jad (f : Nat) : List PV → List (Nat × Ent) → Kont → Option Res
  | [.ptr 4464 [], .ptr 4465 [], .ptr 4466 [], .ow 5 4467 [] 0 v0 none, .ptr 4468 [], .sc (.int .i64 v1),
  PV.sc
    (Value.int IntKind.i64
      v2)], [(4464, .box false 37 (PV.ar 37 v3)), (4465, .box false 118 (PV.ar 118 v4)), (4466, .box false 112 (PV.ar 112 v5)), (4467, .vec false 5 false v6),
  (4468,
    Ent.box false 118
      (PV.ar 118
        v7))], k => Ve f (fun x0 x1 x2 x3 x4 x5 x6 => k (Ex.exit
  6) (Je Zj N28 [.ptr 4464 [], .ptr 4465 [], .ptr 4466 [], .ow 5 4467 [] 0 x0 none, .ptr 4468 [],
  PV.sc
    (Value.int IntKind.i64
      x1)] [(4464, .box false 37 (PV.ar 37 x2)), (4465, .box false 118 (PV.ar 118 x3)), (4466, .box false 112 (PV.ar 112 x4)), (4467, .vec false 5 false x5),
  (4468, .box false 118 (PV.ar 118 x6))])) f v0 v1 v2 v3 v4 v5 v6 v7
  | _, _, _ => none
theorem Jsv (f : Nat) : Jg JcR Jfs = [] := by kernel_rfl
theorem Jwo (f : Nat) : (Item.l JcR Yj N28 (Jad f)).Ok tau Try.prog 0 := JI Jr Yg Js (x := Jfs) (nm2 := Zj) (Jp _ _ (by rw [Jsv f]; intro q hq; cases hq)) fun vs hp k res hr => by
  unfold Jad at hr
  split at hr
  · exact ⟨f, 0, (JiH f _ f _ _ _ _ _ _ _ _ ).trans hr⟩
  · cases hr
def V5 (f : Nat) (rc : Nat → Int → Int → List PV → List PV → List PV → List PV → List PV → Option Res) (k0 : Nat → Int → List PV → List PV → List PV → List PV → List PV → Option Res) (v0 : Nat) (v1 : Int) (v2 : Int) (v3 : List PV) (v4 : List PV) (v5 : List PV) (v6 : List PV) (v7 : List PV) : Option Res := bif decide (v2 < 64) then bif decide (0 ≤ IntKind.i64.wrap (v2 - 15)) && decide (IntKind.i64.wrap (v2 - 15) < zi 64) && true then bif PV.isInt IntKind.u32 (Jj (PV.ar 118 v7) [(IntKind.i64.wrap (v2 - 15)).toNat]) && true then bif decide (0 ≤ IntKind.i64.wrap (v2 - 2)) && decide (IntKind.i64.wrap (v2 - 2) < zi 64) && true then bif PV.isInt IntKind.u32 (Jj (PV.ar 118 v7) [(IntKind.i64.wrap (v2 - 2)).toNat]) && true then bif decide (0 ≤ IntKind.i64.wrap (v2 - 7)) && decide (IntKind.i64.wrap (v2 - 7) < zi 64) && true then bif PV.isInt IntKind.u32 (Jj (PV.ar 118 v7) [(IntKind.i64.wrap (v2 - 7)).toNat]) && true then bif decide (0 ≤ IntKind.i64.wrap (v2 - 16)) && decide (IntKind.i64.wrap (v2 - 16) < zi 64) && true then bif PV.isInt IntKind.u32 (Jj (PV.ar 118 v7) [(IntKind.i64.wrap (v2 - 16)).toNat]) && true then bif decide (0 ≤ v2) && decide (v2 < zi 64) && true then rc v0 v1 (IntKind.i64.wrap (v2 + 1)) v3 v4 v5 v6 (v7.set v2.toNat (.sc (.int .u32 (IntKind.u32.wrap (IntKind.u32.wrap (IntKind.u32.wrap (JC BinOp.xor IntKind.u32 (JC BinOp.xor IntKind.u32 (rr (Jj (PV.ar 118 v7) [(IntKind.i64.wrap (v2 - 2)).toNat]).int 17) (rr (Jj (PV.ar 118 v7) [(IntKind.i64.wrap (v2 - 2)).toNat]).int 19)) (JF IntKind.u32 (Jj (PV.ar 118 v7) [(IntKind.i64.wrap (v2 - 2)).toNat]).int 10) + (Jj (PV.ar 118 v7) [(IntKind.i64.wrap (v2 - 7)).toNat]).int) + JC BinOp.xor IntKind.u32 (JC BinOp.xor IntKind.u32 (rr (Jj (PV.ar 118 v7) [(IntKind.i64.wrap (v2 - 15)).toNat]).int 7) (rr (Jj (PV.ar 118 v7) [(IntKind.i64.wrap (v2 - 15)).toNat]).int 18)) (JF IntKind.u32 (Jj (PV.ar 118 v7) [(IntKind.i64.wrap (v2 - 15)).toNat]).int 3)) + (Jj (PV.ar 118 v7) [(IntKind.i64.wrap (v2 - 16)).toNat]).int))))) else none else none else none else none else none else none else none else none else none else k0 v0 v1 v3 v4 v5 v6 v7
def Vf (f : Nat) (k0 : Nat → Int → List PV → List PV → List PV → List PV → List PV → Option Res) : Nat → Nat → Int → Int → List PV → List PV → List PV → List PV → List PV → Option Res
  | 0, _, _, _, _, _, _, _, _ => none
  | n + 1, v0, v1, v2, v3, v4, v5, v6, v7 => V5 f (Vf f k0 n) k0 v0 v1 v2 v3 v4 v5 v6 v7
theorem JnV (f : Nat) (k : Kont) (n : Nat) (v0 : Nat) (v1 : Int) (v2 : Int) (v3 : List PV) (v4 : List PV) (v5 : List PV) (v6 : List PV) (v7 : List PV) : Jo tau 0 Yk (fun s k => ev tau F28 0 0 JcS (Jft ) s k) (n + 1) (Je Yk N28 [.ptr 4464 [], .ptr 4465 [], .ptr 4466 [], .ow 5 4467 [] 0 v0 none, .ptr 4468 [], .sc (.int .i64 v1), .sc (.int .i64 v2)] [(4464, .box false 37 (PV.ar 37 v3)), (4465, .box false 118 (PV.ar 118 v4)), (4466, .box false 112 (PV.ar 112 v5)), (4467, .vec false 5 false v6), (4468, .box false 118 (PV.ar 118 v7))]) (Jv tau 0 Zk k) = V5 f (fun v0 v1 v2 v3 v4 v5 v6 v7 => Jo tau 0 Yk (fun s k => ev tau F28 0 0 JcS (Jft ) s k) n (Je Yk N28 [.ptr 4464 [], .ptr 4465 [], .ptr 4466 [], .ow 5 4467 [] 0 v0 none, .ptr 4468 [], .sc (.int .i64 v1), .sc (.int .i64 v2)] [(4464, .box false 37 (PV.ar 37 v3)), (4465, .box false 118 (PV.ar 118 v4)), (4466, .box false 112 (PV.ar 112 v5)), (4467, .vec false 5 false v6), (4468, .box false 118 (PV.ar 118 v7))]) (Jv tau 0 Zk k)) (fun x0 x1 x2 x3 x4 x5 x6 => k (Ex.exit 8) (Je Zk N28 [.ptr 4464 [], .ptr 4465 [], .ptr 4466 [], .ow 5 4467 [] 0 x0 none, .ptr 4468 [], .sc (.int .i64 x1)] [(4464, .box false 37 (PV.ar 37 x2)), (4465, .box false 118 (PV.ar 118 x3)), (4466, .box false 112 (PV.ar 112 x4)), (4467, .vec false 5 false x5), (4468, .box false 118 (PV.ar 118 x6))])) v0 v1 v2 v3 v4 v5 v6 v7 := by kernel_rfl
theorem JiI (f : Nat) (k : Kont) : ∀ (n : Nat) (v0 : Nat) (v1 : Int) (v2 : Int) (v3 : List PV) (v4 : List PV) (v5 : List PV) (v6 : List PV) (v7 : List PV), Jo tau 0 Yk (fun s k => ev tau F28 0 0 JcS (Jft ) s k) n (Je Yk N28 [.ptr 4464 [], .ptr 4465 [], .ptr 4466 [], .ow 5 4467 [] 0 v0 none, .ptr 4468 [], .sc (.int .i64 v1), .sc (.int .i64 v2)] [(4464, .box false 37 (PV.ar 37 v3)), (4465, .box false 118 (PV.ar 118 v4)), (4466, .box false 112 (PV.ar 112 v5)), (4467, .vec false 5 false v6), (4468, .box false 118 (PV.ar 118 v7))]) (Jv tau 0 Zk k) = Vf f (fun x0 x1 x2 x3 x4 x5 x6 => k (Ex.exit 8) (Je Zk N28 [.ptr 4464 [], .ptr 4465 [], .ptr 4466 [], .ow 5 4467 [] 0 x0 none, .ptr 4468 [], .sc (.int .i64 x1)] [(4464, .box false 37 (PV.ar 37 x2)), (4465, .box false 118 (PV.ar 118 x3)), (4466, .box false 112 (PV.ar 112 x4)), (4467, .vec false 5 false x5), (4468, .box false 118 (PV.ar 118 x6))])) n v0 v1 v2 v3 v4 v5 v6 v7 | 0, _, _, _, _, _, _, _, _ => rfl | n + 1, v0, v1, v2, v3, v4, v5, v6, v7 => (JnV f k n v0 v1 v2 v3 v4 v5 v6 v7).trans (congrArg (fun r => V5 f r (fun x0 x1 x2 x3 x4 x5 x6 => k (Ex.exit 8) (Je Zk N28 [.ptr 4464 [], .ptr 4465 [], .ptr 4466 [], .ow 5 4467 [] 0 x0 none, .ptr 4468 [], .sc (.int .i64 x1)] [(4464, .box false 37 (PV.ar 37 x2)), (4465, .box false 118 (PV.ar 118 x3)), (4466, .box false 112 (PV.ar 112 x4)), (4467, .vec false 5 false x5), (4468, .box false 118 (PV.ar 118 x6))])) v0 v1 v2 v3 v4 v5 v6 v7) (by funext v0 v1 v2 v3 v4 v5 v6 v7; exact JiI f k n v0 v1 v2 v3 v4 v5 v6 v7))
def Jae (f : Nat) : List PV → List (Nat × Ent) → Kont → Option Res
  | [.ptr 4464 [], .ptr 4465 [], .ptr 4466 [], .ow 5 4467 [] 0 v0 none, .ptr 4468 [], .sc (.int .i64 v1),
  PV.sc
    (Value.int IntKind.i64
      v2)], [(4464, .box false 37 (PV.ar 37 v3)), (4465, .box false 118 (PV.ar 118 v4)), (4466, .box false 112 (PV.ar 112 v5)), (4467, .vec false 5 false v6),
  (4468,
    Ent.box false 118
      (PV.ar 118
        v7))], k => Vf f (fun x0 x1 x2 x3 x4 x5 x6 => k (Ex.exit
  8) (Je Zk N28 [.ptr 4464 [], .ptr 4465 [], .ptr 4466 [], .ow 5 4467 [] 0 x0 none, .ptr 4468 [],
  PV.sc
    (Value.int IntKind.i64
      x1)] [(4464, .box false 37 (PV.ar 37 x2)), (4465, .box false 118 (PV.ar 118 x3)), (4466, .box false 112 (PV.ar 112 x4)), (4467, .vec false 5 false x5),
  (4468, .box false 118 (PV.ar 118 x6))])) f v0 v1 v2 v3 v4 v5 v6 v7
  | _, _, _ => none
theorem Jsw (f : Nat) : Jg JcS Jft = [] := by kernel_rfl
theorem Jwp (f : Nat) : (Item.l JcS Yk N28 (Jae f)).Ok tau Try.prog 0 := JI Jr Yg Js (x := Jft) (nm2 := Zk) (Jp _ _ (by rw [Jsw f]; intro q hq; cases hq)) fun vs hp k res hr => by
  unfold Jae at hr
  split at hr
  · exact ⟨f, 0, (JiI f _ f _ _ _ _ _ _ _ _ ).trans hr⟩
  · cases hr
def V6 (f : Nat) (rc : Nat → Int → Int → List PV → List PV → List PV → List PV → List PV → List PV → Option Res) (k0 : Nat → Int → List PV → List PV → List PV → List PV → List PV → List PV → Option Res) (v0 : Nat) (v1 : Int) (v2 : Int) (v3 : List PV) (v4 : List PV) (v5 : List PV) (v6 : List PV) (v7 : List PV) (v8 : List PV) : Option Res := bif decide (v2 < 64) then bif PV.isInt IntKind.u32 (Jj (PV.ar 112 v8) [4]) && true then bif PV.isInt IntKind.u32 (Jj (PV.ar 112 v8) [7]) && true then bif PV.isInt IntKind.u32 (Jj (PV.ar 112 v8) [5]) && true then bif PV.isInt IntKind.u32 (Jj (PV.ar 112 v8) [6]) && true then bif decide (0 ≤ v2) && decide (v2 < zi 64) && true then bif PV.isInt IntKind.u32 (Jj (PV.ar 118 v4) [v2.toNat]) && true then bif decide (0 ≤ v2) && decide (v2 < zi 64) && true then bif PV.isInt IntKind.u32 (Jj (PV.ar 118 v7) [v2.toNat]) && true then bif PV.isInt IntKind.u32 (Jj (PV.ar 112 v8) [0]) && true then bif PV.isInt IntKind.u32 (Jj (PV.ar 112 v8) [0]) && true then bif PV.isInt IntKind.u32 (Jj (PV.ar 112 v8) [0]) && true then bif PV.isInt IntKind.u32 (Jj (PV.ar 112 v8) [0]) && true then bif PV.isInt IntKind.u32 (Jj (PV.ar 112 v8) [1]) && true then bif PV.isInt IntKind.u32 (Jj (PV.ar 112 v8) [0]) && true then bif PV.isInt IntKind.u32 (Jj (PV.ar 112 v8) [2]) && true then bif PV.isInt IntKind.u32 (Jj (PV.ar 112 v8) [1]) && true then bif PV.isInt IntKind.u32 (Jj (PV.ar 112 v8) [2]) && true then bif PV.isInt IntKind.u32 (Jj (PV.ar 112 v8) [0]) && true then bif PV.isInt IntKind.u32 (Jj (PV.ar 112 v8) [1]) && true then bif PV.isInt IntKind.u32 (Jj (PV.ar 112 v8) [2]) && true then bif PV.isInt IntKind.u32 (Jj (PV.ar 112 v8) [3]) && true then bif PV.isInt IntKind.u32 (Jj (PV.ar 112 v8) [4]) && true then bif PV.isInt IntKind.u32 (Jj (PV.ar 112 v8) [5]) && true then bif PV.isInt IntKind.u32 (Jj (PV.ar 112 v8) [6]) && true then rc v0 v1 (IntKind.i64.wrap (v2 + 1)) v3 v4 v5 v6 v7 ([.sc (.int .u32 (IntKind.u32.wrap (IntKind.u32.wrap (IntKind.u32.wrap (IntKind.u32.wrap (IntKind.u32.wrap ((Jj (PV.ar 112 v8) [7]).int + JC BinOp.xor IntKind.u32 (JC BinOp.xor IntKind.u32 (rr (Jj (PV.ar 112 v8) [4]).int 6) (rr (Jj (PV.ar 112 v8) [4]).int 11)) (rr (Jj (PV.ar 112 v8) [4]).int 25)) + JC BinOp.xor IntKind.u32 (JC BinOp.and IntKind.u32 (Jj (PV.ar 112 v8) [4]).int (Jj (PV.ar 112 v8) [5]).int) (JC BinOp.and IntKind.u32 (JC BinOp.xor IntKind.u32 (Int.ofNat (2 ^ IntKind.u32.bits - Nat.succ 0)) (Jj (PV.ar 112 v8) [4]).int) (Jj (PV.ar 112 v8) [6]).int)) + (Jj (PV.ar 118 v4) [v2.toNat]).int) + (Jj (PV.ar 118 v7) [v2.toNat]).int) + IntKind.u32.wrap (JC BinOp.xor IntKind.u32 (JC BinOp.xor IntKind.u32 (rr (Jj (PV.ar 112 v8) [0]).int 2) (rr (Jj (PV.ar 112 v8) [0]).int 13)) (rr (Jj (PV.ar 112 v8) [0]).int 22) + JC BinOp.xor IntKind.u32 (JC BinOp.xor IntKind.u32 (JC BinOp.and IntKind.u32 (Jj (PV.ar 112 v8) [0]).int (Jj (PV.ar 112 v8) [1]).int) (JC BinOp.and IntKind.u32 (Jj (PV.ar 112 v8) [0]).int (Jj (PV.ar 112 v8) [2]).int)) (JC BinOp.and IntKind.u32 (Jj (PV.ar 112 v8) [1]).int (Jj (PV.ar 112 v8) [2]).int))))), .sc (.int .u32 (Jj (PV.ar 112 v8) [0]).int), .sc (.int .u32 (Jj (PV.ar 112 v8) [1]).int), .sc (.int .u32 (Jj (PV.ar 112 v8) [2]).int), .sc (.int .u32 (IntKind.u32.wrap ((Jj (PV.ar 112 v8) [3]).int + IntKind.u32.wrap (IntKind.u32.wrap (IntKind.u32.wrap (IntKind.u32.wrap ((Jj (PV.ar 112 v8) [7]).int + JC BinOp.xor IntKind.u32 (JC BinOp.xor IntKind.u32 (rr (Jj (PV.ar 112 v8) [4]).int 6) (rr (Jj (PV.ar 112 v8) [4]).int 11)) (rr (Jj (PV.ar 112 v8) [4]).int 25)) + JC BinOp.xor IntKind.u32 (JC BinOp.and IntKind.u32 (Jj (PV.ar 112 v8) [4]).int (Jj (PV.ar 112 v8) [5]).int) (JC BinOp.and IntKind.u32 (JC BinOp.xor IntKind.u32 (Int.ofNat (2 ^ IntKind.u32.bits - Nat.succ 0)) (Jj (PV.ar 112 v8) [4]).int) (Jj (PV.ar 112 v8) [6]).int)) + (Jj (PV.ar 118 v4) [v2.toNat]).int) + (Jj (PV.ar 118 v7) [v2.toNat]).int)))), .sc (.int .u32 (Jj (PV.ar 112 v8) [4]).int), .sc (.int .u32 (Jj (PV.ar 112 v8) [5]).int), .sc (.int .u32 (Jj (PV.ar 112 v8) [6]).int)]) else none else none else none else none else none else none else none else none else none else none else none else none else none else none else none else none else none else none else none else none else none else none else none else none else k0 v0 v1 v3 v4 v5 v6 v7 v8
def Vg (f : Nat) (k0 : Nat → Int → List
  PV → List PV → List PV → List PV → List PV → List PV → Option Res) : Nat → Nat → Int → Int → List PV → List PV → List PV → List PV → List PV → List PV → Option Res
  | 0, _, _, _, _, _, _, _, _, _ => none
  | n + 1, v0, v1, v2, v3, v4, v5, v6, v7, v8 => V6 f (Vg f k0 n) k0 v0 v1 v2 v3 v4 v5 v6 v7 v8
theorem JnW (f : Nat) (k : Kont) (n : Nat) (v0 : Nat) (v1 : Int) (v2 : Int) (v3 : List PV) (v4 : List PV) (v5 : List PV) (v6 : List PV) (v7 : List PV) (v8 : List PV) : Jo tau 0 Yl (fun s k => ev tau F28 0 0 JcT (Jfu ) s k) (n + 1) (Je Yl N28 [.ptr 4464 [], .ptr 4465 [], .ptr 4466 [], .ow 5 4467 [] 0 v0 none, .ptr 4468 [], .sc (.int .i64 v1), .ptr 4469 [], .sc (.int .i64 v2)] [(4464, .box false 37 (PV.ar 37 v3)), (4465, .box false 118 (PV.ar 118 v4)), (4466, .box false 112 (PV.ar 112 v5)), (4467, .vec false 5 false v6), (4468, .box false 118 (PV.ar 118 v7)), (4469, .box false 112 (PV.ar 112 v8))]) (Jv tau 0 Zl k) = V6 f (fun v0 v1 v2 v3 v4 v5 v6 v7 v8 => Jo tau 0 Yl (fun s k => ev tau F28 0 0 JcT (Jfu ) s k) n (Je Yl N28 [.ptr 4464 [], .ptr 4465 [], .ptr 4466 [], .ow 5 4467 [] 0 v0 none, .ptr 4468 [], .sc (.int .i64 v1), .ptr 4469 [], .sc (.int .i64 v2)] [(4464, .box false 37 (PV.ar 37 v3)), (4465, .box false 118 (PV.ar 118 v4)), (4466, .box false 112 (PV.ar 112 v5)), (4467, .vec false 5 false v6), (4468, .box false 118 (PV.ar 118 v7)), (4469, .box false 112 (PV.ar 112 v8))]) (Jv tau 0 Zl k)) (fun x0 x1 x2 x3 x4 x5 x6 x7 => k (Ex.exit 10) (Je Zl N28 [.ptr 4464 [], .ptr 4465 [], .ptr 4466 [], .ow 5 4467 [] 0 x0 none, .ptr 4468 [], .sc (.int .i64 x1), .ptr 4469 []] [(4464, .box false 37 (PV.ar 37 x2)), (4465, .box false 118 (PV.ar 118 x3)), (4466, .box false 112 (PV.ar 112 x4)), (4467, .vec false 5 false x5), (4468, .box false 118 (PV.ar 118 x6)), (4469, .box false 112 (PV.ar 112 x7))])) v0 v1 v2 v3 v4 v5 v6 v7 v8 := by kernel_rfl
theorem JiJ (f : Nat) (k : Kont) : ∀ (n : Nat) (v0 : Nat) (v1 : Int) (v2 : Int) (v3 : List PV) (v4 : List PV) (v5 : List PV) (v6 : List PV) (v7 : List PV) (v8 : List PV), Jo tau 0 Yl (fun s k => ev tau F28 0 0 JcT (Jfu ) s k) n (Je Yl N28 [.ptr 4464 [], .ptr 4465 [], .ptr 4466 [], .ow 5 4467 [] 0 v0 none, .ptr 4468 [], .sc (.int .i64 v1), .ptr 4469 [], .sc (.int .i64 v2)] [(4464, .box false 37 (PV.ar 37 v3)), (4465, .box false 118 (PV.ar 118 v4)), (4466, .box false 112 (PV.ar 112 v5)), (4467, .vec false 5 false v6), (4468, .box false 118 (PV.ar 118 v7)), (4469, .box false 112 (PV.ar 112 v8))]) (Jv tau 0 Zl k) = Vg f (fun x0 x1 x2 x3 x4 x5 x6 x7 => k (Ex.exit 10) (Je Zl N28 [.ptr 4464 [], .ptr 4465 [], .ptr 4466 [], .ow 5 4467 [] 0 x0 none, .ptr 4468 [], .sc (.int .i64 x1), .ptr 4469 []] [(4464, .box false 37 (PV.ar 37 x2)), (4465, .box false 118 (PV.ar 118 x3)), (4466, .box false 112 (PV.ar 112 x4)), (4467, .vec false 5 false x5), (4468, .box false 118 (PV.ar 118 x6)), (4469, .box false 112 (PV.ar 112 x7))])) n v0 v1 v2 v3 v4 v5 v6 v7 v8 | 0, _, _, _, _, _, _, _, _, _ => rfl | n + 1, v0, v1, v2, v3, v4, v5, v6, v7, v8 => (JnW f k n v0 v1 v2 v3 v4 v5 v6 v7 v8).trans (congrArg (fun r => V6 f r (fun x0 x1 x2 x3 x4 x5 x6 x7 => k (Ex.exit 10) (Je Zl N28 [.ptr 4464 [], .ptr 4465 [], .ptr 4466 [], .ow 5 4467 [] 0 x0 none, .ptr 4468 [], .sc (.int .i64 x1), .ptr 4469 []] [(4464, .box false 37 (PV.ar 37 x2)), (4465, .box false 118 (PV.ar 118 x3)), (4466, .box false 112 (PV.ar 112 x4)), (4467, .vec false 5 false x5), (4468, .box false 118 (PV.ar 118 x6)), (4469, .box false 112 (PV.ar 112 x7))])) v0 v1 v2 v3 v4 v5 v6 v7 v8) (by funext v0 v1 v2 v3 v4 v5 v6 v7 v8; exact JiJ f k n v0 v1 v2 v3 v4 v5 v6 v7 v8))
def Jaf (f : Nat) : List PV → List (Nat × Ent) → Kont → Option Res
  | [.ptr 4464 [], .ptr 4465 [], .ptr 4466 [], .ow 5 4467 [] 0 v0 none, .ptr 4468 [], .sc (.int .i64 v1), .ptr 4469 [],
  PV.sc
    (Value.int IntKind.i64
      v2)], [(4464, .box false 37 (PV.ar 37 v3)), (4465, .box false 118 (PV.ar 118 v4)), (4466, .box false 112 (PV.ar 112 v5)), (4467, .vec false 5 false v6),
  (4468, .box false 118 (PV.ar 118 v7)),
  (4469,
    Ent.box false 112
      (PV.ar 112
        v8))], k => Vg f (fun x0 x1 x2 x3 x4 x5 x6 x7 => k (Ex.exit
  10) (Je Zl N28 [.ptr 4464 [], .ptr 4465 [], .ptr 4466 [], .ow 5 4467 [] 0 x0 none, .ptr 4468 [], .sc (.int .i64 x1),
  PV.ptr 4469
    []] [(4464, .box false 37 (PV.ar 37 x2)), (4465, .box false 118 (PV.ar 118 x3)), (4466, .box false 112 (PV.ar 112 x4)), (4467, .vec false 5 false x5),
  (4468, .box false 118 (PV.ar 118 x6)), (4469, .box false 112 (PV.ar 112 x7))])) f v0 v1 v2 v3 v4 v5 v6 v7 v8
  | _, _, _ => none
theorem Jsx (f : Nat) : Jg JcT Jfu = [] := by kernel_rfl
theorem Jwq (f : Nat) : (Item.l JcT Yl N28 (Jaf f)).Ok tau Try.prog 0 := JI Jr Yg Js (x := Jfu) (nm2 := Zl) (Jp _ _ (by rw [Jsx f]; intro q hq; cases hq)) fun vs hp k res hr => by
  unfold Jaf at hr
  split at hr
  · exact ⟨f, 0, (JiJ f _ f _ _ _ _ _ _ _ _ _ ).trans hr⟩
  · cases hr
def V7 (f : Nat) (rc : Nat → Int → Int → List PV → List PV → List PV → List PV → List PV → List PV → Option Res) (k0 : Nat → Int → List PV → List PV → List PV → List PV → List PV → Option Res) (v0 : Nat) (v1 : Int) (v2 : Int) (v3 : List PV) (v4 : List PV) (v5 : List PV) (v6 : List PV) (v7 : List PV) (v8 : List PV) : Option Res := bif decide (v2 < 8) then bif decide (0 ≤ v2) && decide (v2 < zi 8) && true then bif PV.isInt IntKind.u32 (Jj (PV.ar 112 v5) [v2.toNat]) && true then bif decide (0 ≤ v2) && decide (v2 < zi 8) && true then bif PV.isInt IntKind.u32 (Jj (PV.ar 112 v8) [v2.toNat]) && true then bif decide (0 ≤ v2) && decide (v2 < zi 8) && true then rc v0 v1 (IntKind.i64.wrap (v2 + 1)) v3 v4 (v5.set v2.toNat (.sc (.int .u32 (IntKind.u32.wrap ((Jj (PV.ar 112 v5) [v2.toNat]).int + (Jj (PV.ar 112 v8) [v2.toNat]).int))))) v6 v7 v8 else none else none else none else none else none else k0 v0 v1 v3 v4 v5 v6 v7
def Vh (f : Nat) (k0 : Nat → Int → List PV → List PV → List PV → List PV → List PV → Option Res) : Nat → Nat → Int → Int → List PV → List PV → List PV → List PV → List PV → List PV → Option Res
  | 0, _, _, _, _, _, _, _, _, _ => none
  | n + 1, v0, v1, v2, v3, v4, v5, v6, v7, v8 => V7 f (Vh f k0 n) k0 v0 v1 v2 v3 v4 v5 v6 v7 v8
theorem JnX (f : Nat) (k : Kont) (n : Nat) (v0 : Nat) (v1 : Int) (v2 : Int) (v3 : List PV) (v4 : List PV) (v5 : List PV) (v6 : List PV) (v7 : List PV) (v8 : List PV) : Jo tau 0 Ym (fun s k => ev tau F28 0 0 JcU (Jfv ) s k) (n + 1) (Je Ym N28 [.ptr 4464 [], .ptr 4465 [], .ptr 4466 [], .ow 5 4467 [] 0 v0 none, .ptr 4468 [], .sc (.int .i64 v1), .ptr 4469 [], .sc (.int .i64 v2)] [(4464, .box false 37 (PV.ar 37 v3)), (4465, .box false 118 (PV.ar 118 v4)), (4466, .box false 112 (PV.ar 112 v5)), (4467, .vec false 5 false v6), (4468, .box false 118 (PV.ar 118 v7)), (4469, .box false 112 (PV.ar 112 v8))]) (Jv tau 0 Zm k) = V7 f (fun v0 v1 v2 v3 v4 v5 v6 v7 v8 => Jo tau 0 Ym (fun s k => ev tau F28 0 0 JcU (Jfv ) s k) n (Je Ym N28 [.ptr 4464 [], .ptr 4465 [], .ptr 4466 [], .ow 5 4467 [] 0 v0 none, .ptr 4468 [], .sc (.int .i64 v1), .ptr 4469 [], .sc (.int .i64 v2)] [(4464, .box false 37 (PV.ar 37 v3)), (4465, .box false 118 (PV.ar 118 v4)), (4466, .box false 112 (PV.ar 112 v5)), (4467, .vec false 5 false v6), (4468, .box false 118 (PV.ar 118 v7)), (4469, .box false 112 (PV.ar 112 v8))]) (Jv tau 0 Zm k)) (fun x0 x1 x2 x3 x4 x5 x6 => k (Ex.exit 12) (Je Zm N28 [.ptr 4464 [], .ptr 4465 [], .ptr 4466 [], .ow 5 4467 [] 0 x0 none, .ptr 4468 [], .sc (.int .i64 x1)] [(4464, .box false 37 (PV.ar 37 x2)), (4465, .box false 118 (PV.ar 118 x3)), (4466, .box false 112 (PV.ar 112 x4)), (4467, .vec false 5 false x5), (4468, .box false 118 (PV.ar 118 x6))])) v0 v1 v2 v3 v4 v5 v6 v7 v8 := by kernel_rfl
theorem JiK (f : Nat) (k : Kont) : ∀ (n : Nat) (v0 : Nat) (v1 : Int) (v2 : Int) (v3 : List PV) (v4 : List PV) (v5 : List PV) (v6 : List PV) (v7 : List PV) (v8 : List PV), Jo tau 0 Ym (fun s k => ev tau F28 0 0 JcU (Jfv ) s k) n (Je Ym N28 [.ptr 4464 [], .ptr 4465 [], .ptr 4466 [], .ow 5 4467 [] 0 v0 none, .ptr 4468 [], .sc (.int .i64 v1), .ptr 4469 [], .sc (.int .i64 v2)] [(4464, .box false 37 (PV.ar 37 v3)), (4465, .box false 118 (PV.ar 118 v4)), (4466, .box false 112 (PV.ar 112 v5)), (4467, .vec false 5 false v6), (4468, .box false 118 (PV.ar 118 v7)), (4469, .box false 112 (PV.ar 112 v8))]) (Jv tau 0 Zm k) = Vh f (fun x0 x1 x2 x3 x4 x5 x6 => k (Ex.exit 12) (Je Zm N28 [.ptr 4464 [], .ptr 4465 [], .ptr 4466 [], .ow 5 4467 [] 0 x0 none, .ptr 4468 [], .sc (.int .i64 x1)] [(4464, .box false 37 (PV.ar 37 x2)), (4465, .box false 118 (PV.ar 118 x3)), (4466, .box false 112 (PV.ar 112 x4)), (4467, .vec false 5 false x5), (4468, .box false 118 (PV.ar 118 x6))])) n v0 v1 v2 v3 v4 v5 v6 v7 v8 | 0, _, _, _, _, _, _, _, _, _ => rfl | n + 1, v0, v1, v2, v3, v4, v5, v6, v7, v8 => (JnX f k n v0 v1 v2 v3 v4 v5 v6 v7 v8).trans (congrArg (fun r => V7 f r (fun x0 x1 x2 x3 x4 x5 x6 => k (Ex.exit 12) (Je Zm N28 [.ptr 4464 [], .ptr 4465 [], .ptr 4466 [], .ow 5 4467 [] 0 x0 none, .ptr 4468 [], .sc (.int .i64 x1)] [(4464, .box false 37 (PV.ar 37 x2)), (4465, .box false 118 (PV.ar 118 x3)), (4466, .box false 112 (PV.ar 112 x4)), (4467, .vec false 5 false x5), (4468, .box false 118 (PV.ar 118 x6))])) v0 v1 v2 v3 v4 v5 v6 v7 v8) (by funext v0 v1 v2 v3 v4 v5 v6 v7 v8; exact JiK f k n v0 v1 v2 v3 v4 v5 v6 v7 v8))
def Jag (f : Nat) : List PV → List (Nat × Ent) → Kont → Option Res
  | [.ptr 4464 [], .ptr 4465 [], .ptr 4466 [], .ow 5 4467 [] 0 v0 none, .ptr 4468 [], .sc (.int .i64 v1), .ptr 4469 [],
  PV.sc
    (Value.int IntKind.i64
      v2)], [(4464, .box false 37 (PV.ar 37 v3)), (4465, .box false 118 (PV.ar 118 v4)), (4466, .box false 112 (PV.ar 112 v5)), (4467, .vec false 5 false v6),
  (4468, .box false 118 (PV.ar 118 v7)),
  (4469,
    Ent.box false 112
      (PV.ar 112
        v8))], k => Vh f (fun x0 x1 x2 x3 x4 x5 x6 => k (Ex.exit
  12) (Je Zm N28 [.ptr 4464 [], .ptr 4465 [], .ptr 4466 [], .ow 5 4467 [] 0 x0 none, .ptr 4468 [],
  PV.sc
    (Value.int IntKind.i64
      x1)] [(4464, .box false 37 (PV.ar 37 x2)), (4465, .box false 118 (PV.ar 118 x3)), (4466, .box false 112 (PV.ar 112 x4)), (4467, .vec false 5 false x5),
  (4468, .box false 118 (PV.ar 118 x6))])) f v0 v1 v2 v3 v4 v5 v6 v7 v8
  | _, _, _ => none
theorem Jsy (f : Nat) : Jg JcU Jfv = [] := by kernel_rfl
theorem Jwr (f : Nat) : (Item.l JcU Ym N28 (Jag f)).Ok tau Try.prog 0 := JI Jr Yg Js (x := Jfv) (nm2 := Zm) (Jp _ _ (by rw [Jsy f]; intro q hq; cases hq)) fun vs hp k res hr => by
  unfold Jag at hr
  split at hr
  · exact ⟨f, 0, (JiK f _ f _ _ _ _ _ _ _ _ _ ).trans hr⟩
  · cases hr
def V8 (f : Nat) (rc : Nat → Int → List PV → List PV → List PV → List PV → List PV → Option Res) (k0 : List PV → List PV → Option Res) (v0 : Nat) (v1 : Int) (v2 : List PV) (v3 : List PV) (v4 : List PV) (v5 : List PV) (v6 : List PV) : Option Res := bif decide (v1 < zi v0) then Ve f (fun x0_2 x1_2 x2_2 x3_2 x4_2 x5_2 x6_2 => Vf f (fun x0_3 x1_3 x2_3 x3_3 x4_3 x5_3 x6_3 => Vg f (fun x0_4 x1_4 x2_4 x3_4 x4_4 x5_4 x6_4 x7_4 => Vh f (fun x0_5 x1_5 x2_5 x3_5 x4_5 x5_5 x6_5 => rc x0_5 (IntKind.i64.wrap (x1_5 + 64)) x2_5 x3_5 x4_5 x5_5 x6_5) f x0_4 x1_4 (0) x2_4 x3_4 x4_4 x5_4 x6_4 x7_4) f x0_3 x1_3 (0) x2_3 x3_3 x4_3 x5_3 x6_3 x4_3) f x0_2 x1_2 (16) x2_2 x3_2 x4_2 x5_2 x6_2) f v0 v1 (0) v2 v3 v4 v5 v6 else k0 v2 v4
def Vi (f : Nat) (k0 : List PV → List PV → Option Res) : Nat → Nat → Int → List PV → List PV → List PV → List PV → List PV → Option Res
  | 0, _, _, _, _, _, _, _ => none
  | n + 1, v0, v1, v2, v3, v4, v5, v6 => V8 f (Vi f k0 n) k0 v0 v1 v2 v3 v4 v5 v6
theorem JnY (f : Nat) (k : Kont) (n : Nat) (v0 : Nat) (v1 : Int) (v2 : List PV) (v3 : List PV) (v4 : List PV) (v5 : List PV) (v6 : List PV) : Jo tau 0 Yn (fun s k => ev tau F28 0 0 JcV (Jfw (Jad f) (Jae f) (Jaf f) (Jag f)) s k) (n + 1) (Je Yn N28 [.ptr 4464 [], .ptr 4465 [], .ptr 4466 [], .ow 5 4467 [] 0 v0 none, .ptr 4468 [], .sc (.int .i64 v1)] [(4464, .box false 37 (PV.ar 37 v2)), (4465, .box false 118 (PV.ar 118 v3)), (4466, .box false 112 (PV.ar 112 v4)), (4467, .vec false 5 false v5), (4468, .box false 118 (PV.ar 118 v6))]) (Jv tau 0 Zn k) = V8 f (fun v0 v1 v2 v3 v4 v5 v6 => Jo tau 0 Yn (fun s k => ev tau F28 0 0 JcV (Jfw (Jad f) (Jae f) (Jaf f) (Jag f)) s k) n (Je Yn N28 [.ptr 4464 [], .ptr 4465 [], .ptr 4466 [], .ow 5 4467 [] 0 v0 none, .ptr 4468 [], .sc (.int .i64 v1)] [(4464, .box false 37 (PV.ar 37 v2)), (4465, .box false 118 (PV.ar 118 v3)), (4466, .box false 112 (PV.ar 112 v4)), (4467, .vec false 5 false v5), (4468, .box false 118 (PV.ar 118 v6))]) (Jv tau 0 Zn k)) (fun x0 x1 => k (Ex.exit 4) (Je Zn N28 [.ptr 4464 [], .ptr 4465 []] [(4464, .box false 37 (PV.ar 37 x0)), (4465, .box false 112 (PV.ar 112 x1))])) v0 v1 v2 v3 v4 v5 v6 := by kernel_rfl
theorem JiL (f : Nat) (k : Kont) : ∀ (n : Nat) (v0 : Nat) (v1 : Int) (v2 : List PV) (v3 : List PV) (v4 : List PV) (v5 : List PV) (v6 : List PV), Jo tau 0 Yn (fun s k => ev tau F28 0 0 JcV (Jfw (Jad f) (Jae f) (Jaf f) (Jag f)) s k) n (Je Yn N28 [.ptr 4464 [], .ptr 4465 [], .ptr 4466 [], .ow 5 4467 [] 0 v0 none, .ptr 4468 [], .sc (.int .i64 v1)] [(4464, .box false 37 (PV.ar 37 v2)), (4465, .box false 118 (PV.ar 118 v3)), (4466, .box false 112 (PV.ar 112 v4)), (4467, .vec false 5 false v5), (4468, .box false 118 (PV.ar 118 v6))]) (Jv tau 0 Zn k) = Vi f (fun x0 x1 => k (Ex.exit 4) (Je Zn N28 [.ptr 4464 [], .ptr 4465 []] [(4464, .box false 37 (PV.ar 37 x0)), (4465, .box false 112 (PV.ar 112 x1))])) n v0 v1 v2 v3 v4 v5 v6 | 0, _, _, _, _, _, _, _ => rfl | n + 1, v0, v1, v2, v3, v4, v5, v6 => (JnY f k n v0 v1 v2 v3 v4 v5 v6).trans (congrArg (fun r => V8 f r (fun x0 x1 => k (Ex.exit 4) (Je Zn N28 [.ptr 4464 [], .ptr 4465 []] [(4464, .box false 37 (PV.ar 37 x0)), (4465, .box false 112 (PV.ar 112 x1))])) v0 v1 v2 v3 v4 v5 v6) (by funext v0 v1 v2 v3 v4 v5 v6; exact JiL f k n v0 v1 v2 v3 v4 v5 v6))
def Jbx (f : Nat) : List PV → List (Nat × Ent) → Kont → Option Res
  | [.ptr 4464 [], .ptr 4465 [], .ptr 4466 [], .ow 5 4467 [] 0 v0 none, .ptr 4468 [],
  PV.sc
    (Value.int IntKind.i64
      v1)], [(4464, .box false 37 (PV.ar 37 v2)), (4465, .box false 118 (PV.ar 118 v3)), (4466, .box false 112 (PV.ar 112 v4)), (4467, .vec false 5 false v5),
  (4468,
    Ent.box false 118
      (PV.ar 118
        v6))], k => Vi f (fun x0 x1 => k (Ex.exit
  4) (Je Zn N28 [.ptr 4464 [], .ptr 4465 []] [(4464, .box false 37 (PV.ar 37 x0)), (4465, .box false 112 (PV.ar 112 x1))])) f v0 v1 v2 v3 v4 v5 v6
  | _, _, _ => none
theorem Jsz (f : Nat) : Jg JcV (Jfw (Jad f) (Jae f) (Jaf f) (Jag f)) = [.l JcR Yj N28 (Jad f), .l JcS Yk N28 (Jae f), .l JcT Yl N28 (Jaf f), .l JcU Ym N28 (Jag f)] := by kernel_rfl
theorem Jws (f : Nat) : (Item.l JcV Yn N28 (Jbx f)).Ok tau Try.prog 0 := JI Jr Yg Js (x := (Jfw (Jad f) (Jae f) (Jaf f) (Jag f))) (nm2 := Zn) (Jp _ _ (by rw [Jsz f]; simp only [List.forall_mem_cons, List.not_mem_nil, false_implies, implies_true, and_true]; exact ⟨Jwo f, Jwp f, Jwq f, Jwr f⟩)) fun vs hp k res hr => by
  unfold Jbx at hr
  split at hr
  · exact ⟨f, 0, (JiL f _ f _ _ _ _ _ _ _ ).trans hr⟩
  · cases hr
def V9 (f : Nat) (rc : Int → List PV → List PV → List PV → Option Res) (k0 : List PV → List PV → Option Res) (v0 : Int) (v1 : List PV) (v2 : List PV) (v3 : List PV) : Option Res := bif decide (v0 < 8) then bif decide (0 ≤ v0) && decide (v0 < zi 8) && true then bif PV.isInt IntKind.u32 (Jj (PV.ar 112 v2) [v0.toNat]) && true then bif decide (0 ≤ v0) && decide (v0 < zi 8) && true then bif PV.isInt IntKind.u32 (Jj (PV.ar 112 v2) [v0.toNat]) && true then bif decide (0 ≤ v0) && decide (v0 < zi 8) && true then bif PV.isInt IntKind.u32 (Jj (PV.ar 112 v2) [v0.toNat]) && true then bif decide (0 ≤ v0) && decide (v0 < zi 8) && true then bif PV.isInt IntKind.u32 (Jj (PV.ar 112 v2) [v0.toNat]) && true then bif decide (0 ≤ IntKind.i64.wrap (4 * v0)) && decide (IntKind.i64.wrap (4 * v0) < zi 32) && true then bif decide (0 ≤ IntKind.i64.wrap (IntKind.i64.wrap (4 * v0) + 1)) && decide (IntKind.i64.wrap (IntKind.i64.wrap (4 * v0) + 1) < zi 32) && true then bif decide (0 ≤ IntKind.i64.wrap (IntKind.i64.wrap (4 * v0) + 2)) && decide (IntKind.i64.wrap (IntKind.i64.wrap (4 * v0) + 2) < zi 32) && true then bif decide (0 ≤ IntKind.i64.wrap (IntKind.i64.wrap (4 * v0) + 3)) && decide (IntKind.i64.wrap (IntKind.i64.wrap (4 * v0) + 3) < zi 32) && true then rc (IntKind.i64.wrap (v0 + 1)) v1 v2 ((((v3.set (IntKind.i64.wrap (4 * v0)).toNat (.sc (.int .u8 (IntKind.u8.wrap (JF IntKind.u32 (Jj (PV.ar 112 v2) [v0.toNat]).int 24))))).set (IntKind.i64.wrap (IntKind.i64.wrap (4 * v0) + 1)).toNat (.sc (.int .u8 (IntKind.u8.wrap (JF IntKind.u32 (Jj (PV.ar 112 v2) [v0.toNat]).int 16))))).set (IntKind.i64.wrap (IntKind.i64.wrap (4 * v0) + 2)).toNat (.sc (.int .u8 (IntKind.u8.wrap (JF IntKind.u32 (Jj (PV.ar 112 v2) [v0.toNat]).int 8))))).set (IntKind.i64.wrap (IntKind.i64.wrap (4 * v0) + 3)).toNat (.sc (.int .u8 (IntKind.u8.wrap (Jj (PV.ar 112 v2) [v0.toNat]).int)))) else none else none else none else none else none else none else none else none else none else none else none else none else k0 v1 v3
def Vj (f : Nat) (k0 : List PV → List PV → Option Res) : Nat → Int → List PV → List PV → List PV → Option Res
  | 0, _, _, _, _ => none
  | n + 1, v0, v1, v2, v3 => V9 f (Vj f k0 n) k0 v0 v1 v2 v3
theorem JnZ (f : Nat) (k : Kont) (n : Nat) (v0 : Int) (v1 : List PV) (v2 : List PV) (v3 : List PV) : Jo tau 0 Yo (fun s k => ev tau F28 0 0 JcW (Jfx ) s k) (n + 1) (Je Yo N28 [.ptr 4464 [], .ptr 4465 [], .ptr 4466 [], .sc (.int .i64 v0)] [(4464, .box false 37 (PV.ar 37 v1)), (4465, .box false 112 (PV.ar 112 v2)), (4466, .box false 37 (PV.ar 37 v3))]) (Jv tau 0 Zo k) = V9 f (fun v0 v1 v2 v3 => Jo tau 0 Yo (fun s k => ev tau F28 0 0 JcW (Jfx ) s k) n (Je Yo N28 [.ptr 4464 [], .ptr 4465 [], .ptr 4466 [], .sc (.int .i64 v0)] [(4464, .box false 37 (PV.ar 37 v1)), (4465, .box false 112 (PV.ar 112 v2)), (4466, .box false 37 (PV.ar 37 v3))]) (Jv tau 0 Zo k)) (fun x0 x1 => k (Ex.exit 14) (Je Zo N28 [.ptr 4464 [], .ptr 4465 []] [(4464, .box false 37 (PV.ar 37 x0)), (4465, .box false 37 (PV.ar 37 x1))])) v0 v1 v2 v3 := by kernel_rfl
theorem JiM (f : Nat) (k : Kont) : ∀ (n : Nat) (v0 : Int) (v1 : List PV) (v2 : List PV) (v3 : List PV), Jo tau 0 Yo (fun s k => ev tau F28 0 0 JcW (Jfx ) s k) n (Je Yo N28 [.ptr 4464 [], .ptr 4465 [], .ptr 4466 [], .sc (.int .i64 v0)] [(4464, .box false 37 (PV.ar 37 v1)), (4465, .box false 112 (PV.ar 112 v2)), (4466, .box false 37 (PV.ar 37 v3))]) (Jv tau 0 Zo k) = Vj f (fun x0 x1 => k (Ex.exit 14) (Je Zo N28 [.ptr 4464 [], .ptr 4465 []] [(4464, .box false 37 (PV.ar 37 x0)), (4465, .box false 37 (PV.ar 37 x1))])) n v0 v1 v2 v3 | 0, _, _, _, _ => rfl | n + 1, v0, v1, v2, v3 => (JnZ f k n v0 v1 v2 v3).trans (congrArg (fun r => V9 f r (fun x0 x1 => k (Ex.exit 14) (Je Zo N28 [.ptr 4464 [], .ptr 4465 []] [(4464, .box false 37 (PV.ar 37 x0)), (4465, .box false 37 (PV.ar 37 x1))])) v0 v1 v2 v3) (by funext v0 v1 v2 v3; exact JiM f k n v0 v1 v2 v3))
def Jby (f : Nat) : List PV → List (Nat × Ent) → Kont → Option Res
  | [.ptr 4464 [], .ptr 4465 [], .ptr 4466 [],
  PV.sc
    (Value.int IntKind.i64
      v0)], [(4464, .box false 37 (PV.ar 37 v1)), (4465, .box false 112 (PV.ar 112 v2)),
  (4466,
    Ent.box false 37
      (PV.ar 37
        v3))], k => Vj f (fun x0 x1 => k (Ex.exit
  14) (Je Zo N28 [.ptr 4464 [], .ptr 4465 []] [(4464, .box false 37 (PV.ar 37 x0)), (4465, .box false 37 (PV.ar 37 x1))])) f v0 v1 v2 v3
  | _, _, _ => none
theorem JsA (f : Nat) : Jg JcW Jfx = [] := by kernel_rfl
theorem Jwt (f : Nat) : (Item.l JcW Yo N28 (Jby f)).Ok tau Try.prog 0 := JI Jr Yg Js (x := Jfx) (nm2 := Zo) (Jp _ _ (by rw [JsA f]; intro q hq; cases hq)) fun vs hp k res hr => by
  unfold Jby at hr
  split at hr
  · exact ⟨f, 0, (JiM f _ f _ _ _ _ ).trans hr⟩
  · cases hr
def g28 (f : Nat) (nl : Bool) (fl : Bool) (b : List PV) (k : Res → Option Res) : Option Res := bif Jn (0 + b.length) 1 && true then bif Jn (0 + b.length + 1) 1 && true then Vc f (fun x0_0 x1_0 x2_0 x3_0 x4_0 x5_0 x6_0 x7_0 => Vd f (fun x0_1 x1_1 x2_1 x3_1 x4_1 => Vi f (fun x0_6 x1_6 => Vj f (fun x0_7 x1_7 => k (Res.mk (.ar 37 x1_7) [] [])) f (0) x0_6 x1_6 ([.sc (.int .u8 0), .sc (.int .u8 0), .sc (.int .u8 0), .sc (.int .u8 0), .sc (.int .u8 0), .sc (.int .u8 0), .sc (.int .u8 0), .sc (.int .u8 0), .sc (.int .u8 0), .sc (.int .u8 0), .sc (.int .u8 0), .sc (.int .u8 0), .sc (.int .u8 0), .sc (.int .u8 0), .sc (.int .u8 0), .sc (.int .u8 0), .sc (.int .u8 0), .sc (.int .u8 0), .sc (.int .u8 0), .sc (.int .u8 0), .sc (.int .u8 0), .sc (.int .u8 0), .sc (.int .u8 0), .sc (.int .u8 0), .sc (.int .u8 0), .sc (.int .u8 0), .sc (.int .u8 0), .sc (.int .u8 0), .sc (.int .u8 0), .sc (.int .u8 0), .sc (.int .u8 0), .sc (.int .u8 0)])) f x0_1 (0) x1_1 x2_1 x3_1 x4_1 ([.sc (.int .u32 0), .sc (.int .u32 0), .sc (.int .u32 0), .sc (.int .u32 0), .sc (.int .u32 0), .sc (.int .u32 0), .sc (.int .u32 0), .sc (.int .u32 0), .sc (.int .u32 0), .sc (.int .u32 0), .sc (.int .u32 0), .sc (.int .u32 0), .sc (.int .u32 0), .sc (.int .u32 0), .sc (.int .u32 0), .sc (.int .u32 0), .sc (.int .u32 0), .sc (.int .u32 0), .sc (.int .u32 0), .sc (.int .u32 0), .sc (.int .u32 0), .sc (.int .u32 0), .sc (.int .u32 0), .sc (.int .u32 0), .sc (.int .u32 0), .sc (.int .u32 0), .sc (.int .u32 0), .sc (.int .u32 0), .sc (.int .u32 0), .sc (.int .u32 0), .sc (.int .u32 0), .sc (.int .u32 0), .sc (.int .u32 0), .sc (.int .u32 0), .sc (.int .u32 0), .sc (.int .u32 0), .sc (.int .u32 0), .sc (.int .u32 0), .sc (.int .u32 0), .sc (.int .u32 0), .sc (.int .u32 0), .sc (.int .u32 0), .sc (.int .u32 0), .sc (.int .u32 0), .sc (.int .u32 0), .sc (.int .u32 0), .sc (.int .u32 0), .sc (.int .u32 0), .sc (.int .u32 0), .sc (.int .u32 0), .sc (.int .u32 0), .sc (.int .u32 0), .sc (.int .u32 0), .sc (.int .u32 0), .sc (.int .u32 0), .sc (.int .u32 0), .sc (.int .u32 0), .sc (.int .u32 0), .sc (.int .u32 0), .sc (.int .u32 0), .sc (.int .u32 0), .sc (.int .u32 0), .sc (.int .u32 0), .sc (.int .u32 0)])) f x3_0 (IntKind.u64.wrap (IntKind.u64.wrap (zi x2_0.length) * 8)) (7) x4_0 x5_0 x6_0 x7_0) f nl fl b (0 + b.length + 1) ([.sc (.int .u8 0), .sc (.int .u8 0), .sc (.int .u8 0), .sc (.int .u8 0), .sc (.int .u8 0), .sc (.int .u8 0), .sc (.int .u8 0), .sc (.int .u8 0), .sc (.int .u8 0), .sc (.int .u8 0), .sc (.int .u8 0), .sc (.int .u8 0), .sc (.int .u8 0), .sc (.int .u8 0), .sc (.int .u8 0), .sc (.int .u8 0), .sc (.int .u8 0), .sc (.int .u8 0), .sc (.int .u8 0), .sc (.int .u8 0), .sc (.int .u8 0), .sc (.int .u8 0), .sc (.int .u8 0), .sc (.int .u8 0), .sc (.int .u8 0), .sc (.int .u8 0), .sc (.int .u8 0), .sc (.int .u8 0), .sc (.int .u8 0), .sc (.int .u8 0), .sc (.int .u8 0), .sc (.int .u8 0)]) ([.sc (.int .u32 1116352408), .sc (.int .u32 1899447441), .sc (.int .u32 3049323471), .sc (.int .u32 3921009573), .sc (.int .u32 961987163), .sc (.int .u32 1508970993), .sc (.int .u32 2453635748), .sc (.int .u32 2870763221), .sc (.int .u32 3624381080), .sc (.int .u32 310598401), .sc (.int .u32 607225278), .sc (.int .u32 1426881987), .sc (.int .u32 1925078388), .sc (.int .u32 2162078206), .sc (.int .u32 2614888103), .sc (.int .u32 3248222580), .sc (.int .u32 3835390401), .sc (.int .u32 4022224774), .sc (.int .u32 264347078), .sc (.int .u32 604807628), .sc (.int .u32 770255983), .sc (.int .u32 1249150122), .sc (.int .u32 1555081692), .sc (.int .u32 1996064986), .sc (.int .u32 2554220882), .sc (.int .u32 2821834349), .sc (.int .u32 2952996808), .sc (.int .u32 3210313671), .sc (.int .u32 3336571891), .sc (.int .u32 3584528711), .sc (.int .u32 113926993), .sc (.int .u32 338241895), .sc (.int .u32 666307205), .sc (.int .u32 773529912), .sc (.int .u32 1294757372), .sc (.int .u32 1396182291), .sc (.int .u32 1695183700), .sc (.int .u32 1986661051), .sc (.int .u32 2177026350), .sc (.int .u32 2456956037), .sc (.int .u32 2730485921), .sc (.int .u32 2820302411), .sc (.int .u32 3259730800), .sc (.int .u32 3345764771), .sc (.int .u32 3516065817), .sc (.int .u32 3600352804), .sc (.int .u32 4094571909), .sc (.int .u32 275423344), .sc (.int .u32 430227734), .sc (.int .u32 506948616), .sc (.int .u32 659060556), .sc (.int .u32 883997877), .sc (.int .u32 958139571), .sc (.int .u32 1322822218), .sc (.int .u32 1537002063), .sc (.int .u32 1747873779), .sc (.int .u32 1955562222), .sc (.int .u32 2024104815), .sc (.int .u32 2227730452), .sc (.int .u32 2361852424), .sc (.int .u32 2428436474), .sc (.int .u32 2756734187), .sc (.int .u32 3204031479), .sc (.int .u32 3329325298)]) ([.sc (.int .u32 1779033703), .sc (.int .u32 3144134277), .sc (.int .u32 1013904242), .sc (.int .u32 2773480762), .sc (.int .u32 1359893119), .sc (.int .u32 2600822924), .sc (.int .u32 528734635), .sc (.int .u32 1541459225)]) (List.take (0 + b.length) ([] ++ b) ++ [.sc (.int .u8 128)]) else none else none
theorem e28 (f : Nat) (nl : Bool) (fl : Bool) (b : List PV) (k : Res → Option Res) : JM tau F28 Try.f28 (Try.f28.body.get!) (JnR (Jbv f) (Jbw f) (Jbx f) (Jby f)) [] 0 [.ro 5 nl fl b] [] k = g28 f nl fl b k := by kernel_rfl
theorem JAk (f : Nat) : Jg (Try.f28.body.get!) (JnR (Jbv f) (Jbw f) (Jbx f) (Jby f)) = [.l JcP Yh N28 (Jbv f), .l JcQ Yi N28 (Jbw f), .l JcV Yn N28 (Jbx f), .l JcW Yo N28 (Jby f)] := by kernel_rfl
theorem JAl (f : Nat) : ∀ q ∈ Jg (Try.f28.body.get!) (JnR (Jbv f) (Jbw f) (Jbx f) (Jby f)), q.Ok tau Try.prog 0 := by
  rw [JAk f]; simp only [List.forall_mem_cons, List.not_mem_nil, false_implies, implies_true, and_true]; exact ⟨Jwm f, Jwn f, Jws f, Jwt f⟩
theorem Jwu : Try.prog.funcs[28]? = some Try.f28 := by kernel_rfl
theorem Jwv : Try.f28.body = some (Try.f28.body.get!) := by kernel_rfl
theorem JAm : Enters Try.prog 28 := enters_of Jwu (by kernel_rfl) Jwv
end Go.Proofs.Ytcklhipdldpkhaa.Rx
