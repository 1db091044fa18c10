/- What the functions of this law compute, and their plain laws. Conditions: none. -/
import Derived.Test.YthpmachmnoljeaaGreatWaveletTurnedP4
namespace Go.Proofs.YthpmachmnoljeaaGreat.Rx
noncomputable section
open Go
set_option linter.unusedVariables false
set_option linter.unusedSimpArgs false
set_option maxRecDepth 100000
set_option maxHeartbeats 0
def N16 : Nat := 58
def F16 : Fns := Jr 42 s42 (Jr 23 JFX (Jr 17 JGk (F0)))
theorem JvG : Jp tau Tryz.prog F16 := (((Js).add JCl JMG).add JCj JMf).add JQI JQH
def JqF : Code := Qd (Tryz.f16.body.get!) [1, 1, 1, 0, 1, 0, 0]
def JfR : Nm := [(1, .any), (2, .any), (6, .any), (7, .own), (8, .any)]
def Joq : Nm := [(6, .any), (7, .any)]
def Q9 : An := (.seq (.seq .leaf (.cond .leaf .leaf)) (.seq (.block none (.seq .leaf (.seq .leaf (.seq .leaf (.cond .leaf .leaf))))) .leaf))
def Jzo (r0 : Qt) : An := (.seq .leaf (.seq .leaf (.seq .leaf (.seq (.seq .leaf (.block none (.sum JfR N16 r0))) (.seq .leaf .leaf)))))
abbrev JGo := Nat -> List PV -> Bool -> List PV -> OR) : Nat -> Bool -> Bool -> List PV -> Nat -> Nat -> Int -> Bool -> Bool -> List PV -> Bool -> Bool -> List PV -> Bool -> Bool -> List PV -> List PV -> Bool -> List PV -> OR
abbrev ZO (v2 : List PV) (v5 : Int) := (SP.mk (PV.child 0 (v2.getD v5.toNat PV.top)).int (PV.child (0 + 1) (v2.getD v5.toNat PV.top)).int (PV.child (0 + 1 + 1) (v2.getD v5.toNat PV.top)).int (PV.child (0 + 1 + 1 + 1) (v2.getD v5.toNat PV.top)).els)
abbrev JM (v3 : Nat) (v15 : List PV) := (Jq (v15.getD (0 + (IntKind.i64.wrap (zi v3 - 1)).toNat) PV.top) [])
abbrev Xj (v3 : Nat) (v15 : List PV) := (SV.mk (PV.child 0 (PV.child 0 (JM v3 v15))).int (PV.child (0 + 1) (PV.child 0 (JM v3 v15))).int (PV.child (0 + 1) (JM v3 v15)).str (PV.child (0 + 1 + 1) (JM v3 v15)).els (PV.child (0 + 1 + 1 + 1) (JM v3 v15)).int (PV.child (0 + 1 + 1 + 1 + 1) (JM v3 v15)).els)
abbrev Qm (v2 : List PV) (v3 : Nat) (v5 : Int) (v6 : Bool) (v7 : Bool) (v8 : List PV) (v9 : Bool) (v10 : Bool) (v11 : List PV) (v12 : Bool) (v13 : Bool) (v14 : List PV) (v15 : List PV) := (SX.mk (ZO v2 v5) [PV.ro 5 v6 v7 v8, PV.ro 5 v9 v10 v11, PV.ro 5 v12 v13 v14] (Xj v3 v15) v5)
abbrev ZP (v2 : List PV) (v3 : Nat) (v5 : Int) (v6 : Bool) (v7 : Bool) (v8 : List PV) (v9 : Bool) (v10 : Bool) (v11 : List PV) (v12 : Bool) (v13 : Bool) (v14 : List PV) (v15 : List PV) := (EW.mk (seB (Qm v2 v3 v5 v6 v7 v8 v9 v10 v11 v12 v13 v14 v15)) (seS (Qm v2 v3 v5 v6 v7 v8 v9 v10 v11 v12 v13 v14 v15)) (PV.child (0 + 1 + 1 + 1) (JM v3 v15)).int (seO (Qm v2 v3 v5 v6 v7 v8 v9 v10 v11 v12 v13 v14 v15)) (seH (Qm v2 v3 v5 v6 v7 v8 v9 v10 v11 v12 v13 v14 v15)) (seM (Qm v2 v3 v5 v6 v7 v8 v9 v10 v11 v12 v13 v14 v15)))
abbrev QM (v2 : List PV) (v3 : Nat) (v5 : Int) (v6 : Bool) (v7 : Bool) (v8 : List PV) (v9 : Bool) (v10 : Bool) (v11 : List PV) (v12 : Bool) (v13 : Bool) (v14 : List PV) (v15 : List PV) := (DX.mk (Xj v3 v15) (ZP v2 v3 v5 v6 v7 v8 v9 v10 v11 v12 v13 v14 v15))
abbrev ZQ (v3 : Nat) (v15 : List PV) := (PV.isSt (Field.mk "Id" 46 0 false "" "" 0).type #[Field.mk "Host" 3 0 false "" "" 0, Field.mk "N" 3 1 false "" "" 8].size (PV.child 0 (JM v3 v15)) && (PV.isInt IntKind.i64 (PV.child 0 (PV.child 0 (JM v3 v15))) && (PV.isInt IntKind.i64 (PV.child (0 + 1) (PV.child 0 (JM v3 v15))) && true)) && ((PV.child (0 + 1) (JM v3 v15)).isStr && (PV.isRo 67 (PV.child (0 + 1 + 1) (JM v3 v15)) && (PV.isInt IntKind.i64 (PV.child (0 + 1 + 1 + 1) (JM v3 v15)) && (PV.isAr (Field.mk "Hash" 28 5 false "" "" 64).type (PV.child (0 + 1 + 1 + 1 + 1) (JM v3 v15)) && true)))))
def Jcd (f : Nat) (rc : Bool -> Bool -> List PV -> Nat -> Nat -> Int -> Bool -> Bool -> List PV -> Bool -> Bool -> List PV -> Bool -> Bool -> List PV -> List PV -> Bool -> List PV -> OR) (k0 : Nat -> Nat -> List PV -> Bool -> List PV -> OR) (v0 v1 : Bool) (v2 : List PV) (v3 v4 : Nat) (v5 : Int) (v6 v7 : Bool) (v8 : List PV) (v9 v10 : Bool) (v11 : List PV) (v12 v13 : Bool) (v14 v15 : List PV) (v16 : Bool) (v17 : List PV) : OR := bif decide (v5 < zi v2.length) then bif decide (0 <= v5) && decide (v5 < zi v2.length) && (PV.isSt 25 #[Field.mk "Kind" 3 0 false "" "" 0, Field.mk "By" 3 1 false "" "" 8, Field.mk "Who" 3 2 false "" "" 16, Field.mk "Ns" 23 3 false "" "" 24].size (v2.getD v5.toNat PV.top) && (PV.isInt IntKind.i64 (PV.child 0 (v2.getD v5.toNat PV.top)) && (PV.isInt IntKind.i64 (PV.child (0 + 1) (v2.getD v5.toNat PV.top)) && (PV.isInt IntKind.i64 (PV.child (0 + 1 + 1) (v2.getD v5.toNat PV.top)) && (PV.isRo 3 (PV.child (0 + 1 + 1 + 1) (v2.getD v5.toNat PV.top)) && true))))) && true then bif decide (0 <= IntKind.i64.wrap (zi v3 - 1)) && decide (IntKind.i64.wrap (zi v3 - 1) < zi v3) && true then bif PV.isSt 49 #[Field.mk "Id" 46 0 false "" "" 0, Field.mk "Doc" 9 2 false "" "" 16, Field.mk "People" 47 3 false "" "" 32, Field.mk "Version" 3 4 false "" "" 56, Field.mk "Hash" 28 5 false "" "" 64].size (JM v3 v15) && (ZQ v3 v15) && true then bif sOk (Xj v3 v15) && spOk (ZO v2 v5) && (kO3 [.ro 5 v6 v7 v8, .ro 5 v9 v10 v11, .ro 5 v12 v13 v14] && kIn (PV.child 0 (PV.child 0 (JM v3 v15))).int) then bif decide (0 <= IntKind.i64.wrap (zi v3 - 1)) && decide (IntKind.i64.wrap (zi v3 - 1) < zi v3) && true then bif PV.isSt 49 #[Field.mk "Id" 46 0 false "" "" 0, Field.mk "Doc" 9 2 false "" "" 16, Field.mk "People" 47 3 false "" "" 32, Field.mk "Version" 3 4 false "" "" 56, Field.mk "Hash" 28 5 false "" "" 64].size (JM v3 v15) && (ZQ v3 v15) && true then bif sOk (Xj v3 v15) && eD (ZP v2 v3 v5 v6 v7 v8 v9 v10 v11 v12 v13 v14 v15) then bif dsE (QM v2 v3 v5 v6 v7 v8 v9 v10 v11 v12 v13 v14 v15) == 0 then bif Je (v3 + 1) 96 && true then bif Je (v4 + 1) 152 && true then rc v0 v1 v2 (v3 + 1) (v4 + 1) (IntKind.i64.wrap (v5 + 1)) v6 v7 v8 v9 v10 v11 v12 v13 v14 (List.take v3 v15 ++ [.st 49 [.st 46 [.sc (.int .i64 (PV.child 0 (PV.child 0 (JM v3 v15))).int), .sc (.int .i64 (PV.child (0 + 1) (PV.child 0 (JM v3 v15))).int)], .sc (.string (dsD (QM v2 v3 v5 v6 v7 v8 v9 v10 v11 v12 v13 v14 v15))), .ro 67 (dsZ (QM v2 v3 v5 v6 v7 v8 v9 v10 v11 v12 v13 v14 v15) (PV.child (0 + 1 + 1) (JM v3 v15)).nl) (dsF (QM v2 v3 v5 v6 v7 v8 v9 v10 v11 v12 v13 v14 v15) (PV.child (0 + 1 + 1) (JM v3 v15)).fl) (dsL (QM v2 v3 v5 v6 v7 v8 v9 v10 v11 v12 v13 v14 v15)), .sc (.int .i64 (dsV (QM v2 v3 v5 v6 v7 v8 v9 v10 v11 v12 v13 v14 v15))), .ar 28 (dsH (QM v2 v3 v5 v6 v7 v8 v9 v10 v11 v12 v13 v14 v15))]]) (v16 && false) (List.take v4 v17 ++ [.st 34 [.st 30 [.ro 5 false false (seB (Qm v2 v3 v5 v6 v7 v8 v9 v10 v11 v12 v13 v14 v15)), .ar 28 (seS (Qm v2 v3 v5 v6 v7 v8 v9 v10 v11 v12 v13 v14 v15))], .sc (.int .i64 (PV.child (0 + 1 + 1 + 1) (JM v3 v15)).int), .ro 53 false false (seO (Qm v2 v3 v5 v6 v7 v8 v9 v10 v11 v12 v13 v14 v15)), .ar 28 (seH (Qm v2 v3 v5 v6 v7 v8 v9 v10 v11 v12 v13 v14 v15)), .ar 28 (seM (Qm v2 v3 v5 v6 v7 v8 v9 v10 v11 v12 v13 v14 v15))]]) else none else none else rc v0 v1 v2 v3 v4 (IntKind.i64.wrap (v5 + 1)) v6 v7 v8 v9 v10 v11 v12 v13 v14 v15 v16 v17 else none else none else none else none else none else none else none else k0 v3 v4 v15 v16 v17
def Jap (f : Nat) (k0 : Nat -> JGo
 | 0 => fun _ _ _ _ _ _ _ _ _ _ _ _ _ _ _ _ _ _ => none
 | n + 1 => Jcd f (Jap f k0 n) k0
def Jce (k : Kont) := fun x0 x1 x2 x3 x4 => k (Ex.exit 0) (Ji Joq N16 [.ow 49 944 [] 0 x0 none, .ow 34 945 [] 0 x1 none] [(944, .vec false 49 false x2), (945, .vec false 34 x3 x4)])
def Jor (f : Nat) (k : Kont) (n : Nat) (v0 v1 : Bool) (v2 : List PV) (v3 v4 : Nat) (v5 : Int) (v6 v7 : Bool) (v8 : List PV) (v9 v10 : Bool) (v11 : List PV) (v12 v13 : Bool) (v14 v15 : List PV) (v16 : Bool) (v17 : List PV) : OR := Jx tau 0 JfR (fun s k => ev tau F16 0 0 JqF (Q9 ) s k) n (Ji JfR N16 [.ro 25 v0 v1 v2, .ptr 944 [], .ow 49 945 [] 0 v3 none, .ow 34 946 [] 0 v4 none, .sc (.int .i64 v5)] [(944, .box false 39 (PV.st 39 [.ro 5 v6 v7 v8, .ro 5 v9 v10 v11, .ro 5 v12 v13 v14])), (945, .vec false 49 false v15), (946, .vec false 34 v16 v17)]) (JG tau 0 Joq k)
theorem Jzp (f : Nat) (k : Kont) (n : Nat) : Jor f k (n + 1) = Jcd f (Jor f k n) (Jce k) := by kernel_rfl
theorem JqG (f : Nat) (k : Kont) : ∀ n, Jor f k n = Jap f (Jce k) n
 | 0 => rfl
 | n + 1 => (Jzp f k n).trans (congrArg (fun r => Jcd f r (Jce k)) (JqG f k n))
def JfS (f : Nat) : List PV -> List (Nat × Ent) -> Kont -> OR
 | [.ro 25 v0 v1 v2, .ptr 944 [], .ow 49 945 [] 0 v3 none, .ow 34 946 [] 0 v4 none,
 PV.sc
  (Value.int IntKind.i64
   v5)], [(944, .box false 39 (PV.st 39 [.ro 5 v6 v7 v8, .ro 5 v9 v10 v11, .ro 5 v12 v13 v14])), (945, .vec false 49 false v15),
 (946,
  Ent.vec false 34 v16
   v17)], k => Jap f (Jce k) f v0 v1 v2 v3 v4 v5 v6 v7 v8 v9 v10 v11 v12 v13 v14 v15 v16 v17
 | _, _, _ => none
theorem JGp (f : Nat) : Jf JqF Q9 = [] := by kernel_rfl
theorem JGq (f : Nat) : (Item.l JqF JfR N16 (JfS f)).Ok tau Tryz.prog 0 := Jt Jn JvG Jo (x := Q9) (nm2 := Joq) (Jl _ _ (by rw [JGp f]; intro q hq; cases hq)) fun vs hp k res hr => by
 unfold JfS at hr
 split at hr
 · rw [← JqG f] at hr; exact ⟨f, 0, hr⟩
 · cases hr
abbrev Jjn := (List.take (apI (apI (apI (apI [] 0) 3) 0) 1).length (apI (apI (apI (apI [] 0) 3) 0) 1))
def g16 (f : Nat) (k0_z k0_f : Bool) (k0 : List PV) (k1_z k1_f : Bool) (k1 : List PV) (k2_z k2_f : Bool) (k2 : List PV) (l_z l_f : Bool) (l : List PV) (k : KR) : OR := bif okL (apI [] 0).length (apI [] 0) then bif okL (apI (apI [] 0) 3).length (apI (apI [] 0) 3) then bif okL (apI (apI (apI [] 0) 3) 0).length (apI (apI (apI [] 0) 3) 0) then bif Jk IntKind.u8 Jjn && decide (Jjn.length <= 140737488355000) then Jap f (fun x0_0 x1_0 x2_0 JP x4_0 => k (Res.mk (.tup [.ro 34 (Ent.vec false 34 JP x4_0).nil false (List.take x1_0 x4_0), .ro 49 false false (List.take x0_0 x2_0)]) [] [])) f l_z l_f l (1) (0) (0) k0_z k0_f k0 k1_z k1_f k1 k2_z k2_f k2 ([.st 49 [.st 46 [.sc (.int .i64 0), .sc (.int .i64 3)], .sc (.string (ByteArray.mk (Array.mk []))), .ro 67 false false [.st 67 [.sc (.int .i64 0), .sc (.int .i64 1)]], .sc (.int .i64 0), .ar 28 (pu IntKind.u8 (JX (JC Jjn)))]]) true ([]) else none else none else none else none
theorem e16 (f : Nat) (k0_z k0_f : Bool) (k0 : List PV) (k1_z k1_f : Bool) (k1 : List PV) (k2_z k2_f : Bool) (k2 : List PV) (l_z l_f : Bool) (l : List PV) (k : KR) : JI tau F16 Tryz.f16 (Tryz.f16.body.get!) (Jzo (JfS f)) [.ro, .ro] 0 [.st 39 [.ro 5 k0_z k0_f k0, .ro 5 k1_z k1_f k1, .ro 5 k2_z k2_f k2], .ro 25 l_z l_f l] [] k = g16 f k0_z k0_f k0 k1_z k1_f k1 k2_z k2_f k2 l_z l_f l k := by kernel_rfl
theorem JQJ (f : Nat) : Jf (Tryz.f16.body.get!) (Jzo (JfS f)) = [.l JqF JfR N16 (JfS f)] := by kernel_rfl
theorem JQK (f : Nat) : ∀ q ∈ Jf (Tryz.f16.body.get!) (Jzo (JfS f)), q.Ok tau Tryz.prog 0 := by rw [JQJ f]; exact JJ (JGq f) (fun _ h => nomatch h)
theorem JMJ : Tryz.prog.funcs[16]? = some Tryz.f16 := by kernel_rfl
theorem JMK : Tryz.f16.body = some (Tryz.f16.body.get!) := by kernel_rfl
theorem JQL : Enters Tryz.prog 16 := enters_of JMJ (by kernel_rfl) JMK
def isStt : PV -> Bool
 | .st t [.st t2 [.sc (.int .i64 _), .sc (.int .i64 _)], .sc (.string _), .ro t3 _ _ _, .sc (.int .i64 _), .ar t4 _] => t == 49 && (t2 == 46 && (t3 == 67 && t4 == 28))
 | _ => false
def sv (p : PV) : SV := ⟨((p.child 0).child 0).int, ((p.child 0).child 1).int, (p.child 1).str, (p.child 2).els, (p.child 3).int, (p.child 4).els⟩
theorem Jc1 {p : PV} : isStt p = true ↔ ∃ s z f, p = stP s z f := by
 constructor
 · intro h
   unfold isStt at h
   split at h
   · rename_i t t2 a b d t3 z f l v t4 hs
     simp only [Bool.and_eq_true, beq_iff_eq] at h
     obtain ⟨rfl, rfl, rfl, rfl⟩ := h
     exact ⟨⟨a, b, d, l, v, hs⟩, z, f, rfl⟩
   · cases h
 · rintro ⟨s, z, f, rfl⟩; rfl
theorem JGr (s : SV) (z f : Bool) : sv (stP s z f) = s := rfl
def Jk7 : PV -> Bool
 | .st t [.sc (.int .i64 _), .sc (.int .i64 _), .sc (.int .i64 _), .ro t2 _ _ _] => t == 25 && t2 == 3
 | _ => false
def sp (p : PV) : SP := ⟨(p.child 0).int, (p.child 1).int, (p.child 2).int, (p.child 3).els⟩
theorem Jk8 {p : PV} : Jk7 p = true ↔ ∃ s z f, p = .st 25 [.sc (.int .i64 s.kd), .sc (.int .i64 s.by1), .sc (.int .i64 s.who), .ro 3 z f s.ns] /\ sp p = s := by
 constructor
 · intro h
   unfold Jk7 at h
   split at h
   · rename_i t a b c t2 z f l
     simp only [Bool.and_eq_true, beq_iff_eq] at h
     obtain ⟨rfl, rfl⟩ := h
     exact ⟨⟨a, b, c, l⟩, z, f, rfl, rfl⟩
   · cases h
 · rintro ⟨s, z, f, rfl, _⟩; rfl
def stpX (K : List PV) (p : SP) (i : Int) (s : SV) : DX := ⟨s, seW ⟨p, K, s, i⟩⟩
def stpN (K : List PV) (p : SP) (i : Int) (q : PV) : PV := stP (dsS (stpX K p i (sv q))) (dsZ (stpX K p i (sv q)) (q.child 2).nl) (dsF (stpX K p i (sv q)) (q.child 2).fl)
def bld (K : List PV) : List PV -> Int -> PV -> List (PV × PV)
 | [], _, _ => []
 | p :: ps, i, q =>
  bif dsE0 (stpX K (sp p) i (sv q)) == 0 then (ewP (seW ⟨sp p, K, sv q, i⟩), stpN K (sp p) i q) :: bld K ps (i + 1) (stpN K (sp p) i q)
  else bld K ps (i + 1) q
structure BOk (i : Int) (q : PV) : Prop where
 st : isStt q = true
 ok : sOk (sv q) = true
 by1 : byB (sv q).hash = true
 ih : (sv q).ih = 0
 iN : (sv q).iN = 3
 ver : (sv q).ver <= i
theorem JqH (bs : List Int) : ∀ x ∈ JX bs, 0 <= x /\ x < 256 := by
 intro x hx
 rw [JdR] at hx
 obtain ⟨i, _, rfl⟩ := List.mem_map.1 hx
 exact Ja9 _
theorem JvH (x : NX) : byB (pu .u8 (nxP x)) = true := JmC.2 (by rw [Jfz]; exact JqH _)
theorem BOk.next {K : List PV} {p : SP} {i : Int} {q : PV} (h : BOk i q) (hp : spOk p = true) (hi : i < 1000) (h0 : 0 <= i) : BOk (i + 1) (stpN K p i q) where
 st := rfl
 ok := by
  show sOk (dsS (stpX K p i (sv q))) = true
  exact JqC (x := stpX K p i (sv q)) h.ok (Jjm (x := ⟨p, K, sv q, i⟩) h.ok hp h.by1) (by have := h.ver; show (sv q).ver < 1000000; omega)
 by1 := by
  show byB (dsH (stpX K p i (sv q))) = true
  rw [JcU]
  cases dsE0 (stpX K p i (sv q)) == 0 with
  | true => exact JvH _
  | false => exact h.by1
 ih := h.ih
 iN := h.iN
 ver := by
  show dsV (stpX K p i (sv q)) <= i + 1
  have := h.ver
  rw [Jam]
  cases dsE0 (stpX K p i (sv q)) == 0 with
  | true => show (sv q).ver + 1 <= i + 1; omega
  | false => show (sv q).ver <= i + 1; omega
theorem BOk.up {i j : Int} {q : PV} (h : BOk i q) (hj : i <= j) : BOk j q := { h with ver := by have := h.ver; omega }
theorem Jos {K : List PV} : ∀ (l : List PV) (i : Int) (q : PV), (∀ p ∈ l, spOk (sp p) = true) -> 0 <= i -> i + l.length <= 1000 -> BOk i q -> ∀ x ∈ bld K l i q, BOk (i + l.length) x.2
 | [], _, _, _, _, _, _, x, hx => by cases hx
 | p :: ps, i, q, hp, h0, hi, hq, x, hx => by
  simp only [List.length_cons] at hi ⊢
  simp only [bld] at hx
  have hp' : ∀ r ∈ ps, spOk (sp r) = true := fun r hr => hp r (List.mem_cons_of_mem _ hr)
  have hn := hq.next (K := K) (hp p List.mem_cons_self) (by omega) h0
  cases hc : (dsE0 (stpX K (sp p) i (sv q)) == 0) with
  | true =>
   rw [hc, cond_true] at hx
   rcases List.mem_cons.1 hx with rfl | hx
   · exact hn.up (by omega)
   · exact (Jos ps (i + 1) _ hp' (by omega) (by omega) hn x hx).up (by omega)
  | false =>
   rw [hc, cond_false] at hx
   exact (Jos ps (i + 1) _ hp' (by omega) (by omega) (hq.up (by omega)) x hx).up (by omega)
theorem Jaq {K : List PV} : ∀ (l : List PV) (i : Int) (q : PV), (bld K l i q).length <= l.length
 | [], _, _ => Nat.le_refl _
 | p :: ps, i, q => by
  simp only [bld]
  cases dsE0 (stpX K (sp p) i (sv q)) == 0 with
  | true => simp only [cond_true, List.length_cons]; have := Jaq ps (i + 1) (stpN K (sp p) i q) (K := K); omega
  | false => simp only [cond_false, List.length_cons]; have := Jaq ps (i + 1) q (K := K); omega
structure BL where
 (K l : List PV)
def h0L : List PV := apI (apI (apI (apI [] 0) 3) 0) 1
def q0 : PV := stP ⟨0, 3, ByteArray.mk (Array.mk []), [adP ⟨0, 1⟩], 0, pu .u8 (JX (JC (List.take h0L.length h0L)))⟩ false false
def bS : BL -> List PV := hid fun x => q0 :: (bld x.K x.l 0 q0).map Prod.snd
def bE : BL -> List PV := hid fun x => (bld x.K x.l 0 q0).map Prod.fst
theorem JCm (x : BL) : bS x = q0 :: (bld x.K x.l 0 q0).map Prod.snd := by rw [bS, hid_eq]
theorem JCn (x : BL) : bE x = (bld x.K x.l 0 q0).map Prod.fst := by rw [bE, hid_eq]
def lOk : List PV -> Bool := hid fun l => l.all Jk7 && (l.all (fun p => spOk (sp p)) && decide (l.length <= 25))
theorem Jd3 {l : List PV} : lOk l = true ↔ l.all Jk7 = true /\ (∀ p ∈ l, spOk (sp p) = true) /\ l.length <= 25 := by
 rw [lOk, hid_eq]; simp only [Bool.and_eq_true, List.all_eq_true, decide_eq_true_eq]
theorem JvI : BOk 0 q0 where
 st := rfl
 ok := by
  refine Xm.2 ⟨QJ.2 ⟨rfl, rfl, by decide⟩, h32_iff.2 ⟨JO _ _, ?_⟩, by decide, by decide, by decide, ?_⟩
  · show (pu .u8 (JX _)).length = 32; rw [JD]; exact Qw _
  · show (inA [0, 2, 1, 7] && true) = true; rw [JkB]; rfl
 by1 := JmC.2 (JqH _)
 ih := rfl
 iN := rfl
 ver := Int.le_refl _
theorem JCo (l : List PV) (z fl : Bool) (hl : lOk l = true) (z0 f0 : Bool) (a0 : List PV) (z1 f1 : Bool) (a1 : List PV) (z2 f2 : Bool) (a2 : List PV) (hK : kO3 [.ro 5 z0 f0 a0, .ro 5 z1 f1 a1, .ro 5 z2 f2 a2] = true) (f : Nat) (k0 : Nat -> Nat -> List PV -> Bool -> List PV -> OR) :
  ∀ (d i n : Nat) (S E : List PV) (q : PV), i + d = l.length -> d < n -> BOk i q -> S.length <= i -> E.length <= i ->
   Jap f k0 n z fl l (S ++ [q]).length E.length (i : Int) z0 f0 a0 z1 f1 a1 z2 f2 a2 (S ++ [q]) E.isEmpty E =
     k0 (S ++ q :: (bld [.ro 5 z0 f0 a0, .ro 5 z1 f1 a1, .ro 5 z2 f2 a2] (l.drop i) i q).map Prod.snd).length (E ++ (bld [.ro 5 z0 f0 a0, .ro 5 z1 f1 a1, .ro 5 z2 f2 a2] (l.drop i) i q).map Prod.fst).length (S ++ q :: (bld [.ro 5 z0 f0 a0, .ro 5 z1 f1 a1, .ro 5 z2 f2 a2] (l.drop i) i q).map Prod.snd) (E ++ (bld [.ro 5 z0 f0 a0, .ro 5 z1 f1 a1, .ro 5 z2 f2 a2] (l.drop i) i q).map Prod.fst).isEmpty (E ++ (bld [.ro 5 z0 f0 a0, .ro 5 z1 f1 a1, .ro 5 z2 f2 a2] (l.drop i) i q).map Prod.fst)
 | 0, i, n + 1, S, E, q, hi, hn, hq, hS, hE => by
   rw [List.drop_of_length_le (by omega)]
   simp only [Jap, Jcd, ZQ, QM, ZP, Qm, Xj, JM, ZO, bld, List.map_nil, List.append_nil]
   exact Jd (by simp [zi]; omega)
 | d + 1, i, n + 1, S, E, q, hi, hn, hq, hS, hE => by
   obtain ⟨h1, h2, h3⟩ := Jd3.1 hl
   have g1 := tI i
   have w1 := wI (i := i) (by omega)
   have w2 : IntKind.i64.wrap (zi (S ++ [q]).length - 1) = (S.length : Int) := by
     have : zi (S ++ [q]).length = (S.length : Int) + 1 := by simp [zi]
     rw [this, wrap_i64 (by omega) (by omega)]; omega
   have g4 : Jq ((S ++ [q]).getD (0 + ((S.length : Int)).toNat) PV.top) [] = q := by
     show (S ++ [q]).getD (0 + ((S.length : Int)).toNat) PV.top = q
     rw [Nat.zero_add, Int.toNat_natCast, List.getD_eq_getElem?_getD]; simp
   have hmem : l.getD i .top ∈ l := by
     rw [List.getD_eq_getElem?_getD, List.getElem?_eq_getElem (by omega)]; exact List.getElem_mem _
   obtain ⟨p, nz, nf, hp, hsp⟩ := Jk8.1 (List.all_eq_true.1 h1 _ hmem)
   have hpo : spOk p = true := by rw [← hsp]; exact h2 _ hmem
   rw [JY (by omega)]
   have hnx := hq.next (K := [.ro 5 z0 f0 a0, .ro 5 z1 f1 a1, .ro 5 z2 f2 a2]) hpo (by omega) (by omega)
   have hup : BOk ((i + 1 : Nat) : Int) q := hq.up (by omega)
   have hnx : BOk ((i + 1 : Nat) : Int) (stpN [.ro 5 z0 f0 a0, .ro 5 z1 f1 a1, .ro 5 z2 f2 a2] p i q) := by have := hnx; rwa [show (i : Int) + 1 = ((i + 1 : Nat) : Int) from by omega] at this
   have IH := fun S E q => JCo l z fl hl z0 f0 a0 z1 f1 a1 z2 f2 a2 hK f k0 d (i + 1) n S E q (by omega) (by omega)
   have hb : bld [.ro 5 z0 f0 a0, .ro 5 z1 f1 a1, .ro 5 z2 f2 a2] (l.getD i .top :: l.drop (i + 1)) i q = bif dsE0 (stpX [.ro 5 z0 f0 a0, .ro 5 z1 f1 a1, .ro 5 z2 f2 a2] p i (sv q)) == 0 then (ewP (seW ⟨p, [.ro 5 z0 f0 a0, .ro 5 z1 f1 a1, .ro 5 z2 f2 a2], sv q, i⟩), stpN [.ro 5 z0 f0 a0, .ro 5 z1 f1 a1, .ro 5 z2 f2 a2] p i q) :: bld [.ro 5 z0 f0 a0, .ro 5 z1 f1 a1, .ro 5 z2 f2 a2] (l.drop (i + 1)) ((i + 1 : Nat) : Int) (stpN [.ro 5 z0 f0 a0, .ro 5 z1 f1 a1, .ro 5 z2 f2 a2] p i q)
      else bld [.ro 5 z0 f0 a0, .ro 5 z1 f1 a1, .ro 5 z2 f2 a2] (l.drop (i + 1)) ((i + 1 : Nat) : Int) q := by
     simp only [bld, hsp]; rfl
   rw [hb]
   simp only [Jap, Jcd, ZQ, QM, ZP, Qm, Xj, JM, ZO, g1, w1, w2, g4, hp]
   generalize hKK : [PV.ro 5 z0 f0 a0, .ro 5 z1 f1 a1, .ro 5 z2 f2 a2] = K at *
   obtain ⟨s, zq, fq, rfl⟩ := Jc1.1 hq.st
   have hs : sOk s = true := hq.ok
   have hby : byB s.hash = true := hq.by1
   have hih : kIn s.ih = true := by rw [show s.ih = 0 from hq.ih, Jfh]; rfl
   have heD := Jjm (x := ⟨p, K, s, i⟩) hs hpo hby
   have hSV : SV.mk (PV.child 0 (PV.child 0 (stP s zq fq))).int (PV.child (0 + 1) (PV.child 0 (stP s zq fq))).int (PV.child (0 + 1) (stP s zq fq)).str (PV.child (0 + 1 + 1) (stP s zq fq)).els (PV.child (0 + 1 + 1 + 1) (stP s zq fq)).int (PV.child (0 + 1 + 1 + 1 + 1) (stP s zq fq)).els = s := rfl
   have hSP : SP.mk (PV.child 0 (PV.st 25 [.sc (.int .i64 p.kd), .sc (.int .i64 p.by1), .sc (.int .i64 p.who), .ro 3 nz nf p.ns])).int (PV.child (0 + 1) (PV.st 25 [.sc (.int .i64 p.kd), .sc (.int .i64 p.by1), .sc (.int .i64 p.who), .ro 3 nz nf p.ns])).int (PV.child (0 + 1 + 1) (PV.st 25 [.sc (.int .i64 p.kd), .sc (.int .i64 p.by1), .sc (.int .i64 p.who), .ro 3 nz nf p.ns])).int (PV.child (0 + 1 + 1 + 1) (PV.st 25 [.sc (.int .i64 p.kd), .sc (.int .i64 p.by1), .sc (.int .i64 p.who), .ro 3 nz nf p.ns])).els = p := rfl
   have c1 : (PV.child 0 (PV.child 0 (stP s zq fq))).int = s.ih := rfl
   have c2 : (PV.child (0 + 1) (PV.child 0 (stP s zq fq))).int = s.iN := rfl
   have c3 : (PV.child (0 + 1 + 1 + 1) (stP s zq fq)).int = s.ver := rfl
   have c4 : (PV.child (0 + 1 + 1) (stP s zq fq)).nl = zq := rfl
   have c5 : (PV.child (0 + 1 + 1) (stP s zq fq)).fl = fq := rfl
   simp only [hSV, hSP]
   simp only [c1, c2, c3, c4, c5]
   have eEW := Jc0 ⟨p, K, s, i⟩
   simp only at eEW
   simp only [eEW]
   have hen : PV.st 34 [PV.st 30 [.ro 5 false false (seB ⟨p, K, s, i⟩), .ar 28 (seS ⟨p, K, s, i⟩)], .sc (.int .i64 s.ver), .ro 53 false false (seO ⟨p, K, s, i⟩), .ar 28 (seH ⟨p, K, s, i⟩), .ar 28 (seM ⟨p, K, s, i⟩)] = ewP (seW ⟨p, K, s, i⟩) := by rw [← Jc0]; rfl
   have hst : PV.st 49 [PV.st 46 [.sc (.int .i64 s.ih), .sc (.int .i64 s.iN)], .sc (.string (dsD ⟨s, seW ⟨p, K, s, i⟩⟩)), .ro 67 (dsZ ⟨s, seW ⟨p, K, s, i⟩⟩ zq) (dsF ⟨s, seW ⟨p, K, s, i⟩⟩ fq) (dsL ⟨s, seW ⟨p, K, s, i⟩⟩), .sc (.int .i64 (dsV ⟨s, seW ⟨p, K, s, i⟩⟩)), .ar 28 (dsH ⟨s, seW ⟨p, K, s, i⟩⟩)] = stpN K p i (stP s zq fq) := rfl
   have hX : stpX K p i s = ⟨s, seW ⟨p, K, s, i⟩⟩ := rfl
   simp only [hen, hst, hX, JGr, JfK]
   have tk1 : List.take (S ++ [stP s zq fq]).length (S ++ [stP s zq fq]) = S ++ [stP s zq fq] := List.take_length
   have tk2 : List.take E.length E = E := List.take_length
   simp only [tk1, tk2]
   have hr2 : (decide (0 <= (S.length : Int)) && decide ((S.length : Int) < zi (S ++ [stP s zq fq]).length) && true) = true := by simp [zi]; omega
   refine (Ja (by simp [zi]; omega)).trans ((Ja ?_).trans ((Ja hr2).trans ((Ja rfl).trans ((Ja ?_).trans ((Ja hr2).trans ((Ja rfl).trans ((Ja ?_).trans ?_)))))))
   · have : (decide (0 <= (i : Int)) && decide ((i : Int) < zi l.length) && true && true) = true := by simp [zi]; omega
     exact this
   · rw [hs, hpo, hK, hih]; rfl
   · rw [hs, heD]; rfl
   cases hc : (dsE0 ⟨s, seW ⟨p, K, s, i⟩⟩ == 0) with
   | false =>
     exact (Jd rfl).trans (IH S E (stP s zq fq) hup (by omega) (by omega))
   | true =>
     refine (Ja rfl).trans ((Ja (by simp [Je]; omega)).trans ((Ja (by simp [Je]; omega)).trans ?_))
     have e1 : (S ++ [stP s zq fq]).length + 1 = ((S ++ [stP s zq fq]) ++ [stpN K p i (stP s zq fq)]).length := by simp
     have e2 : E.length + 1 = (E ++ [ewP (seW ⟨p, K, s, i⟩)]).length := by simp
     have e3 : (E.isEmpty && false) = (E ++ [ewP (seW ⟨p, K, s, i⟩)]).isEmpty := by simp
     rw [e1, e2, e3]
     refine (IH (S ++ [stP s zq fq]) (E ++ [ewP (seW ⟨p, K, s, i⟩)]) (stpN K p i (stP s zq fq)) hnx (by simp; omega) (by simp; omega)).trans ?_
     simp only [cond_true, List.map_cons, List.append_assoc, List.cons_append, List.nil_append]
def Jot : Jy
 | [.st 39 [.ro 5 z0 f0 k0, .ro 5 z1 f1 k1, .ro 5 z2 f2 k2], .ro 25 z f l], [], k =>
  bif lOk l && kO3 [.ro 5 z0 f0 k0, .ro 5 z1 f1 k1, .ro 5 z2 f2 k2] then k ⟨.tup [.ro 34 (bE ⟨[.ro 5 z0 f0 k0, .ro 5 z1 f1 k1, .ro 5 z2 f2 k2], l⟩).isEmpty false (bE ⟨[.ro 5 z0 f0 k0, .ro 5 z1 f1 k1, .ro 5 z2 f2 k2], l⟩), .ro 49 false false (bS ⟨[.ro 5 z0 f0 k0, .ro 5 z1 f1 k1, .ro 5 z2 f2 k2], l⟩)], [], []⟩ else none
 | _, _, _ => none
def JML : Sig := { own := [], run := Jot }
theorem JGs (z0 f0 : Bool) (k0 : List PV) (z1 f1 : Bool) (k1 : List PV) (z2 f2 : Bool) (k2 : List PV) (z f : Bool) (l : List PV) (hl : lOk l = true) (hK : kO3 [.ro 5 z0 f0 k0, .ro 5 z1 f1 k1, .ro 5 z2 f2 k2] = true) (k : KR) :
   g16 50 z0 f0 k0 z1 f1 k1 z2 f2 k2 z f l k = k ⟨.tup [.ro 34 (bE ⟨[.ro 5 z0 f0 k0, .ro 5 z1 f1 k1, .ro 5 z2 f2 k2], l⟩).isEmpty false (bE ⟨[.ro 5 z0 f0 k0, .ro 5 z1 f1 k1, .ro 5 z2 f2 k2], l⟩), .ro 49 false false (bS ⟨[.ro 5 z0 f0 k0, .ro 5 z1 f1 k1, .ro 5 z2 f2 k2], l⟩)], [], []⟩ := by
 obtain ⟨h1, h2, h3⟩ := Jd3.1 hl
 unfold g16 Jjn
 have hL : (apI (apI (apI (apI [] 0) 3) 0) 1) = h0L := rfl
 have hlen : h0L.length = 32 := by unfold h0L; simp only [Xl]; rfl
 have hall : Jk .u8 h0L = true := by unfold h0L; simp only [Zt, Wd, JO, Bool.and_true]; rfl
 have hq : PV.st 49 [PV.st 46 [.sc (.int .i64 0), .sc (.int .i64 3)], .sc (.string (ByteArray.mk (Array.mk []))), .ro 67 false false [PV.st 67 [.sc (.int .i64 0), .sc (.int .i64 1)]], .sc (.int .i64 0), .ar 28 (pu .u8 (JX (JC (List.take h0L.length h0L))))] = q0 := rfl
 simp only [hL, hq]
 have okl : ∀ l : List PV, l.length <= 1000 -> okL l.length l = true := fun l h => W9 (by omega)
 refine (Ja (okl _ (by simp only [Xl]; simp))).trans ((Ja (okl _ (by simp only [Xl]; simp))).trans ((Ja (okl _ (by simp only [Xl]; simp))).trans ((Ja ?_).trans ?_)))
 · rw [List.take_length, hall, hlen]; rfl
 refine (JCo l z f hl z0 f0 k0 z1 f1 k1 z2 f2 k2 hK 50 _ l.length 0 50 [] [] q0 (by omega) (by omega) JvI (Nat.le_refl _) (Nat.le_refl _)).trans ?_
 rw [JCn, JCm]
 simp only [List.drop_zero, List.nil_append, List.take_length]
 rfl
theorem JMM : Jc tau Tryz.prog 16 JML := Jc.mk' fun xs es k res hl hr => by
 change Jot xs es k = some res at hr
 unfold Jot at hr
 split at hr
 · rename_i z0 f0 k0 z1 f1 k1 z2 f2 k2 z f l
   obtain ⟨hc, hr⟩ := Ju hr
   rw [Bool.and_eq_true] at hc
   exact J1 Jn JvG Jo JMJ JMK (Jzo (JfS 50)) [.ro, .ro] 0 0 (JQK 50) hl rfl ((e16 50 z0 f0 k0 z1 f1 k1 z2 f2 k2 z f l k).trans ((JGs z0 f0 k0 z1 f1 k1 z2 f2 k2 z f l hc.1 hc.2 k).trans hr))
 · cases hr
def F89 : Fns := F0
theorem JGt : Jp tau Tryz.prog F89 := Js
def JGu : An := (.seq .leaf (.seq (.seq .leaf (.cond (.seq .leaf .leaf) .leaf)) (.seq .leaf .leaf)))
def g89 (f : Nat) (s_z s_f : Bool) (s : List PV) (k : KR) : OR := bif s_z then k (Res.mk (.ro 67 true true []) [] []) else bif Je (0 + s.length) 16 && true then k (Res.mk (.ow 67 16 [] 0 (0 + s.length) none) [] [.vec false 67 false s]) else none
theorem e89 (f : Nat) (s_z s_f : Bool) (s : List PV) (k : KR) : JI tau F89 Tryz.f89 (Tryz.f89.body.get!) JGu [] 0 [.ro 67 s_z s_f s] [] k = g89 f s_z s_f s k := by kernel_rfl
theorem JQM (f : Nat) : ∀ q ∈ Jf (Tryz.f89.body.get!) JGu, q.Ok tau Tryz.prog 0 := Jv (by kernel_rfl)
theorem JMN : Tryz.prog.funcs[89]? = some Tryz.f89 := by kernel_rfl
theorem JMO : Tryz.f89.body = some (Tryz.f89.body.get!) := by kernel_rfl
theorem JGv : Enters Tryz.prog 89 := enters_of JMN (by kernel_rfl) JMO
def JvJ : Jy
 | [.ro 67 s_z s_f s], [], k => g89 0 s_z s_f s k
 | _, _, _ => none
def s89 : Sig := { own := [], run := JvJ }
theorem JGw : Jc tau Tryz.prog 89 s89 := JN Jn JGt Jo JMN JMO JGu [] 0 [] JvJ (JQM 0) fun xs es k res hr => by
 unfold JvJ at hr
 split at hr
 · exact ⟨rfl, 0, (e89 0 _ _ _  _).trans hr⟩
 · cases hr
def F49 : Fns := Jr 89 s89 (F0)
theorem JGx : Jp tau Tryz.prog F49 := (Js).add JGw JGv
def JGy : An := (.seq .leaf (.seq .leaf (.seq .leaf .leaf)))
def g49 (f : Nat) (y0 y1 : Int) (y2 : ByteArray) (y3 y4 : Bool) (y5 : List PV) (y6 : Int) (y7 : List PV) (k : KR) : OR := bif y3 then k (Res.mk (.st 56 [.st 46 [.sc (.int .i64 y0), .sc (.int .i64 y1)], .sc (.string y2), .ro 67 true true [], .sc (.int .i64 y6), .ar 28 y7]) [] []) else bif Je (0 + y5.length) 16 && true then k (Res.mk (.st 56 [.st 46 [.sc (.int .i64 y0), .sc (.int .i64 y1)], .sc (.string y2), .ro 67 false false (List.take (0 + y5.length) y5), .sc (.int .i64 y6), .ar 28 y7]) [] []) else none
theorem e49 (f : Nat) (y0 y1 : Int) (y2 : ByteArray) (y3 y4 : Bool) (y5 : List PV) (y6 : Int) (y7 : List PV) (k : KR) : JI tau F49 Tryz.f49 (Tryz.f49.body.get!) JGy [.ro] 0 [.st 56 [.st 46 [.sc (.int .i64 y0), .sc (.int .i64 y1)], .sc (.string y2), .ro 67 y3 y4 y5, .sc (.int .i64 y6), .ar 28 y7]] [] k = g49 f y0 y1 y2 y3 y4 y5 y6 y7 k := by kernel_rfl
theorem JQN (f : Nat) : ∀ q ∈ Jf (Tryz.f49.body.get!) JGy, q.Ok tau Tryz.prog 0 := Jv (by kernel_rfl)
theorem JMP : Tryz.prog.funcs[49]? = some Tryz.f49 := by kernel_rfl
theorem JMQ : Tryz.f49.body = some (Tryz.f49.body.get!) := by kernel_rfl
theorem JQO : Enters Tryz.prog 49 := enters_of JMP (by kernel_rfl) JMQ
def JvK : Jy
 | [.st 56 [.st 46 [.sc (.int .i64 y0), .sc (.int .i64 y1)], .sc (.string y2), .ro 67 y3 y4 y5, .sc (.int .i64 y6), .ar 28 y7]], [], k => g49 0 y0 y1 y2 y3 y4 y5 y6 y7 k
 | _, _, _ => none
def s49 : Sig := { own := [], run := JvK }
theorem JQP : Jc tau Tryz.prog 49 s49 := JN Jn JGx Jo JMP JMQ JGy [.ro] 0 [] JvK (JQN 0) fun xs es k res hr => by
 unfold JvK at hr
 split at hr
 · exact ⟨rfl, 0, (e49 0 _ _ _ _ _ _ _ _  _).trans hr⟩
 · cases hr
def JMR : Fns := F0
theorem Jzq : Jp tau Tryz.prog JMR := Js
def JvL : An := (.seq .leaf (.seq .leaf .leaf))
def Jzr (f : Nat) (a_D a_U : Int) (k : KR) : OR := bif decide (a_D >= 0) then bif decide (a_D < 3) then bif decide (a_U >= 0) then k (Res.mk (.sc (.bool (decide (a_U < 8)))) [] []) else k (Res.mk (.sc (.bool false)) [] []) else k (Res.mk (.sc (.bool false)) [] []) else k (Res.mk (.sc (.bool false)) [] [])
theorem JQQ (f : Nat) (a_D a_U : Int) (k : KR) : JI tau JMR Tryz.f137 (Tryz.f137.body.get!) JvL [.ro] 0 [.st 67 [.sc (.int .i64 a_D), .sc (.int .i64 a_U)]] [] k = Jzr f a_D a_U k := by kernel_rfl
theorem JMS (f : Nat) : ∀ q ∈ Jf (Tryz.f137.body.get!) JvL, q.Ok tau Tryz.prog 0 := Jv (by kernel_rfl)
theorem JCp : Tryz.prog.funcs[137]? = some Tryz.f137 := by kernel_rfl
theorem JCq : Tryz.f137.body = some (Tryz.f137.body.get!) := by kernel_rfl
theorem JMT : Enters Tryz.prog 137 := enters_of JCp (by kernel_rfl) JCq
def Jou : Jy
 | [.st 67 [.sc (.int .i64 a_D), .sc (.int .i64 a_U)]], [], k => Jzr 0 a_D a_U k
 | _, _, _ => none
def JQR : Sig := { own := [], run := Jou }
theorem JMU : Jc tau Tryz.prog 137 JQR := JN Jn Jzq Jo JCp JCq JvL [.ro] 0 [] Jou (JMS 0) fun xs es k res hr => by
 unfold Jou at hr
 split at hr
 · exact ⟨rfl, 0, (JQQ 0 _ _  _).trans hr⟩
 · cases hr
def JrK : Nat := 19
def JGz : Fns := F0
theorem JqI : Jp tau Tryz.prog JGz := Js
def Jjo : Code := Qd (Tryz.f132.body.get!) [1, 0, 1, 0, 0]
def Jcf : Nm := [(0, .any), (3, .any), (7, .any), (8, .any)]
def Jd4 : Nm := [(4, .any)]
def Jov : An := (.seq .leaf (.seq (.cond .leaf .leaf) (.seq (.block none (.seq .leaf (.seq .leaf (.cond (.seq .leaf .leaf) .leaf)))) .leaf)))
def JqJ (r0 : Qt) : An := (.seq .leaf (.seq (.seq .leaf (.block none (.sum Jcf JrK r0))) (.seq .leaf .leaf)))
abbrev JqK := Bool -> Bool -> List PV -> Int -> Int -> Int -> Int -> OR
def VN (f : Nat) (rc : JqK) (k0 : Int -> OR) (k1 : OR) (v0 v1 : Bool) (v2 : List PV) (v3 v4 v5 v6 : Int) : OR := bif decide (v4 < v3) then bif decide (0 <= v4) && decide (v4 < zi v2.length) && (PV.isSt 67 #[Field.mk "D" 3 0 false "" "" 0, Field.mk "U" 3 1 false "" "" 8].size (v2.getD v4.toNat PV.top) && (PV.isInt IntKind.i64 (PV.child 0 (v2.getD v4.toNat PV.top)) && (PV.isInt IntKind.i64 (PV.child (0 + 1) (v2.getD v4.toNat PV.top)) && true))) && true then bif v5 == (PV.child 0 (v2.getD v4.toNat PV.top)).int && (v6 == (PV.child (0 + 1) (v2.getD v4.toNat PV.top)).int && true) then k0 v4 else rc v0 v1 v2 v3 (IntKind.i64.wrap (v4 + 1)) v5 v6 else none else k1
def ZR (f : Nat) (k0 : Int -> OR) (k1 : OR) : Nat -> JqK
 | 0 => fun _ _ _ _ _ _ _ => none
 | n + 1 => VN f (ZR f k0 k1 n) k0 k1
def Gi (k : Kont) := fun x0 => k Ex.ret (Ji Jd4 JrK [.sc (.int .i64 x0)] [])
def Gj (k : Kont) := k (Ex.exit 0) (Ji Jd4 JrK [PV.top] [])
def Jjp (f : Nat) (k : Kont) (n : Nat) (v0 v1 : Bool) (v2 : List PV) (v3 v4 v5 v6 : Int) : OR := Jx tau 0 Jcf (fun s k => ev tau JGz 0 0 Jjo (Jov ) s k) n (Ji Jcf JrK [.ro 67 v0 v1 v2, .ptr 320 [], .sc (.int .i64 v3), .sc (.int .i64 v4)] [(320, .box false 67 (PV.st 67 [.sc (.int .i64 v5), .sc (.int .i64 v6)]))]) (JG tau 0 Jd4 k)
theorem JvM (f : Nat) (k : Kont) (n : Nat) : Jjp f k (n + 1) = VN f (Jjp f k n) (Gi k) (Gj k) := by kernel_rfl
theorem Jk9 (f : Nat) (k : Kont) : ∀ n, Jjp f k n = ZR f (Gi k) (Gj k) n
 | 0 => rfl
 | n + 1 => (JvM f k n).trans (congrArg (fun r => VN f r (Gi k) (Gj k)) (Jk9 f k n))
def Jar (f : Nat) : List PV -> List (Nat × Ent) -> Kont -> OR
 | [.ro 67 v0 v1 v2, .ptr 320 [], .sc (.int .i64 v3),
 PV.sc
  (Value.int IntKind.i64
   v4)], [(320,
  Ent.box false 67
   (PV.st 67
    [.sc (.int .i64 v5),
     PV.sc
      (Value.int IntKind.i64
       v6)]))], k => ZR f (Gi k) (Gj k) f v0 v1 v2 v3 v4 v5 v6
 | _, _, _ => none
theorem Jzs (f : Nat) : Jf Jjo Jov = [] := by kernel_rfl
theorem Jzt (f : Nat) : (Item.l Jjo Jcf JrK (Jar f)).Ok tau Tryz.prog 0 := Jt Jn JqI Jo (x := Jov) (nm2 := Jd4) (Jl _ _ (by rw [Jzs f]; intro q hq; cases hq)) fun vs hp k res hr => by
 unfold Jar at hr
 split at hr
 · rw [← Jk9 f] at hr; exact ⟨f, 0, hr⟩
 · cases hr
def JGA (f : Nat) (s_z s_f : Bool) (s : List PV) (v_D v_U : Int) (k : KR) : OR := ZR f (fun x0_0 => k (Res.mk (.sc (.int .i64 x0_0)) [] [])) (k (Res.mk (.sc (.int .i64 (-1))) [] [])) f s_z s_f s (zi s.length) (0) v_D v_U
theorem JQS (f : Nat) (s_z s_f : Bool) (s : List PV) (v_D v_U : Int) (k : KR) : JI tau JGz Tryz.f132 (Tryz.f132.body.get!) (JqJ (Jar f)) [.ro] 0 [.ro 67 s_z s_f s, .st 67 [.sc (.int .i64 v_D), .sc (.int .i64 v_U)]] [] k = JGA f s_z s_f s v_D v_U k := by kernel_rfl
theorem JMV (f : Nat) : Jf (Tryz.f132.body.get!) (JqJ (Jar f)) = [.l Jjo Jcf JrK (Jar f)] := by kernel_rfl
theorem JMW (f : Nat) : ∀ q ∈ Jf (Tryz.f132.body.get!) (JqJ (Jar f)), q.Ok tau Tryz.prog 0 := by rw [JMV f]; exact JJ (Jzt f) (fun _ h => nomatch h)
theorem JCr : Tryz.prog.funcs[132]? = some Tryz.f132 := by kernel_rfl
theorem JCs : Tryz.f132.body = some (Tryz.f132.body.get!) := by kernel_rfl
theorem JMX : Enters Tryz.prog 132 := enters_of JCr (by kernel_rfl) JCs
def JvN : Nat := 53
def JGB : Fns := F0
theorem JqL : Jp tau Tryz.prog JGB := Js
def JfT : Code := Qd (Tryz.f136.body.get!) [1, 0]
def Jcg : Nm := [(0, .any), (3, .any), (6, .any)]
def Jjq : Nm := [(4, .any), (5, .any)]
def Jjr : An := (.seq .leaf (.seq .leaf (.seq (.block none (.seq .leaf (.cond (.seq .leaf .leaf) (.seq .leaf (.cond (.seq .leaf .leaf) .leaf))))) (.seq .leaf .leaf))))
def JqM (r0 : Jsm) : An := (.seq .leaf (.ssum Jcg JvN (Jjr) r0))
abbrev JqN := Bool -> Bool -> List PV -> Int -> Int -> Int -> OR
abbrev QG (v2 : List PV) (v3 : Int) := (PV.isSt 67 #[Field.mk "D" 3 0 false "" "" 0, Field.mk "U" 3 1 false "" "" 8].size (v2.getD v3.toNat PV.top) && (PV.isInt IntKind.i64 (PV.child 0 (v2.getD v3.toNat PV.top)) && (PV.isInt IntKind.i64 (PV.child (0 + 1) (v2.getD v3.toNat PV.top)) && true)))
def WR (f : Nat) (rc : JqN) (k0 : Int -> Bool -> OR) (v0 v1 : Bool) (v2 : List PV) (v3 v4 v5 : Int) : OR := bif v3 == zi v2.length then k0 v3 false else bif decide (0 <= v3) && decide (v3 < zi v2.length) && (QG v2 v3) && true then bif decide ((PV.child 0 (v2.getD v3.toNat PV.top)).int > v4) then k0 v3 false else bif decide (0 <= v3) && decide (v3 < zi v2.length) && (QG v2 v3) && true then bif (PV.child 0 (v2.getD v3.toNat PV.top)).int == v4 then bif decide (0 <= v3) && decide (v3 < zi v2.length) && (QG v2 v3) && true then bif decide ((PV.child (0 + 1) (v2.getD v3.toNat PV.top)).int > v5) then k0 v3 false else bif decide (0 <= v3) && decide (v3 < zi v2.length) && (QG v2 v3) && true then bif (PV.child 0 (v2.getD v3.toNat PV.top)).int == v4 && ((PV.child (0 + 1) (v2.getD v3.toNat PV.top)).int == v5 && true) then k0 v3 true else rc v0 v1 v2 (IntKind.i64.wrap (v3 + 1)) v4 v5 else none else none else bif decide (0 <= v3) && decide (v3 < zi v2.length) && (QG v2 v3) && true then bif (PV.child 0 (v2.getD v3.toNat PV.top)).int == v4 && ((PV.child (0 + 1) (v2.getD v3.toNat PV.top)).int == v5 && true) then k0 v3 true else rc v0 v1 v2 (IntKind.i64.wrap (v3 + 1)) v4 v5 else none else none else none
def Xn (f : Nat) (k0 : Int -> Bool -> OR) : Nat -> JqN
 | 0 => fun _ _ _ _ _ _ => none
 | n + 1 => WR f (Xn f k0 n) k0
def Gk (k : Kont) := fun x0 x1 => k Ex.ret (Ji Jjq JvN [.sc (.int .i64 x0), .sc (.bool x1)] [])
def Jjs (f : Nat) (k : Kont) (n : Nat) (v0 v1 : Bool) (v2 : List PV) (v3 v4 v5 : Int) : OR := Q5 tau 0 Jcg (hasLabel JfT) (fun l s k => Qh tau JGB 0 0 JfT (Jjr ) l s k) n 0 (Ji Jcg JvN [.ro 67 v0 v1 v2, .ptr 864 [], .sc (.int .i64 v3)] [(864, .box false 67 (PV.st 67 [.sc (.int .i64 v4), .sc (.int .i64 v5)]))]) (JG tau 0 Jjq k)
theorem JvO (f : Nat) (k : Kont) (n : Nat) : Jjs f k (n + 1) = WR f (Jjs f k n) (Gk k) := by kernel_rfl
theorem Jla (f : Nat) (k : Kont) : ∀ n, Jjs f k n = Xn f (Gk k) n
 | 0 => rfl
 | n + 1 => (JvO f k n).trans (congrArg (fun r => WR f r (Gk k)) (Jla f k n))
def Jas (f : Nat) : Nat -> List PV -> List (Nat × Ent) -> Kont -> OR
 | 0, [.ro 67 v0 v1 v2, .ptr 864 [],
 PV.sc
  (Value.int IntKind.i64
   v3)], [(864,
  Ent.box false 67
   (PV.st 67
    [.sc (.int .i64 v4),
     .sc (.int .i64 v5)]))], k => Xn f (Gk k) f v0 v1 v2 v3 v4 v5
 | _, _, _, _ => none
theorem Jzu (f : Nat) : Jf JfT Jjr = [] := by kernel_rfl
theorem Jzv (f : Nat) : (Item.s JfT Jcg JvN (Jas f)).Ok tau Tryz.prog 0 := X0 Jn JqL Jo (x := Jjr) (nm2 := Jjq) (Jl _ _ (by rw [Jzu f]; intro q hq; cases hq)) fun l vs hp k res hr => by
 unfold Jas at hr
 split at hr
 · rw [← Jla f] at hr; exact ⟨f, 0, hr⟩
 · cases hr
abbrev Gl (l : List PV) := (PV.isSt 67 #[Field.mk "D" 3 0 false "" "" 0, Field.mk "U" 3 1 false "" "" 8].size (l.getD (Int.toNat 0) PV.top) && (PV.isInt IntKind.i64 (PV.child 0 (l.getD 0 PV.top)) && (PV.isInt IntKind.i64 (PV.child (0 + 1) (l.getD 0 PV.top)) && true)))
abbrev Jd5 := (Res.mk (PV.tup [PV.sc (.int .i64 0), PV.sc (.bool false)]) [] [])
def Jzw (f : Nat) (l_z l_f : Bool) (l : List PV) (a_D a_U : Int) (k : KR) : OR := bif 0 == zi l.length then k Jd5 else bif decide (0 < zi l.length) && (Gl l) && true then bif decide ((PV.child 0 (l.getD 0 PV.top)).int > a_D) then k Jd5 else bif decide (0 < zi l.length) && (Gl l) && true then bif (PV.child 0 (l.getD 0 PV.top)).int == a_D then bif decide (0 < zi l.length) && (Gl l) && true then bif decide ((PV.child (0 + 1) (l.getD 0 PV.top)).int > a_U) then k Jd5 else bif decide (0 < zi l.length) && (Gl l) && true then bif (PV.child 0 (l.getD 0 PV.top)).int == a_D && ((PV.child (0 + 1) (l.getD 0 PV.top)).int == a_U && true) then k (Res.mk (.tup [.sc (.int .i64 0), .sc (.bool true)]) [] []) else Xn f (fun x0_0 x1_0 => k (Res.mk (.tup [.sc (.int .i64 x0_0), .sc (.bool x1_0)]) [] [])) f l_z l_f l (IntKind.i64.wrap (0 + 1)) a_D a_U else none else none else bif decide (0 < zi l.length) && (Gl l) && true then bif (PV.child 0 (l.getD 0 PV.top)).int == a_D && ((PV.child (0 + 1) (l.getD 0 PV.top)).int == a_U && true) then k (Res.mk (.tup [.sc (.int .i64 0), .sc (.bool true)]) [] []) else Xn f (fun x0_1 x1_1 => k (Res.mk (.tup [.sc (.int .i64 x0_1), .sc (.bool x1_1)]) [] [])) f l_z l_f l (IntKind.i64.wrap (0 + 1)) a_D a_U else none else none else none
theorem JQT (f : Nat) (l_z l_f : Bool) (l : List PV) (a_D a_U : Int) (k : KR) : JI tau JGB Tryz.f136 (Tryz.f136.body.get!) (JqM (Jas f)) [.ro, .ro] 0 [.ro 67 l_z l_f l, .st 67 [.sc (.int .i64 a_D), .sc (.int .i64 a_U)]] [] k = Jzw f l_z l_f l a_D a_U k := by kernel_rfl
theorem JMY (f : Nat) : Jf (Tryz.f136.body.get!) (JqM (Jas f)) = [.s JfT Jcg JvN (Jas f)] := by kernel_rfl
theorem JMZ (f : Nat) : ∀ q ∈ Jf (Tryz.f136.body.get!) (JqM (Jas f)), q.Ok tau Tryz.prog 0 := by rw [JMY f]; exact JJ (Jzv f) (fun _ h => nomatch h)
theorem JCt : Tryz.prog.funcs[136]? = some Tryz.f136 := by kernel_rfl
theorem JCu : Tryz.f136.body = some (Tryz.f136.body.get!) := by kernel_rfl
theorem JCv : Enters Tryz.prog 136 := enters_of JCt (by kernel_rfl) JCu
def Jat (l : List PV) (a : AV) : Bool := Nat.blt (Wa l a) l.length && eqA (av (l.getD (Wa l a) .top)) a
theorem Jd6 {a : AV} : ltA a a = false := by
 cases h : ltA a a with
 | false => rfl
 | true => rw [Yv] at h; omega
theorem hasL_above {a : AV} : ∀ {l : List PV}, (∀ q ∈ l, ltA a (av q) = true) -> hasL l a = false
 | [], _ => rfl
 | p :: l, h => by
  have h1 : eqA (av p) a = false := by
   cases he : eqA (av p) a with
   | false => rfl
   | true => have := h p List.mem_cons_self; rw [QI.1 he, Jd6] at this; cases this
  have h2 := hasL_above fun q hq => h q (List.mem_cons_of_mem _ hq)
  show (eqA (av p) a || hasL l a) = false
  rw [h1, h2]; rfl
theorem Jhb {a : AV} : ∀ {l : List PV}, hasL l a = false -> rmA l a = l
 | [], _ => rfl
 | p :: l, h => by
  have h : (eqA (av p) a || hasL l a) = false := h
  rw [Bool.or_eq_false_iff] at h
  unfold rmA
  rw [List.filter_cons, h.1]
  exact congrArg (p :: ·) (Jhb h.2)
theorem Y4 {a : AV} : ∀ {l : List PV}, srt l = true -> Jat l a = hasL l a
 | [], _ => rfl
 | p :: l, h => by
  obtain ⟨h1, h2⟩ := Yd.1 h
  show Jat (p :: l) a = (eqA (av p) a || hasL l a)
  unfold Jat
  simp only [Wa]
  cases hc : ltA (av p) a with
  | true =>
   have he : eqA (av p) a = false := by
    cases he : eqA (av p) a with
    | false => rfl
    | true => rw [QI.1 he, Jd6] at hc; cases hc
   have ih := Y4 (a := a) h2
   unfold Jat at ih
   rw [cond_true, he, Bool.false_or, ← ih, List.getD_cons_succ]
   rfl
  | false =>
   rw [cond_false]
   have hd : Nat.blt 0 (p :: l).length = true := rfl
   rw [hd, Bool.true_and, List.getD_cons_zero]
   cases he : eqA (av p) a with
   | true => rfl
   | false =>
    have hl := Jvl hc he
    rw [hasL_above fun q hq => Jg8 hl (h1 q hq)]; rfl
theorem JqO {a : AV} : ∀ {l : List PV}, srt l = true -> Jat l a = true -> l.take (Wa l a) ++ l.drop (Wa l a + 1) = rmA l a
 | [], _, h => by cases h
 | p :: l, h, hf => by
  obtain ⟨h1, h2⟩ := Yd.1 h
  have hf2 := hf
  unfold Jat at hf
  simp only [Wa] at hf ⊢
  cases hc : ltA (av p) a with
  | true =>
   have he : eqA (av p) a = false := by
    cases he : eqA (av p) a with
    | false => rfl
    | true => rw [QI.1 he, Jd6] at hc; cases hc
   have hf' : Jat l a = true := by
    rw [Y4 h] at hf2
    rw [Y4 h2]
    have : (eqA (av p) a || hasL l a) = true := hf2
    rwa [he, Bool.false_or] at this
   have ih := JqO h2 hf'
   unfold rmA at ih ⊢
   rw [cond_true, List.take_succ_cons, List.drop_succ_cons, List.filter_cons, he, List.cons_append, ih]; rfl
  | false =>
   rw [hc, cond_false, Bool.and_eq_true] at hf
   have he : eqA (av p) a = true := hf.2
   rw [cond_false, List.take_zero, List.nil_append, List.drop_succ_cons, List.drop_zero]
   have ha := QI.1 he
   have := Jhb (a := a) (hasL_above (l := l) fun q hq => by have := h1 q hq; rwa [ha] at this)
   unfold rmA at this ⊢
   rw [List.filter_cons, he]
   exact this.symm
theorem JvP (a b : AV) : eqA a b = eqA b a := by
 cases h : eqA b a with
 | true => exact QI.2 (QI.1 h).symm
 | false =>
  cases h2 : eqA a b with
  | false => rfl
  | true => rw [QI.2 (QI.1 h2).symm] at h; cases h
theorem JrL (p : PV) (l : List PV) (a : AV) : Jat (p :: l) a = bif ltA (av p) a then Jat l a else eqA (av p) a := by
 unfold Jat
 simp only [Wa]
 cases ltA (av p) a with
 | true => rfl
 | false => rfl
def Gu : PH -> Int := hid fun x => (Wa x.l x.a : Int)
def JrM : PH -> Bool := hid fun x => Jat x.l x.a
theorem Jjt (x : PH) : Gu x = (Wa x.l x.a : Int) := by rw [Gu, hid_eq]
theorem Jju (x : PH) : JrM x = Jat x.l x.a := by rw [JrM, hid_eq]
theorem JvQ (f : Nat) (rc : Bool -> Bool -> List PV -> Int -> Int -> Int -> OR) (k0 : Int -> Bool -> OR) (z fl : Bool) (l : List PV) (d u : Int) : WR f rc k0 z fl l (l.length : Int) d u = k0 (l.length : Int) false := by
 simp only [WR, QG]
 exact Ja (beq_self_eq_true _)
theorem JrN (f : Nat) (rc : Bool -> Bool -> List PV -> Int -> Int -> Int -> OR) (k0 : Int -> Bool -> OR) (z fl : Bool) (l : List PV) (hl : l.all Zx = true) (h2 : l.length <= 1000) (i : Nat) (hi : i < l.length) (d u : Int) :
   WR f rc k0 z fl l (i : Int) d u = bif ltA (av (l.getD i .top)) ⟨d, u⟩ then rc z fl l ((i + 1 : Nat) : Int) d u else k0 (i : Int) (eqA (av (l.getD i .top)) ⟨d, u⟩) := by
 have g1 := tI i
 have w1 := wI (i := i) (by omega)
 have hc := Xa (Xb hl hi)
 unfold Vy at hc
 simp only [WR, QG, g1, w1]
 generalize l.getD i .top = p at *
 have hr : (decide (0 <= (i : Int)) && decide ((i : Int) < zi l.length) && (PV.isSt 67 #[Field.mk "D" 3 0 false "" "" 0, Field.mk "U" 3 1 false "" "" 8].size p && (PV.isInt IntKind.i64 (PV.child 0 p) && (PV.isInt IntKind.i64 (PV.child (0 + 1) p) && true))) && true) = true := by rw [hc]; simp [zi]; omega
 have e1 : (PV.child 0 p).int = (av p).d := rfl
 have e2 : (PV.child (0 + 1) p).int = (av p).u := rfl
 have e3 : ((av p).d == d && ((av p).u == u && true)) = eqA (av p) ⟨d, u⟩ := rfl
 rw [e1, e2, e3]
 refine (Jd (beq_false_of_ne (by simp only [zi]; omega))).trans ((Ja hr).trans ?_)
 by_cases h1 : (av p).d > d
 · have hlt : ltA (av p) ⟨d, u⟩ = false := Bool.eq_false_iff.2 fun h => by have h := Yv.1 h; simp only at h; omega
   have heq : eqA (av p) ⟨d, u⟩ = false := Bool.eq_false_iff.2 fun h => by have h := QI.1 h; rw [h] at h1; simp only at h1; omega
   rw [hlt, heq]
   exact Ja (decide_eq_true h1)
 refine (Jd (decide_eq_false h1)).trans ((Ja hr).trans ?_)
 by_cases h2 : (av p).d = d
 · refine (Ja (by simpa using h2)).trans ((Ja hr).trans ?_)
   by_cases h3 : (av p).u > u
   · have hlt : ltA (av p) ⟨d, u⟩ = false := Bool.eq_false_iff.2 fun h => by have h := Yv.1 h; simp only at h; omega
     have heq : eqA (av p) ⟨d, u⟩ = false := Bool.eq_false_iff.2 fun h => by have h := QI.1 h; rw [h] at h3; simp only at h3; omega
     rw [hlt, heq]
     exact Ja (decide_eq_true h3)
   · refine (Jd (decide_eq_false h3)).trans ((Ja hr).trans ?_)
     cases he : eqA (av p) ⟨d, u⟩ with
     | true =>
      have hlt : ltA (av p) ⟨d, u⟩ = false := by rw [QI.1 he]; exact Jd6
      rw [hlt]; rfl
     | false =>
      have hlt : ltA (av p) ⟨d, u⟩ = true := Yv.2 (by
       rcases Int.lt_or_le (av p).u u with g | g
       · exact .inr ⟨h2, g⟩
       · exfalso
         have : eqA (av p) ⟨d, u⟩ = true := QI.2 (by
          have : (av p).u = u := by omega
          cases hp : av p with
          | mk x y => rw [hp] at h2 this; simp only at h2 this; rw [h2, this])
         rw [this] at he; cases he)
      rw [hlt]; rfl
 · refine (Jd (by simpa using h2)).trans ((Ja hr).trans ?_)
   have hlt : ltA (av p) ⟨d, u⟩ = true := Yv.2 (.inl (by show (av p).d < d; omega))
   have heq : eqA (av p) ⟨d, u⟩ = false := Bool.eq_false_iff.2 fun h => by have h := QI.1 h; rw [h] at h2; exact h2 rfl
   rw [hlt, heq]; rfl
theorem JvR (l : List PV) (hl : l.all Zx = true) (h2 : l.length <= 1000) (d u : Int) (f : Nat) (k0 : Int -> Bool -> OR) (z fl : Bool) : ∀ (e i n : Nat), i + e = l.length -> e < n ->
  Xn f k0 n z fl l (i : Int) d u = k0 ((i + Wa (l.drop i) ⟨d, u⟩ : Nat) : Int) (Jat (l.drop i) ⟨d, u⟩)
 | 0, i, n + 1, hi, hn => by
   rw [List.drop_of_length_le (by omega)]
   obtain rfl : i = l.length := by omega
   simp only [Xn]
   exact JvQ f _ k0 z fl l d u
 | e + 1, i, n + 1, hi, hn => by
   simp only [Xn]
   rw [JrN f _ k0 z fl l hl h2 i (by omega) d u, JY (by omega), JrL, Wa]
   cases ltA (av (l.getD i .top)) ⟨d, u⟩ with
   | false => rfl
   | true =>
    simp only [cond_true]
    rw [JvR l hl h2 d u f k0 z fl e (i + 1) n (by omega) (by omega)]
    rw [show i + 1 + Wa (l.drop (i + 1)) ⟨d, u⟩ = i + (Wa (l.drop (i + 1)) ⟨d, u⟩ + 1) from by omega]
theorem Jzx (f : Nat) (z fl : Bool) (l : List PV) (d u : Int) (k : KR) : Jzw f z fl l d u k = WR f (Xn f (fun x y => k ⟨.tup [.sc (.int .i64 x), .sc (.bool y)], [], []⟩) f) (fun x y => k ⟨.tup [.sc (.int .i64 x), .sc (.bool y)], [], []⟩) z fl l 0 d u := by
 unfold Jzw Jd5 Gl WR QG
 rfl
def Jjv : Jy
 | [.ro 67 z f l, .st 67 [.sc (.int .i64 d), .sc (.int .i64 u)]], [], k => bif JcP l then k ⟨.tup [.sc (.int .i64 (Gu ⟨l, ⟨d, u⟩⟩)), .sc (.bool (JrM ⟨l, ⟨d, u⟩⟩))], [], []⟩ else none
 | _, _, _ => none
def JvS : Sig := { own := [], run := Jjv }
theorem Jzy (z f : Bool) (l : List PV) (d u : Int) (h : JcP l = true) (k : KR) : Jzw (l.length + 1) z f l d u k = k ⟨.tup [.sc (.int .i64 (Gu ⟨l, ⟨d, u⟩⟩)), .sc (.bool (JrM ⟨l, ⟨d, u⟩⟩))], [], []⟩ := by
 obtain ⟨h1, h2⟩ := YZ.1 h
 rw [Jzx, Jjt, Jju]
 have := JvR l h1 h2 d u (l.length + 1) (fun x y => k ⟨.tup [.sc (.int .i64 x), .sc (.bool y)], [], []⟩) z f l.length 0 (l.length + 1 + 1) (by omega) (by omega)
 simp only [Xn, List.drop_zero, Nat.zero_add] at this
 exact this
theorem JvT : Jc tau Tryz.prog 136 JvS := Jc.mk' fun xs es k res hl hr => by
 change Jjv xs es k = some res at hr
 unfold Jjv at hr
 split at hr
 · rename_i z f l d u
   obtain ⟨hc, hr⟩ := Ju hr
   exact J1 Jn JqL Jo JCt JCu (JqM (Jas (l.length + 1))) [.ro, .ro] 0 0 (JMZ (l.length + 1)) hl rfl ((JQT (l.length + 1) z f l d u k).trans ((Jzy z f l d u hc k).trans hr))
 · cases hr
def Jow : List PV -> AV -> Nat
 | [], _ => 0
 | p :: ps, a => bif eqA a (av p) then 0 else Jow ps a + 1
def Jox : PH -> Int := hid fun x => bif hasL x.l x.a then (Jow x.l x.a : Int) else -1
theorem JqP (x : PH) : Jox x = bif hasL x.l x.a then (Jow x.l x.a : Int) else -1 := by rw [Jox, hid_eq]
theorem JvU (x : PH) : decide (Jox x >= 0) = hasP x := by
 rw [JqP, hasP_eq]
 cases hasL x.l x.a with
 | true => exact decide_eq_true (Int.natCast_nonneg _)
 | false => rfl
theorem JvV (l : List PV) (hl : l.all Zx = true) (h2 : l.length <= 1000) (d u : Int) (f : Nat) (k0 : Int -> OR) (k1 : OR) (z fl : Bool) : ∀ (e i n : Nat), i + e = l.length -> e < n ->
  ZR f k0 k1 n z fl l (zi l.length) (i : Int) d u = bif hasL (l.drop i) ⟨d, u⟩ then k0 ((i + Jow (l.drop i) ⟨d, u⟩ : Nat) : Int) else k1
 | 0, i, n + 1, hi, hn => by
   rw [List.drop_of_length_le (by omega)]
   simp only [ZR, VN]
   exact Jd (by simp [zi]; omega)
 | e + 1, i, n + 1, hi, hn => by
   have g1 := tI i
   have w1 := wI (i := i) (by omega)
   have hc := Xa (Xb hl (i := i) (by omega))
   unfold Vy at hc
   rw [JY (by omega)]
   simp only [ZR, VN, g1, w1]
   refine (Ja (by simp [zi]; omega)).trans ((Ja (by rw [hc]; simp [zi]; omega)).trans ?_)
   have he : (d == (PV.child 0 (l.getD i PV.top)).int && (u == (PV.child (0 + 1) (l.getD i PV.top)).int && true)) = eqA ⟨d, u⟩ (av (l.getD i .top)) := rfl
   have hh : hasL (l.getD i .top :: l.drop (i + 1)) ⟨d, u⟩ = (eqA ⟨d, u⟩ (av (l.getD i .top)) || hasL (l.drop (i + 1)) ⟨d, u⟩) := by
    rw [JvP]; rfl
   rw [he, hh, Jow]
   cases eqA ⟨d, u⟩ (av (l.getD i .top)) with
   | true => rfl
   | false =>
    refine (Jd rfl).trans ((JvV l hl h2 d u f k0 k1 z fl e (i + 1) n (by omega) (by omega)).trans ?_)
    rw [Bool.false_or, cond_false, show i + 1 + Jow (l.drop (i + 1)) ⟨d, u⟩ = i + (Jow (l.drop (i + 1)) ⟨d, u⟩ + 1) from by omega]
def Jjw : Jy
 | [.ro 67 z f l, .st 67 [.sc (.int .i64 d), .sc (.int .i64 u)]], [], k => bif JcP l then k ⟨.sc (.int .i64 (Jox ⟨l, ⟨d, u⟩⟩)), [], []⟩ else none
 | _, _, _ => none
def JCw : Sig := { own := [], run := Jjw }
theorem Jzz (z f : Bool) (l : List PV) (d u : Int) (h : JcP l = true) (k : KR) : JGA (l.length + 1) z f l d u k = k ⟨.sc (.int .i64 (Jox ⟨l, ⟨d, u⟩⟩)), [], []⟩ := by
 obtain ⟨h1, h2⟩ := YZ.1 h
 unfold JGA
 rw [JqP]
 refine (JvV l h1 h2 d u (l.length + 1) _ _ z f l.length 0 (l.length + 1) (by omega) (by omega)).trans ?_
 rw [List.drop_zero, Nat.zero_add]
 cases hasL l ⟨d, u⟩ <;> rfl
theorem JGC : Jc tau Tryz.prog 132 JCw := Jc.mk' fun xs es k res hl hr => by
 change Jjw xs es k = some res at hr
 unfold Jjw at hr
 split at hr
 · rename_i z f l d u
   obtain ⟨hc, hr⟩ := Ju hr
   exact J1 Jn JqI Jo JCr JCs (JqJ (Jar (l.length + 1))) [.ro] 0 0 (JMW (l.length + 1)) hl rfl ((JQS (l.length + 1) z f l d u k).trans ((Jzz z f l d u hc k).trans hr))
 · cases hr
def Jjx : Jy
 | [.st 67 [.sc (.int .i64 a), .sc (.int .i64 b)]], [], k => k ⟨.sc (.bool (inA [a, 2, b, 7])), [], []⟩
 | _, _, _ => none
def JCx : Sig := { own := [], run := Jjx }
theorem JGD : Jc tau Tryz.prog 137 JCx := JMU.of fun xs es k res hr => by
 change Jjx xs es k = some res at hr
 unfold Jjx at hr
 split at hr
 · rename_i a b
   show Jzr 0 a b k = some res
   rw [JkB] at hr
   unfold Jzr
   unfold inZ at hr
   by_cases h1 : a >= 0 <;> by_cases h2 : a < 3 <;> by_cases h3 : b >= 0 <;> by_cases h4 : b < 8 <;> simp [h1, h2, h3, h4, show (a <= 2) ↔ (a < 3) from by omega, show (b <= 7) ↔ (b < 8) from by omega] at hr ⊢ <;> exact hr
 · cases hr
def F90 : Fns := Jr 132 JCw (F0)
theorem JGE : Jp tau Tryz.prog F90 := (Js).add JGC JMX
def JGF : An := (.seq .leaf (.seq .leaf .leaf))
def g90 (f : Nat) (s_z s_f : Bool) (s : List PV) (v_D v_U : Int) (k : KR) : OR := bif JcP s then k (Res.mk (.sc (.bool (decide (Jox (PH.mk s (AV.mk v_D v_U)) >= 0)))) [] []) else none
theorem e90 (f : Nat) (s_z s_f : Bool) (s : List PV) (v_D v_U : Int) (k : KR) : JI tau F90 Tryz.f90 (Tryz.f90.body.get!) JGF [.ro] 0 [.ro 67 s_z s_f s, .st 67 [.sc (.int .i64 v_D), .sc (.int .i64 v_U)]] [] k = g90 f s_z s_f s v_D v_U k := by kernel_rfl
theorem JQU (f : Nat) : ∀ q ∈ Jf (Tryz.f90.body.get!) JGF, q.Ok tau Tryz.prog 0 := Jv (by kernel_rfl)
theorem JM0 : Tryz.prog.funcs[90]? = some Tryz.f90 := by kernel_rfl
theorem JM1 : Tryz.f90.body = some (Tryz.f90.body.get!) := by kernel_rfl
theorem JQV : Enters Tryz.prog 90 := enters_of JM0 (by kernel_rfl) JM1
def JvW : Jy
 | [.ro 67 s_z s_f s, .st 67 [.sc (.int .i64 v_D), .sc (.int .i64 v_U)]], [], k => g90 0 s_z s_f s v_D v_U k
 | _, _, _ => none
def s90 : Sig := { own := [], run := JvW }
theorem JQW : Jc tau Tryz.prog 90 s90 := JN Jn JGE Jo JM0 JM1 JGF [.ro] 0 [] JvW (JQU 0) fun xs es k res hr => by
 unfold JvW at hr
 split at hr
 · exact ⟨rfl, 0, (e90 0 _ _ _ _ _  _).trans hr⟩
 · cases hr
def F50 : Fns := Jr 90 s90 (F0)
theorem JGG : Jp tau Tryz.prog F50 := (Js).add JQW JQV
def JGH : An := (.seq .leaf (.seq .leaf .leaf))
def g50 (f : Nat) (l_z l_f : Bool) (l : List PV) (a_D a_U : Int) (k : KR) : OR := bif JcP l then k (Res.mk (.sc (.bool (decide (Jox (PH.mk l (AV.mk a_D a_U)) >= 0)))) [] []) else none
theorem e50 (f : Nat) (l_z l_f : Bool) (l : List PV) (a_D a_U : Int) (k : KR) : JI tau F50 Tryz.f50 (Tryz.f50.body.get!) JGH [.ro] 0 [.ro 67 l_z l_f l, .st 67 [.sc (.int .i64 a_D), .sc (.int .i64 a_U)]] [] k = g50 f l_z l_f l a_D a_U k := by kernel_rfl
theorem JQX (f : Nat) : ∀ q ∈ Jf (Tryz.f50.body.get!) JGH, q.Ok tau Tryz.prog 0 := Jv (by kernel_rfl)
theorem JM2 : Tryz.prog.funcs[50]? = some Tryz.f50 := by kernel_rfl
theorem JM3 : Tryz.f50.body = some (Tryz.f50.body.get!) := by kernel_rfl
theorem JQY : Enters Tryz.prog 50 := enters_of JM2 (by kernel_rfl) JM3
def JvX : Jy
 | [.ro 67 l_z l_f l, .st 67 [.sc (.int .i64 a_D), .sc (.int .i64 a_U)]], [], k => g50 0 l_z l_f l a_D a_U k
 | _, _, _ => none
def s50 : Sig := { own := [], run := JvX }
theorem JQZ : Jc tau Tryz.prog 50 s50 := JN Jn JGG Jo JM2 JM3 JGH [.ro] 0 [] JvX (JQX 0) fun xs es k res hr => by
 unfold JvX at hr
 split at hr
 · exact ⟨rfl, 0, (e50 0 _ _ _ _ _  _).trans hr⟩
 · cases hr
def JM4 : Fns := F0
theorem JzA : Jp tau Tryz.prog JM4 := Js
def JvY : An := (.seq .leaf (.seq (.seq .leaf (.cond .leaf .leaf)) (.seq (.seq .leaf (.seq .leaf (.cond .leaf .leaf))) (.seq .leaf .leaf))))
def JM5 (f : Nat) (n : Int) (k : KR) : OR := bif decide (n < 0) then none else bif decide (IntKind.i64.wrap (n - IntKind.i64.wrap (zi 0 - zi 0)) > 0) then bif decide (0 <= IntKind.i64.wrap (n - IntKind.i64.wrap (zi 0 - zi 0))) && Je (IntKind.i64.wrap (n - IntKind.i64.wrap (zi 0 - zi 0))).toNat 16 && true then k (Res.mk (.ow 67 16 [] 0 0 none) [] [.vec false 67 (IntKind.i64.wrap (n - IntKind.i64.wrap (zi 0 - zi 0)) == 0) (List.replicate (IntKind.i64.wrap (n - IntKind.i64.wrap (zi 0 - zi 0))).toNat (PV.st 67 [.sc (.int .i64 0), .sc (.int .i64 0)]))]) else none else k (Res.mk (.ro 67 true true []) [] [])
theorem JQ0 (f : Nat) (n : Int) (k : KR) : JI tau JM4 Tryz.f150 (Tryz.f150.body.get!) JvY [] 0 [.ro 67 true true [], .sc (.int .i64 n)] [] k = JM5 f n k := by kernel_rfl
theorem JM6 (f : Nat) : ∀ q ∈ Jf (Tryz.f150.body.get!) JvY, q.Ok tau Tryz.prog 0 := Jv (by kernel_rfl)
theorem JCy : Tryz.prog.funcs[150]? = some Tryz.f150 := by kernel_rfl
theorem JCz : Tryz.f150.body = some (Tryz.f150.body.get!) := by kernel_rfl
theorem JM7 : Enters Tryz.prog 150 := enters_of JCy (by kernel_rfl) JCz
def Joy : Jy
 | [.ro 67 true true [], .sc (.int .i64 n)], [], k => JM5 0 n k
 | _, _, _ => none
def JM8 : Sig := { own := [], run := Joy }
theorem JM9 : Jc tau Tryz.prog 150 JM8 := JN Jn JzA Jo JCy JCz JvY [] 0 [] Joy (JM6 0) fun xs es k res hr => by
 unfold Joy at hr
 split at hr
 · exact ⟨rfl, 0, (JQ0 0 _  _).trans hr⟩
 · cases hr
def Jau : Nat := 36
def JrO : Fns := Jr 150 JM8 (F0)
theorem Jjy : Jp tau Tryz.prog JrO := (Js).add JM9 JM7
def Jjz : Code := Qd (Tryz.f138.body.get!) [1, 1, 0, 1, 0, 0]
def Jch : Nm := [(0, .any), (3, .any), (9, .any), (10, .any), (11, .any)]
def JjA : Nm := [(0, .any), (3, .any)]
def Joz : An := (.seq .leaf (.seq (.cond .leaf .leaf) (.seq (.block none (.seq .leaf (.seq .leaf (.seq .leaf (.cond .leaf .leaf))))) .leaf)))
def Jc2 : Code := Qd (Tryz.f138.body.get!) [1, 1, 1, 1, 0, 1, 0, 0]
def XL : Nm := [(6, .own), (25, .any), (26, .any), (27, .any)]
def Yz : Nm := [(6, .any)]
def JfU : An := (.seq .leaf (.seq (.cond .leaf .leaf) (.seq (.block none (.seq .leaf .leaf)) .leaf)))
def JqQ (r0 : Qt) (r1 : Qt) : An := (.seq .leaf (.seq .leaf (.seq (.seq .leaf (.block none (.sum Jch Jau r0))) (.seq .leaf (.seq (.seq .leaf (.block none (.sum XL Jau r1))) (.seq .leaf .leaf))))))
abbrev JqR := Bool -> Bool -> List PV -> Int -> Bool -> Bool -> List PV -> Int -> Int -> OR
def VO (f : Nat) (rc : JqR) (k0 : Bool -> Bool -> List PV -> Int -> OR) (v0 v1 : Bool) (v2 : List PV) (v3 : Int) (v4 v5 : Bool) (v6 : List PV) (v7 v8 : Int) : OR := bif decide (v8 < v7) then bif decide (0 <= v8) && decide (v8 < zi v6.length) && PV.isRo 67 (v6.getD v8.toNat PV.top) && true then bif decide (IntKind.i64.wrap (v3 + zi (v6.getD v8.toNat PV.top).els.length) < 0) then none else rc v0 v1 v2 (IntKind.i64.wrap (v3 + zi (v6.getD v8.toNat PV.top).els.length)) v4 v5 v6 v7 (IntKind.i64.wrap (v8 + 1)) else none else k0 v0 v1 v2 v3
def ZS (f : Nat) (k0 : Bool -> Bool -> List PV -> Int -> OR) : Nat -> JqR
 | 0 => fun _ _ _ _ _ _ _ _ _ => none
 | n + 1 => VO f (ZS f k0 n) k0
def Gm (k : Kont) := fun x0 x1 x2 x3 => k (Ex.exit 0) (Ji JjA Jau [.ro 47 x0 x1 x2, .sc (.int .i64 x3)] [])
def JjB (f : Nat) (k : Kont) (n : Nat) (v0 v1 : Bool) (v2 : List PV) (v3 : Int) (v4 v5 : Bool) (v6 : List PV) (v7 v8 : Int) : OR := Jx tau 0 Jch (fun s k => ev tau JrO 0 0 Jjz (Joz ) s k) n (Ji Jch Jau [.ro 47 v0 v1 v2, .sc (.int .i64 v3), .ro 47 v4 v5 v6, .sc (.int .i64 v7), .sc (.int .i64 v8)] []) (JG tau 0 JjA k)
theorem JvZ (f : Nat) (k : Kont) (n : Nat) : JjB f k (n + 1) = VO f (JjB f k n) (Gm k) := by kernel_rfl
theorem Jlb (f : Nat) (k : Kont) : ∀ n, JjB f k n = ZS f (Gm k) n
 | 0 => rfl
 | n + 1 => (JvZ f k n).trans (congrArg (fun r => VO f r (Gm k)) (Jlb f k n))
def Jav (f : Nat) : List PV -> List (Nat × Ent) -> Kont -> OR
 | [.ro 47 v0 v1 v2, .sc (.int .i64 v3), .ro 47 v4 v5 v6, .sc (.int .i64 v7),
 .sc (.int .i64 v8)], [], k => ZS f (Gm k) f v0 v1 v2 v3 v4 v5 v6 v7 v8
 | _, _, _ => none
theorem JzB (f : Nat) : Jf Jjz Joz = [] := by kernel_rfl
theorem JzC (f : Nat) : (Item.l Jjz Jch Jau (Jav f)).Ok tau Tryz.prog 0 := Jt Jn Jjy Jo (x := Joz) (nm2 := JjA) (Jl _ _ (by rw [JzB f]; intro q hq; cases hq)) fun vs hp k res hr => by
 unfold Jav at hr
 split at hr
 · rw [← Jlb f] at hr; exact ⟨f, 0, hr⟩
 · cases hr
def VP (f : Nat) (rc : Nat -> Bool -> Bool -> List PV -> Int -> Int -> Bool -> List PV -> OR) (k0 : Nat -> Bool -> List PV -> OR) (v0 : Nat) (v1 v2 : Bool) (v3 : List PV) (v4 v5 : Int) (v6 : Bool) (v7 : List PV) : OR := bif decide (v5 < v4) then bif decide (0 <= v5) && decide (v5 < zi v3.length) && PV.isRo 67 (v3.getD v5.toNat PV.top) && true then bif Je (v0 + (v3.getD v5.toNat PV.top).els.length) 16 && true then rc (v0 + (v3.getD v5.toNat PV.top).els.length) v1 v2 v3 v4 (IntKind.i64.wrap (v5 + 1)) (v6 && (v3.getD v5.toNat PV.top).els.isEmpty) (List.take v0 v7 ++ (v3.getD v5.toNat PV.top).els) else none else none else k0 v0 v6 v7
def Xo (f : Nat) (k0 : Nat -> Bool -> List PV -> OR) : Nat -> Nat -> Bool -> Bool -> List PV -> Int -> Int -> Bool -> List PV -> OR
 | 0, _, _, _, _, _, _, _, _ => none
 | n + 1, v0, v1, v2, v3, v4, v5, v6, v7 => VP f (Xo f k0 n) k0 v0 v1 v2 v3 v4 v5 v6 v7
theorem Jv0 (f : Nat) (k : Kont) (n v0 : Nat) (v1 v2 : Bool) (v3 : List PV) (v4 v5 : Int) (v6 : Bool) (v7 : List PV) : Jx tau 0 XL (fun s k => ev tau JrO 0 0 Jc2 (JfU ) s k) (n + 1) (Ji XL Jau [.ow 67 592 [] 0 v0 none, .ro 47 v1 v2 v3, .sc (.int .i64 v4), .sc (.int .i64 v5)] [(592, .vec false 67 v6 v7)]) (JG tau 0 Yz k) = VP f (fun v0 v1 v2 v3 v4 v5 v6 v7 => Jx tau 0 XL (fun s k => ev tau JrO 0 0 Jc2 (JfU ) s k) n (Ji XL Jau [.ow 67 592 [] 0 v0 none, .ro 47 v1 v2 v3, .sc (.int .i64 v4), .sc (.int .i64 v5)] [(592, .vec false 67 v6 v7)]) (JG tau 0 Yz k)) (fun x0 x1 x2 => k (Ex.exit 2) (Ji Yz Jau [.ow 67 592 [] 0 x0 none] [(592, .vec false 67 x1 x2)])) v0 v1 v2 v3 v4 v5 v6 v7 := by kernel_rfl
theorem Jlc (f : Nat) (k : Kont) : ∀ (n v0 : Nat) (v1 v2 : Bool) (v3 : List PV) (v4 v5 : Int) (v6 : Bool) (v7 : List PV), Jx tau 0 XL (fun s k => ev tau JrO 0 0 Jc2 (JfU ) s k) n (Ji XL Jau [.ow 67 592 [] 0 v0 none, .ro 47 v1 v2 v3, .sc (.int .i64 v4), .sc (.int .i64 v5)] [(592, .vec false 67 v6 v7)]) (JG tau 0 Yz k) = Xo f (fun x0 x1 x2 => k (Ex.exit 2) (Ji Yz Jau [.ow 67 592 [] 0 x0 none] [(592, .vec false 67 x1 x2)])) n v0 v1 v2 v3 v4 v5 v6 v7 | 0, _, _, _, _, _, _, _, _ => rfl | n + 1, v0, v1, v2, v3, v4, v5, v6, v7 => (Jv0 f k n v0 v1 v2 v3 v4 v5 v6 v7).trans (congrArg (fun r => VP f r (fun x0 x1 x2 => k (Ex.exit 2) (Ji Yz Jau [.ow 67 592 [] 0 x0 none] [(592, .vec false 67 x1 x2)])) v0 v1 v2 v3 v4 v5 v6 v7) (by funext v0 v1 v2 v3 v4 v5 v6 v7; exact Jlc f k n v0 v1 v2 v3 v4 v5 v6 v7))
def Jaw (f : Nat) : List PV -> List (Nat × Ent) -> Kont -> OR
 | [.ow 67 592 [] 0 v0 none, .ro 47 v1 v2 v3, .sc (.int .i64 v4),
 PV.sc
  (Value.int IntKind.i64
   v5)], [(592, .vec false 67 v6 v7)], k => Xo f (fun x0 x1 x2 => k (Ex.exit 2) (Ji Yz Jau [.ow 67 592 [] 0 x0 none] [(592, .vec false 67 x1 x2)])) f v0 v1 v2 v3 v4 v5 v6 v7
 | _, _, _ => none
theorem JzD (f : Nat) : Jf Jc2 JfU = [] := by kernel_rfl
theorem JzE (f : Nat) : (Item.l Jc2 XL Jau (Jaw f)).Ok tau Tryz.prog 0 := Jt Jn Jjy Jo (x := JfU) (nm2 := Yz) (Jl _ _ (by rw [JzD f]; intro q hq; cases hq)) fun vs hp k res hr => by
 unfold Jaw at hr
 split at hr
 · exact ⟨f, 0, (Jlc f _ f _ _ _ _ _ _ _ _ ).trans hr⟩
 · cases hr
def JNa (f : Nat) (y0 y1 : Bool) (slices : List PV) (k : KR) : OR := ZS f (fun x0_0 x1_0 x2_0 JP => bif decide (JP < 0) then none else bif decide (IntKind.i64.wrap (JP - IntKind.i64.wrap (zi 0 - zi 0)) > 0) then bif decide (0 <= IntKind.i64.wrap (JP - IntKind.i64.wrap (zi 0 - zi 0))) && Je (IntKind.i64.wrap (JP - IntKind.i64.wrap (zi 0 - zi 0))).toNat 16 && true then Xo f (fun x0_1 x1_1 x2_1 => k (Res.mk (.ow 67 16 [] 0 x0_1 none) [] [.vec false 67 x1_1 x2_1])) f (0) x0_0 x1_0 x2_0 (zi x2_0.length) (0) (IntKind.i64.wrap (JP - IntKind.i64.wrap (zi 0 - zi 0)) == 0) (List.replicate (IntKind.i64.wrap (JP - IntKind.i64.wrap (zi 0 - zi 0))).toNat (PV.st 67 [.sc (.int .i64 0), .sc (.int .i64 0)])) else none else Xo f (fun x0_2 x1_2 x2_2 => k (Res.mk (.ow 67 16 [] 0 x0_2 none) [] [.vec false 67 x1_2 x2_2])) f (0) x0_0 x1_0 x2_0 (zi x2_0.length) (0) true ([])) f y0 y1 slices (0) y0 y1 slices (zi slices.length) (0)
theorem JQ1 (f : Nat) (y0 y1 : Bool) (slices : List PV) (k : KR) : JI tau JrO Tryz.f138 (Tryz.f138.body.get!) (JqQ (Jav f) (Jaw f)) [] 0 [.ro 47 y0 y1 slices] [] k = JNa f y0 y1 slices k := by kernel_rfl
theorem JNb (f : Nat) : Jf (Tryz.f138.body.get!) (JqQ (Jav f) (Jaw f)) = [.l Jjz Jch Jau (Jav f), .l Jc2 XL Jau (Jaw f)] := by kernel_rfl
theorem JNc (f : Nat) : ∀ q ∈ Jf (Tryz.f138.body.get!) (JqQ (Jav f) (Jaw f)), q.Ok tau Tryz.prog 0 := by rw [JNb f]; exact JJ (JzC f) (JJ (JzE f) (fun _ h => nomatch h))
theorem JCA : Tryz.prog.funcs[138]? = some Tryz.f138 := by kernel_rfl
theorem JCB : Tryz.f138.body = some (Tryz.f138.body.get!) := by kernel_rfl
theorem JCC : Enters Tryz.prog 138 := enters_of JCA (by kernel_rfl) JCB
theorem JfV {l : List PV} (h : l.all (PV.isRo 67) = true) {i : Nat} (hi : i < l.length) : (l.getD i .top).isRo 67 = true := by
 rw [List.getD_eq_getElem?_getD, List.getElem?_eq_getElem hi]
 exact List.all_eq_true.1 h _ (List.getElem_mem hi)
theorem Jv1 (f : Nat) (k0 : Bool -> Bool -> List PV -> Int -> OR) (a b : Bool) (c : List PV) (nl fl : Bool) (l : List PV) (hl : l.all (PV.isRo 67) = true) (hs : (JH l).length <= 8000000000000) (hn : l.length <= 8000000000000) : ∀ (d i n : Nat), i + d = l.length -> d < n ->
  ZS f k0 n a b c ((JH (l.take i)).length : Int) nl fl l (l.length : Int) (i : Int) = k0 a b c ((JH l).length : Int)
 | 0, i, n + 1, h, hd => by
   obtain rfl : i = l.length := by omega
   simp only [ZS, VO]
   exact (Jd (by simp)).trans (by rw [List.take_length])
 | d + 1, i, n + 1, h, hd => by
   have hle := XF l (i + 1)
   have hadd : (JH (l.take (i + 1))).length = (JH (l.take i)).length + (l.getD i .top).els.length := by rw [XR l i (by omega), List.length_append]
   have h1 := wI (i := i) (by omega)
   have h2 : IntKind.i64.wrap (((JH (l.take i)).length : Int) + ((l.getD i .top).els.length : Int)) = ((JH (l.take (i + 1))).length : Int) := by rw [wrap_i64 (by omega) (by omega)]; omega
   simp only [ZS, VO, zi, Int.toNat_natCast, h1, h2]
   refine (Ja (by simp <;> omega)).trans ?_
   refine (Ja (by rw [JfV hl (by omega)]; simp; omega)).trans ?_
   refine (Jd (by simp <;> omega)).trans ?_
   exact Jv1 f k0 a b c nl fl l hl hs hn d (i + 1) n (by omega) (by omega)
theorem JoA (f : Nat) (k0 : Nat -> Bool -> List PV -> OR) (nl fl : Bool) (l : List PV) (hl : l.all (PV.isRo 67) = true) (hs : (JH l).length <= 8000000000000) (hn : l.length <= 8000000000000) : ∀ (d i n : Nat) (z : Bool) (v : List PV), i + d = l.length -> d < n -> v.take (JH (l.take i)).length = JH (l.take i) -> (d = 0 -> v = JH l) ->
  Xo f k0 n (JH (l.take i)).length nl fl l (l.length : Int) (i : Int) z v = k0 (JH l).length (z && (JH (l.drop i)).isEmpty) (JH l)
 | 0, i, n + 1, z, v, h, hd, hv, h0 => by
   obtain rfl : i = l.length := by omega
   simp only [Xo, VP]
   refine (Jd (by simp)).trans ?_
   rw [List.take_length, h0 rfl, List.drop_length]; simp
 | d + 1, i, n + 1, z, v, h, hd, hv, h0 => by
   have hle := XF l (i + 1)
   have hadd : (JH (l.take (i + 1))).length = (JH (l.take i)).length + (l.getD i .top).els.length := by rw [XR l i (by omega), List.length_append]
   have h1 := wI (i := i) (by omega)
   simp only [Xo, VP, zi, Int.toNat_natCast, h1, hv]
   refine (Ja (by simp <;> omega)).trans ?_
   refine (Ja (by rw [JfV hl (by omega)]; simp; omega)).trans ?_
   refine (Ja (by simp only [Je, Bool.and_true, decide_eq_true_eq]; omega)).trans ?_
   have := JoA f k0 nl fl l hl hs hn d (i + 1) n (z && (l.getD i .top).els.isEmpty) (JH (l.take (i + 1))) (by omega) (by omega) (List.take_length) (fun hd0 => by rw [show i + 1 = l.length from by omega, List.take_length])
   rw [hadd, XR l i (by omega)] at this
   rw [this, JeP l i (by omega), XQ, Jds, Bool.and_assoc]
def JjC : Jy
 | [.ro 47 nl fl l], [], k => bif l.all (PV.isRo 67) && (decide ((JH l).length <= 8000000000000) && decide (l.length <= 8000000000000)) then k ⟨.ow 67 16 [] 0 (JH l).length none, [], [.vec false 67 (JH l).isEmpty (JH l)]⟩ else none
 | _, _, _ => none
def Jv2 : Sig := { own := [], run := JjC }
theorem JzF (nl fl : Bool) (l : List PV) (k : KR) (hl : l.all (PV.isRo 67) = true) (hs : (JH l).length <= 8000000000000) (hn : l.length <= 8000000000000) :
  JNa (l.length + 1) nl fl l k = k ⟨.ow 67 16 [] 0 (JH l).length none, [], [.vec false 67 (JH l).isEmpty (JH l)]⟩ := by
 have h0 := Jv1 (l.length + 1) (fun x0_0 x1_0 x2_0 JP =>
  bif decide (JP < 0) then
   none
  else bif decide (IntKind.i64.wrap (JP - IntKind.i64.wrap (zi 0 - zi 0)) > 0) then
   bif decide (0 <= IntKind.i64.wrap (JP - IntKind.i64.wrap (zi 0 - zi 0))) && Je (IntKind.i64.wrap (JP - IntKind.i64.wrap (zi 0 - zi 0))).toNat 16 && true then
    Xo (l.length + 1) (fun x0_1 x1_1 x2_1 =>
     k (Res.mk (PV.ow 67 16 [] 0 x0_1 none) []
      [Ent.vec false 67 x1_1
       x2_1])) (l.length + 1) (0) x0_0 x1_0 x2_0 (zi
     x2_0.length) (0) (IntKind.i64.wrap (JP - IntKind.i64.wrap (zi 0 - zi 0)) ==
     0) (List.replicate (IntKind.i64.wrap (JP - IntKind.i64.wrap (zi 0 - zi 0))).toNat (PV.st 67 [.sc (.int .i64 0), .sc (.int .i64 0)]))
   else none
  else Xo (l.length + 1) (fun x0_2 x1_2 x2_2 =>
   k (Res.mk (PV.ow 67 16 [] 0 x0_2 none) [] [Ent.vec false 67 x1_2 x2_2])) (l.length + 1) (0) x0_0 x1_0 x2_0 (zi x2_0.length) (0) true ([])) nl fl l nl fl l hl hs hn l.length 0 (l.length + 1) (by omega) (by omega)
 refine h0.trans ?_
 have hw : IntKind.i64.wrap (((JH l).length : Int) - IntKind.i64.wrap (zi 0 - zi 0)) = ((JH l).length : Int) := by
  have : IntKind.i64.wrap (zi 0 - zi 0) = 0 := by decide
  rw [this, wrap_i64 (by omega) (by omega)]; omega
 simp only [hw]
 refine (Jd (by simp <;> omega)).trans ?_
 cases he : (JH l).isEmpty with
 | true =>
  have he' : JH l = [] := by simpa using he
  refine (Jd (by simp [he'])).trans ?_
  have := JoA (l.length + 1) (fun x0_2 x1_2 x2_2 => k (Res.mk (PV.ow 67 16 [] 0 x0_2 none) [] [Ent.vec false 67 x1_2 x2_2])) nl fl l hl hs hn l.length 0 (l.length + 1) true [] (by omega) (by omega) (by simp) (fun _ => he'.symm)
  refine this.trans ?_
  simp [he']
 | false =>
  have he' : JH l ≠ [] := by simpa using he
  have hpos : 0 < (JH l).length := List.length_pos_iff.2 he'
  have hl0 : l.length ≠ 0 := by
   intro h; rw [List.length_eq_zero_iff] at h; subst h; simp at he'
  refine (Ja (by simp <;> omega)).trans ?_
  refine (Ja (by simp [Je] <;> omega)).trans ?_
  have := JoA (l.length + 1) (fun x0_2 x1_2 x2_2 => k (Res.mk (PV.ow 67 16 [] 0 x0_2 none) [] [Ent.vec false 67 x1_2 x2_2])) nl fl l hl hs hn l.length 0 (l.length + 1) (((JH l).length : Int) == 0) (List.replicate (((JH l).length : Int)).toNat (PV.st 67 [.sc (.int .i64 0), .sc (.int .i64 0)])) (by omega) (by omega) (by simp) (fun h => absurd h hl0)
  refine this.trans ?_
  have hz : (((JH l).length : Int) == 0) = false := by simp [he']
  rw [hz]; rfl
theorem Jv3 : Jc tau Tryz.prog 138 Jv2 := JhG Jn Jjy Jo JCA JCB (fun n => JqQ (Jav n) (Jaw n)) [] 0 [] JjC (fun n => JNc n) fun xs es k res hr => by
 unfold JjC at hr
 split at hr
 · rename_i nl fl l
   obtain ⟨hc, hr⟩ := Ju hr
   simp only [Bool.and_eq_true, decide_eq_true_eq] at hc
   refine ⟨rfl, l.length + 1, 0, (JQ1 _ _ _ _ _).trans ?_⟩
   rw [JzF _ _ _ _ hc.1 hc.2.1 hc.2.2]; exact hr
 · cases hr
def F93 : Fns := Jr 138 Jv2 (Jr 137 JCx (Jr 136 JvS (Jr 89 s89 (F0))))
theorem JGI : Jp tau Tryz.prog F93 := ((((Js).add JGw JGv).add JvT JCv).add JGD JMT).add Jv3 JCC
def JGJ : An := (.seq .leaf (.seq .leaf (.seq (.block none (.seq .leaf (.cond (.seq .leaf .leaf) (.seq .leaf (.cond (.seq .leaf .leaf) (.seq .leaf (.cond (.seq .leaf .leaf) .leaf))))))) (.seq .leaf .leaf))))
abbrev Jc3 (l_z : Bool) (l_f : Bool) (l : List PV) (a_D : Int) (a_U : Int) := (JH [PV.ro 67 l_z (l_z || l_f && false) (List.take (Gu (PH.mk l (AV.mk a_D a_U))).toNat l), PV.ro 67 false false [PV.st 67 [PV.sc (.int .i64 a_D), PV.sc (.int .i64 a_U)]], PV.ro 67 l_z (l_z || l_f && true) (List.drop (Gu (PH.mk l (AV.mk a_D a_U))).toNat (List.take l.length l))])
def g93 (f : Nat) (l_z l_f : Bool) (l : List PV) (a_D a_U : Int) (k : KR) : OR := bif JcP l then bif !inA [a_D, 2, a_U, 7] then bif l_z then k (Res.mk (.tup [.ro 67 true true [], .sc (.int .i64 1)]) [] []) else bif Je (0 + l.length) 16 && true then k (Res.mk (.tup [.ro 67 false false (List.take (0 + l.length) l), .sc (.int .i64 1)]) [] []) else none else bif JrM (PH.mk l (AV.mk a_D a_U)) then bif l_z then k (Res.mk (.tup [.ro 67 true true [], .sc (.int .i64 12)]) [] []) else bif Je (0 + l.length) 16 && true then k (Res.mk (.tup [.ro 67 false false (List.take (0 + l.length) l), .sc (.int .i64 12)]) [] []) else none else bif decide (zi l.length >= 8) then bif l_z then k (Res.mk (.tup [.ro 67 true true [], .sc (.int .i64 4)]) [] []) else bif Je (0 + l.length) 16 && true then k (Res.mk (.tup [.ro 67 false false (List.take (0 + l.length) l), .sc (.int .i64 4)]) [] []) else none else bif decide (0 <= Gu (PH.mk l (AV.mk a_D a_U))) && true && decide ((Gu (PH.mk l (AV.mk a_D a_U))).toNat <= l.length) && true then bif decide (0 <= Gu (PH.mk l (AV.mk a_D a_U))) && true && decide ((Gu (PH.mk l (AV.mk a_D a_U))).toNat <= l.length) && decide (l.length <= l.length) && true then bif decide ((Jc3 l_z l_f l a_D a_U).length <= 8000000000000) && true then k (Res.mk (.tup [.ro 67 (Ent.vec false 67 (Jc3 l_z l_f l a_D a_U).isEmpty (Jc3 l_z l_f l a_D a_U)).nil false (List.take (Jc3 l_z l_f l a_D a_U).length (Jc3 l_z l_f l a_D a_U)), .sc (.int .i64 0)]) [] []) else none else none else none else none
theorem e93 (f : Nat) (l_z l_f : Bool) (l : List PV) (a_D a_U : Int) (k : KR) : JI tau F93 Tryz.f93 (Tryz.f93.body.get!) JGJ [.ro, .ro] 0 [.ro 67 l_z l_f l, .st 67 [.sc (.int .i64 a_D), .sc (.int .i64 a_U)]] [] k = g93 f l_z l_f l a_D a_U k := by kernel_rfl
theorem JQ2 (f : Nat) : ∀ q ∈ Jf (Tryz.f93.body.get!) JGJ, q.Ok tau Tryz.prog 0 := Jv (by kernel_rfl)
theorem JNd : Tryz.prog.funcs[93]? = some Tryz.f93 := by kernel_rfl
theorem JNe : Tryz.f93.body = some (Tryz.f93.body.get!) := by kernel_rfl
theorem JQ3 : Enters Tryz.prog 93 := enters_of JNd (by kernel_rfl) JNe
def Jv4 : Jy
 | [.ro 67 l_z l_f l, .st 67 [.sc (.int .i64 a_D), .sc (.int .i64 a_U)]], [], k => g93 0 l_z l_f l a_D a_U k
 | _, _, _ => none
def s93 : Sig := { own := [], run := Jv4 }
theorem JQ4 : Jc tau Tryz.prog 93 s93 := JN Jn JGI Jo JNd JNe JGJ [.ro, .ro] 0 [] Jv4 (JQ2 0) fun xs es k res hr => by
 unfold Jv4 at hr
 split at hr
 · exact ⟨rfl, 0, (e93 0 _ _ _ _ _  _).trans hr⟩
 · cases hr
def F94 : Fns := Jr 138 Jv2 (Jr 136 JvS (Jr 89 s89 (F0)))
theorem JGK : Jp tau Tryz.prog F94 := (((Js).add JGw JGv).add JvT JCv).add Jv3 JCC
def JGL : An := (.seq .leaf (.seq .leaf (.seq (.seq .leaf (.cond (.seq .leaf .leaf) .leaf)) (.seq .leaf .leaf))))
abbrev Jc4 (l_z : Bool) (l_f : Bool) (l : List PV) (a_D : Int) (a_U : Int) := (JH [PV.ro 67 l_z (l_z || l_f && false) (List.take (Gu (PH.mk l (AV.mk a_D a_U))).toNat l), PV.ro 67 l_z (l_z || l_f && true) (List.drop (IntKind.i64.wrap (Gu (PH.mk l (AV.mk a_D a_U)) + 1)).toNat (List.take l.length l))])
def g94 (f : Nat) (l_z l_f : Bool) (l : List PV) (a_D a_U : Int) (k : KR) : OR := bif JcP l then bif !JrM (PH.mk l (AV.mk a_D a_U)) then bif l_z then k (Res.mk (.tup [.ro 67 true true [], .sc (.int .i64 2)]) [] []) else bif Je (0 + l.length) 16 && true then k (Res.mk (.tup [.ro 67 false false (List.take (0 + l.length) l), .sc (.int .i64 2)]) [] []) else none else bif decide (0 <= Gu (PH.mk l (AV.mk a_D a_U))) && true && decide ((Gu (PH.mk l (AV.mk a_D a_U))).toNat <= l.length) && true then bif decide (0 <= IntKind.i64.wrap (Gu (PH.mk l (AV.mk a_D a_U)) + 1)) && true && decide ((IntKind.i64.wrap (Gu (PH.mk l (AV.mk a_D a_U)) + 1)).toNat <= l.length) && decide (l.length <= l.length) && true then bif decide ((Jc4 l_z l_f l a_D a_U).length <= 8000000000000) && true then k (Res.mk (.tup [.ro 67 (Ent.vec false 67 (Jc4 l_z l_f l a_D a_U).isEmpty (Jc4 l_z l_f l a_D a_U)).nil false (List.take (Jc4 l_z l_f l a_D a_U).length (Jc4 l_z l_f l a_D a_U)), .sc (.int .i64 0)]) [] []) else none else none else none else none
theorem e94 (f : Nat) (l_z l_f : Bool) (l : List PV) (a_D a_U : Int) (k : KR) : JI tau F94 Tryz.f94 (Tryz.f94.body.get!) JGL [.ro, .ro] 0 [.ro 67 l_z l_f l, .st 67 [.sc (.int .i64 a_D), .sc (.int .i64 a_U)]] [] k = g94 f l_z l_f l a_D a_U k := by kernel_rfl
theorem JQ5 (f : Nat) : ∀ q ∈ Jf (Tryz.f94.body.get!) JGL, q.Ok tau Tryz.prog 0 := Jv (by kernel_rfl)
theorem JNf : Tryz.prog.funcs[94]? = some Tryz.f94 := by kernel_rfl
theorem JNg : Tryz.f94.body = some (Tryz.f94.body.get!) := by kernel_rfl
theorem JQ6 : Enters Tryz.prog 94 := enters_of JNf (by kernel_rfl) JNg
def Jv5 : Jy
 | [.ro 67 l_z l_f l, .st 67 [.sc (.int .i64 a_D), .sc (.int .i64 a_U)]], [], k => g94 0 l_z l_f l a_D a_U k
 | _, _, _ => none
def s94 : Sig := { own := [], run := Jv5 }
theorem JQ7 : Jc tau Tryz.prog 94 s94 := JN Jn JGK Jo JNf JNg JGL [.ro, .ro] 0 [] Jv5 (JQ5 0) fun xs es k res hr => by
 unfold Jv5 at hr
 split at hr
 · exact ⟨rfl, 0, (e94 0 _ _ _ _ _  _).trans hr⟩
 · cases hr
def zOk : Bool -> List PV -> Bool := hid fun z l => !z || l.isEmpty
theorem Jd7 {z : Bool} {l : List PV} : zOk z l = true ↔ (z = true -> l = []) := by
 rw [zOk, hid_eq]
 cases z <;> simp
theorem JfW {l : List PV} (h : pOk l = true) : JcP l = true := by
 obtain ⟨h1, _, h3⟩ := QJ.1 h
 exact YZ.2 ⟨h1, by omega⟩
theorem JqS {z : Bool} {l : List PV} (hz : z = true -> l = []) (hl : l.length <= 1000) (e : Int) (k : KR) : (bif z then k ⟨.tup [.ro 67 true true [], .sc (.int .i64 e)], [], []⟩ else bif Je (0 + l.length) 16 && true then k ⟨.tup [.ro 67 false false (List.take (0 + l.length) l), .sc (.int .i64 e)], [], []⟩ else none) = k ⟨.tup [.ro 67 z z l, .sc (.int .i64 e)], [], []⟩ := by
 cases z with
 | true => rw [hz rfl]; rfl
 | false =>
  refine (Jd rfl).trans ((Ja (by simp [Je]; omega)).trans ?_)
  rw [List.take_of_length_le (by omega)]
def JoB : Jy
 | [.ro 67 z f l, .st 67 [.sc (.int .i64 d), .sc (.int .i64 u)]], [], k => bif pOk l then k ⟨.sc (.bool (hasP ⟨l, ⟨d, u⟩⟩)), [], []⟩ else none
 | _, _, _ => none
def JNh : Sig := { own := [], run := JoB }
theorem JNi : Jc tau Tryz.prog 50 JNh := JQZ.of fun xs es k res hr => by
 change JoB xs es k = some res at hr
 unfold JoB at hr
 split at hr
 · rename_i z f l d u
   obtain ⟨hc, hr⟩ := Ju hr
   refine Eq.trans ?_ hr
   show g50 0 z f l d u k = _
   unfold g50
   rw [JvU]
   exact Ja (JfW hc)
 · cases hr
def JoC : Jy
 | [.ro 67 z f l, .st 67 [.sc (.int .i64 d), .sc (.int .i64 u)]], [], k => bif pOk l && zOk z l then k ⟨.tup [.ro 67 (adF ⟨l, ⟨d, u⟩⟩ && z) (adF ⟨l, ⟨d, u⟩⟩ && z) (adL ⟨l, ⟨d, u⟩⟩), .sc (.int .i64 (adE ⟨l, ⟨d, u⟩⟩))], [], []⟩ else none
 | _, _, _ => none
def JNj : Sig := { own := [], run := JoC }
theorem JGM (z f : Bool) (l : List PV) (d u : Int) (h : pOk l = true) (hz : z = true -> l = []) (k : KR) : g93 0 z f l d u k = k ⟨.tup [.ro 67 (adF ⟨l, ⟨d, u⟩⟩ && z) (adF ⟨l, ⟨d, u⟩⟩ && z) (adL ⟨l, ⟨d, u⟩⟩), .sc (.int .i64 (adE ⟨l, ⟨d, u⟩⟩))], [], []⟩ := by
 obtain ⟨h1, h2, h3⟩ := QJ.1 h
 unfold g93 Jc3
 rw [Jju, Jvh, JcS, Joa]
 simp only [Y4 h2]
 unfold Jb7
 refine (Ja (JfW h)).trans ?_
 cases hu : inA [d, 2, u, 7] with
 | false => exact (Ja rfl).trans (JqS hz (by omega) 1 k)
 | true =>
  refine (Jd rfl).trans ?_
  cases hh : hasL l ⟨d, u⟩ with
  | true => exact (Ja rfl).trans (JqS hz (by omega) 12 k)
  | false =>
   refine (Jd rfl).trans ?_
   by_cases h8 : l.length >= 8
   · refine (Ja (by simp [zi]; omega)).trans ((JqS hz (by omega) 4 k).trans ?_)
     simp only [decide_eq_true h8, Bool.not_true, cond_false, cond_true]; rfl
   · refine (Jd (by simp [zi]; omega)).trans ?_
     simp only [decide_eq_false h8, Bool.not_true, cond_false]
     have hc := Jb6 l ⟨d, u⟩
     rw [Jjt]
     simp only [Int.toNat_natCast]
     have e0 : List.take l.length l = l := List.take_length
     have hfl : ∀ (a b c e x y : Bool), JH [.ro 67 a b (List.take (Wa l ⟨d, u⟩) l), .ro 67 x y [.st 67 [.sc (.int .i64 d), .sc (.int .i64 u)]], .ro 67 c e (List.drop (Wa l ⟨d, u⟩) l)] = Jak l ⟨d, u⟩ := fun _ _ _ _ _ _ => by
      simp only [XQ, JaX, PV.els, List.append_nil]; rfl
     have hil := VJ l ⟨d, u⟩
     have hne : (Jak l ⟨d, u⟩).isEmpty = false := by
      cases hx : Jak l ⟨d, u⟩ with
      | nil => rw [hx] at hil; simp at hil
      | cons _ _ => rfl
     simp only [e0, hfl, List.take_length, hne, Ent.nil]
     exact (Ja (by simp; omega)).trans ((Ja (by simp; omega)).trans (Ja (by simp; omega)))
theorem JNk : Jc tau Tryz.prog 93 JNj := JQ4.of fun xs es k res hr => by
 change JoC xs es k = some res at hr
 unfold JoC at hr
 split at hr
 · rename_i z f l d u
   obtain ⟨hc, hr⟩ := Ju hr
   rw [Bool.and_eq_true, Jd7] at hc
   exact (JGM z f l d u hc.1 hc.2 k).trans hr
 · cases hr
def JoD : Jy
 | [.ro 67 z f l, .st 67 [.sc (.int .i64 d), .sc (.int .i64 u)]], [], k => bif pOk l && zOk z l then k ⟨.tup [.ro 67 (rmZ ⟨l, ⟨d, u⟩⟩ z) (rmF ⟨l, ⟨d, u⟩⟩ z) (rmL ⟨l, ⟨d, u⟩⟩), .sc (.int .i64 (rmE ⟨l, ⟨d, u⟩⟩))], [], []⟩ else none
 | _, _, _ => none
def JNl : Sig := { own := [], run := JoD }
theorem JGN (z f : Bool) (l : List PV) (d u : Int) (h : pOk l = true) (hz : z = true -> l = []) (k : KR) : g94 0 z f l d u k = k ⟨.tup [.ro 67 (rmZ ⟨l, ⟨d, u⟩⟩ z) (rmF ⟨l, ⟨d, u⟩⟩ z) (rmL ⟨l, ⟨d, u⟩⟩), .sc (.int .i64 (rmE ⟨l, ⟨d, u⟩⟩))], [], []⟩ := by
 obtain ⟨h1, h2, h3⟩ := QJ.1 h
 unfold g94 Jc4
 rw [Jju, Jvi, JcT, Job, Jvj]
 simp only [Y4 h2]
 unfold Jzd
 refine (Ja (JfW h)).trans ?_
 cases hh : hasL l ⟨d, u⟩ with
 | false => exact (Ja rfl).trans (JqS hz (by omega) 2 k)
 | true =>
  refine (Jd rfl).trans ?_
  have hf : Jat l ⟨d, u⟩ = true := by rw [Y4 h2]; exact hh
  have hc := Jb6 l ⟨d, u⟩
  have hlt : Wa l ⟨d, u⟩ < l.length := by
   unfold Jat at hf
   rw [Bool.and_eq_true, Nat.blt_eq] at hf
   exact hf.1
  rw [Jjt]
  have w1 : IntKind.i64.wrap ((Wa l ⟨d, u⟩ : Int) + 1) = ((Wa l ⟨d, u⟩ + 1 : Nat) : Int) := by rw [wrap_i64 (by omega) (by omega)]; omega
  simp only [w1, Int.toNat_natCast]
  have e0 : List.take l.length l = l := List.take_length
  have hfl : ∀ (a b c e : Bool), JH [.ro 67 a b (List.take (Wa l ⟨d, u⟩) l), .ro 67 c e (List.drop (Wa l ⟨d, u⟩ + 1) l)] = rmA l ⟨d, u⟩ := fun _ _ _ _ => by
   simp only [XQ, JaX, PV.els, List.append_nil]; exact JqO h2 hf
  have hrl : (rmA l ⟨d, u⟩).length <= 8 := by
   have := List.length_filter_le (fun p => !eqA (av p) ⟨d, u⟩) l
   unfold rmA; omega
  simp only [e0, hfl, List.take_length, Ent.nil]
  exact (Ja (by simp; omega)).trans ((Ja (by simp; omega)).trans (Ja (by simp; omega)))
theorem JNm : Jc tau Tryz.prog 94 JNl := JQ7.of fun xs es k res hr => by
 change JoD xs es k = some res at hr
 unfold JoD at hr
 split at hr
 · rename_i z f l d u
   obtain ⟨hc, hr⟩ := Ju hr
   rw [Bool.and_eq_true, Jd7] at hc
   exact (JGN z f l d u hc.1 hc.2 k).trans hr
 · cases hr
def JNn : Fns := F0
theorem JzG : Jp tau Tryz.prog JNn := Js
def Jv6 : An := (.seq .leaf (.seq (.seq .leaf (.cond (.seq .leaf .leaf) .leaf)) (.seq .leaf .leaf)))
def JNo (f : Nat) (y0 c_N : Int) (c_S : ByteArray) (k : KR) : OR := bif y0 == 2 then k (Res.mk (.sc (.int .i64 (zi c_S.size))) [] []) else k (Res.mk (.sc (.int .i64 c_N)) [] [])
theorem JQ8 (f : Nat) (y0 c_N : Int) (c_S : ByteArray) (k : KR) : JI tau JNn Tryz.f135 (Tryz.f135.body.get!) Jv6 [.ro] 0 [.st 53 [.sc (.int .i64 y0), .sc (.int .i64 c_N), .sc (.string c_S)]] [] k = JNo f y0 c_N c_S k := by kernel_rfl
theorem JNp (f : Nat) : ∀ q ∈ Jf (Tryz.f135.body.get!) Jv6, q.Ok tau Tryz.prog 0 := Jv (by kernel_rfl)
theorem JCD : Tryz.prog.funcs[135]? = some Tryz.f135 := by kernel_rfl
theorem JCE : Tryz.f135.body = some (Tryz.f135.body.get!) := by kernel_rfl
theorem JCF : Enters Tryz.prog 135 := enters_of JCD (by kernel_rfl) JCE
def JoE : Jy
 | [.st 53 [.sc (.int .i64 y0), .sc (.int .i64 c_N), .sc (.string c_S)]], [], k => JNo 0 y0 c_N c_S k
 | _, _, _ => none
def JGO : Sig := { own := [], run := JoE }
theorem JCG : Jc tau Tryz.prog 135 JGO := JN Jn JzG Jo JCD JCE Jv6 [.ro] 0 [] JoE (JNp 0) fun xs es k res hr => by
 unfold JoE at hr
 split at hr
 · exact ⟨rfl, 0, (JQ8 0 _ _ _  _).trans hr⟩
 · cases hr
def Jgm : Nat := 39
def Jv7 : Fns := Jr 135 JGO (F0)
theorem JqT : Jp tau Tryz.prog Jv7 := (Js).add JCG JCF
def Jc5 : Code := Qd (Tryz.f134.body.get!) [1, 1, 0, 1, 0, 0]
def XM : Nm := [(3, .any), (7, .any), (8, .any), (9, .any)]
def YA : Nm := [(3, .any)]
def JfX : An := (.seq .leaf (.seq (.cond .leaf .leaf) (.seq (.block none (.seq .leaf (.seq .leaf (.seq .leaf (.block none (.seq .leaf (.cond .leaf (.seq .leaf (.cond .leaf (.seq .leaf (.cond .leaf .leaf))))))))))) .leaf)))
def JqU (r0 : Qt) : An := (.seq .leaf (.seq .leaf (.seq (.seq .leaf (.block none (.sum XM Jgm r0))) (.seq .leaf .leaf))))
abbrev Wz (v4 : List PV) (v6 : Int) := (fOf FloatKind.f64 (zi (PV.child (0 + 1 + 1) (v4.getD v6.toNat PV.top)).str.size))
abbrev WA (v4 : List PV) (v6 : Int) := (fOf FloatKind.f64 (PV.child (0 + 1) (v4.getD v6.toNat PV.top)).int)
abbrev JE (v0 : Nat) (v1 : Nat) := (PV.sc (Value.complex FloatKind.f64 v0 v1))
abbrev WB (v4 : List PV) (v6 : Int) := (PV.sc (Value.complex FloatKind.f64 (Wz v4 v6) (Wz v4 v6)))
abbrev WC (v4 : List PV) (v6 : Int) := (PV.sc (Value.complex FloatKind.f64 (WA v4 v6) (WA v4 v6)))
abbrev WD (v4 : List PV) (v6 : Int) := (PV.sc (Value.complex FloatKind.f64 0 (Wz v4 v6)))
abbrev WE (v4 : List PV) (v6 : Int) := (PV.sc (Value.complex FloatKind.f64 (Wz v4 v6) 0))
abbrev WF (v4 : List PV) (v6 : Int) := (PV.sc (Value.complex FloatKind.f64 0 (WA v4 v6)))
abbrev WG (v4 : List PV) (v6 : Int) := (PV.sc (Value.complex FloatKind.f64 (WA v4 v6) 0))
def VQ (f : Nat) (rc : Nat -> Nat -> Bool -> Bool -> List PV -> Int -> Int -> OR) (k0 : Nat -> Nat -> OR) (v0 v1 : Nat) (v2 v3 : Bool) (v4 : List PV) (v5 v6 : Int) : OR := bif decide (v6 < v5) then bif decide (0 <= v6) && decide (v6 < zi v4.length) && (PV.isSt 53 #[Field.mk "Kind" 3 0 false "" "" 0, Field.mk "N" 3 1 false "" "" 8, Field.mk "S" 9 2 false "" "" 16].size (v4.getD v6.toNat PV.top) && (PV.isInt IntKind.i64 (PV.child 0 (v4.getD v6.toNat PV.top)) && (PV.isInt IntKind.i64 (PV.child (0 + 1) (v4.getD v6.toNat PV.top)) && ((PV.child (0 + 1 + 1) (v4.getD v6.toNat PV.top)).isStr && true)))) && true then bif (PV.child 0 (v4.getD v6.toNat PV.top)).int == 2 then bif (PV.child 0 (v4.getD v6.toNat PV.top)).int == 1 then bif (FloatKind.f64.format.add (JE v0 v1).cre (WB v4 v6).cre).isSome && (FloatKind.f64.format.add (JE v0 v1).cim (WB v4 v6).cim).isSome && true then rc ((FloatKind.f64.format.add (JE v0 v1).cre (WB v4 v6).cre).getD 0) ((FloatKind.f64.format.add (JE v0 v1).cim (WB v4 v6).cim).getD 0) v2 v3 v4 v5 (IntKind.i64.wrap (v6 + 1)) else none else bif (PV.child 0 (v4.getD v6.toNat PV.top)).int == 2 then bif (FloatKind.f64.format.add (JE v0 v1).cre (WD v4 v6).cre).isSome && (FloatKind.f64.format.add (JE v0 v1).cim (WD v4 v6).cim).isSome && true then rc ((FloatKind.f64.format.add (JE v0 v1).cre (WD v4 v6).cre).getD 0) ((FloatKind.f64.format.add (JE v0 v1).cim (WD v4 v6).cim).getD 0) v2 v3 v4 v5 (IntKind.i64.wrap (v6 + 1)) else none else bif (PV.child 0 (v4.getD v6.toNat PV.top)).int == 3 then bif (FloatKind.f64.format.add (JE v0 v1).cre (WE v4 v6).cre).isSome && (FloatKind.f64.format.add (JE v0 v1).cim (WE v4 v6).cim).isSome && true then rc ((FloatKind.f64.format.add (JE v0 v1).cre (WE v4 v6).cre).getD 0) ((FloatKind.f64.format.add (JE v0 v1).cim (WE v4 v6).cim).getD 0) v2 v3 v4 v5 (IntKind.i64.wrap (v6 + 1)) else none else rc v0 v1 v2 v3 v4 v5 (IntKind.i64.wrap (v6 + 1)) else bif (PV.child 0 (v4.getD v6.toNat PV.top)).int == 1 then bif (FloatKind.f64.format.add (JE v0 v1).cre (WC v4 v6).cre).isSome && (FloatKind.f64.format.add (JE v0 v1).cim (WC v4 v6).cim).isSome && true then rc ((FloatKind.f64.format.add (JE v0 v1).cre (WC v4 v6).cre).getD 0) ((FloatKind.f64.format.add (JE v0 v1).cim (WC v4 v6).cim).getD 0) v2 v3 v4 v5 (IntKind.i64.wrap (v6 + 1)) else none else bif (PV.child 0 (v4.getD v6.toNat PV.top)).int == 2 then bif (FloatKind.f64.format.add (JE v0 v1).cre (WF v4 v6).cre).isSome && (FloatKind.f64.format.add (JE v0 v1).cim (WF v4 v6).cim).isSome && true then rc ((FloatKind.f64.format.add (JE v0 v1).cre (WF v4 v6).cre).getD 0) ((FloatKind.f64.format.add (JE v0 v1).cim (WF v4 v6).cim).getD 0) v2 v3 v4 v5 (IntKind.i64.wrap (v6 + 1)) else none else bif (PV.child 0 (v4.getD v6.toNat PV.top)).int == 3 then bif (FloatKind.f64.format.add (JE v0 v1).cre (WG v4 v6).cre).isSome && (FloatKind.f64.format.add (JE v0 v1).cim (WG v4 v6).cim).isSome && true then rc ((FloatKind.f64.format.add (JE v0 v1).cre (WG v4 v6).cre).getD 0) ((FloatKind.f64.format.add (JE v0 v1).cim (WG v4 v6).cim).getD 0) v2 v3 v4 v5 (IntKind.i64.wrap (v6 + 1)) else none else rc v0 v1 v2 v3 v4 v5 (IntKind.i64.wrap (v6 + 1)) else none else k0 v0 v1
def ZT (f : Nat) (k0 : Nat -> Nat -> OR) : Nat -> Nat -> Nat -> Bool -> Bool -> List PV -> Int -> Int -> OR
 | 0, _, _, _, _, _, _, _ => none
 | n + 1, v0, v1, v2, v3, v4, v5, v6 => VQ f (ZT f k0 n) k0 v0 v1 v2 v3 v4 v5 v6
theorem Jv8 (f : Nat) (k : Kont) (n v0 v1 : Nat) (v2 v3 : Bool) (v4 : List PV) (v5 v6 : Int) : Jx tau 0 XM (fun s k => ev tau Jv7 0 0 Jc5 (JfX ) s k) (n + 1) (Ji XM Jgm [.sc (Value.complex FloatKind.f64 v0 v1), .ro 53 v2 v3 v4, .sc (.int .i64 v5), .sc (.int .i64 v6)] []) (JG tau 0 YA k) = VQ f (fun v0 v1 v2 v3 v4 v5 v6 => Jx tau 0 XM (fun s k => ev tau Jv7 0 0 Jc5 (JfX ) s k) n (Ji XM Jgm [.sc (Value.complex FloatKind.f64 v0 v1), .ro 53 v2 v3 v4, .sc (.int .i64 v5), .sc (.int .i64 v6)] []) (JG tau 0 YA k)) (fun x0 x1 => k (Ex.exit 0) (Ji YA Jgm [.sc (Value.complex FloatKind.f64 x0 x1)] [])) v0 v1 v2 v3 v4 v5 v6 := by kernel_rfl
theorem Jld (f : Nat) (k : Kont) : ∀ (n v0 v1 : Nat) (v2 v3 : Bool) (v4 : List PV) (v5 v6 : Int), Jx tau 0 XM (fun s k => ev tau Jv7 0 0 Jc5 (JfX ) s k) n (Ji XM Jgm [.sc (Value.complex FloatKind.f64 v0 v1), .ro 53 v2 v3 v4, .sc (.int .i64 v5), .sc (.int .i64 v6)] []) (JG tau 0 YA k) = ZT f (fun x0 x1 => k (Ex.exit 0) (Ji YA Jgm [.sc (Value.complex FloatKind.f64 x0 x1)] [])) n v0 v1 v2 v3 v4 v5 v6 | 0, _, _, _, _, _, _, _ => rfl | n + 1, v0, v1, v2, v3, v4, v5, v6 => (Jv8 f k n v0 v1 v2 v3 v4 v5 v6).trans (congrArg (fun r => VQ f r (fun x0 x1 => k (Ex.exit 0) (Ji YA Jgm [.sc (Value.complex FloatKind.f64 x0 x1)] [])) v0 v1 v2 v3 v4 v5 v6) (by funext v0 v1 v2 v3 v4 v5 v6; exact Jld f k n v0 v1 v2 v3 v4 v5 v6))
def Jax (f : Nat) : List PV -> List (Nat × Ent) -> Kont -> OR
 | [.sc (Value.complex FloatKind.f64 v0 v1), .ro 53 v2 v3 v4, .sc (.int .i64 v5),
 .sc (.int .i64 v6)], [], k => ZT f (fun x0 x1 => k (Ex.exit 0) (Ji YA Jgm [.sc (Value.complex FloatKind.f64 x0 x1)] [])) f v0 v1 v2 v3 v4 v5 v6
 | _, _, _ => none
theorem JzH (f : Nat) : Jf Jc5 JfX = [] := by kernel_rfl
theorem JzI (f : Nat) : (Item.l Jc5 XM Jgm (Jax f)).Ok tau Tryz.prog 0 := Jt Jn JqT Jo (x := JfX) (nm2 := YA) (Jl _ _ (by rw [JzH f]; intro q hq; cases hq)) fun vs hp k res hr => by
 unfold Jax at hr
 split at hr
 · exact ⟨f, 0, (Jld f _ f _ _ _ _ _ _ _ ).trans hr⟩
 · cases hr
def JNq (f : Nat) (o_z o_f : Bool) (o : List PV) (k : KR) : OR := ZT f (fun x0_0 x1_0 => k (Res.mk (.sc (Value.complex FloatKind.f64 x0_0 x1_0)) [] [])) f (0) (0) o_z o_f o (zi o.length) (0)
theorem JQ9 (f : Nat) (o_z o_f : Bool) (o : List PV) (k : KR) : JI tau Jv7 Tryz.f134 (Tryz.f134.body.get!) (JqU (Jax f)) [.ro] 0 [.ro 53 o_z o_f o] [] k = JNq f o_z o_f o k := by kernel_rfl
theorem JNr (f : Nat) : Jf (Tryz.f134.body.get!) (JqU (Jax f)) = [.l Jc5 XM Jgm (Jax f)] := by kernel_rfl
theorem JNs (f : Nat) : ∀ q ∈ Jf (Tryz.f134.body.get!) (JqU (Jax f)), q.Ok tau Tryz.prog 0 := by rw [JNr f]; exact JJ (JzI f) (fun _ h => nomatch h)
theorem JCH : Tryz.prog.funcs[134]? = some Tryz.f134 := by kernel_rfl
theorem JCI : Tryz.f134.body = some (Tryz.f134.body.get!) := by kernel_rfl
theorem JNt : Enters Tryz.prog 134 := enters_of JCH (by kernel_rfl) JCI
end
end Go.Proofs.YthpmachmnoljeaaGreat.Rx
noncomputable section
namespace Go.Proofs.YthpmachmnoljeaaGreat.Rx
open Go Ieee
set_option linter.unusedVariables false
set_option linter.unusedSimpArgs false

theorem JqV {m : Nat} (h : m ≠ 0) : 2 ^ m.log2 <= m := Nat.log2_self_le h
theorem JqW {m : Nat} : m < 2 ^ (m.log2 + 1) := Nat.lt_log2_self
theorem JzJ {m k : Nat} (h0 : 2 ^ k <= m) (h1 : m < 2 ^ (k + 1)) : m.log2 = k := by
 have hm : m ≠ 0 := by have := Nat.two_pow_pos k; omega
 exact (Nat.log2_eq_iff hm).2 ⟨h0, h1⟩
theorem Jci {m : Nat} (h : m ≠ 0) (k : Nat) : (m * 2 ^ k).log2 = m.log2 + k := by
 apply JzJ
 · rw [Nat.pow_add]; exact Nat.mul_le_mul_right _ (JqV h)
 · have := JqW (m := m)
   rw [show m.log2 + k + 1 = (m.log2 + 1) + k from by omega, Nat.pow_add]
   exact Nat.mul_lt_mul_of_pos_right this (Nat.two_pow_pos k)
theorem Jv9 (w : Toward) (s : Bool) (n : Nat) : w.cut s n 0 = n := by
 unfold Toward.cut
 simp
 cases w <;> simp <;> omega
theorem JzK (w : Toward) (s : Bool) (n k : Nat) : w.cut s (n * 2 ^ k) k = n := by
 by_cases hn : n = 0
 · subst hn
   unfold Toward.cut
   have : 0 < 1 <<< min k (Nat.log2 0 + 2) := by rw [Nat.one_shiftLeft]; exact Nat.two_pow_pos _
   cases w <;> simp <;> omega
 · unfold Toward.cut
   have hmin : min k ((n * 2 ^ k).log2 + 2) = k := by rw [Jci hn]; omega
   have hp := Nat.two_pow_pos k
   have hg : 1 <<< min k ((n * 2 ^ k).log2 + 2) = 2 ^ k := by rw [hmin, Nat.one_shiftLeft]
   simp only [hg, Nat.mul_div_cancel _ hp, Nat.mul_mod_left]
   cases w <;> simp <;> omega
def fz (x : Int) : Nat := FloatKind.f64.nearest x
def shf (m : Nat) : Nat := 52 - m.log2
theorem JdC {m : Nat} (h0 : m ≠ 0) (h1 : m < 2 ^ 53) : 2 ^ 52 <= m * 2 ^ shf m /\ m * 2 ^ shf m < 2 ^ 53 := by
 have hL : m.log2 < 53 := (Nat.log2_lt h0).2 h1
 have e : m.log2 + shf m = 52 := by unfold shf; omega
 constructor
 · rw [← e, Nat.pow_add]; exact Nat.mul_le_mul_right _ (JqV h0)
 · rw [show 53 = (m.log2 + 1) + shf m from by omega, Nat.pow_add]
   exact Nat.mul_lt_mul_of_pos_right JqW (Nat.two_pow_pos _)
theorem lp : Ieee.double.leastPlace = -1074 := by decide
theorem Jcj (neg : Bool) {m : Nat} (h0 : m ≠ 0) (h1 : m < 2 ^ 53) (k : Nat) :
  Ieee.double.nearest neg (m * 2 ^ k) (-(k : Int)) = Ieee.double.word neg ((1074 + 1022 - 1022 - shf m) * 2 ^ 52 + m * 2 ^ shf m) := by
 have hL : m.log2 < 53 := (Nat.log2_lt h0).2 h1
 have hb := JdC h0 h1
 have hmk : m * 2 ^ k ≠ 0 := Nat.mul_ne_zero h0 (Nat.ne_of_gt (Nat.two_pow_pos k))
 have hlast : max (-(k : Int) + ((m * 2 ^ k).log2 : Int) - ((Ieee.double.fractionBits : Nat) : Int)) Ieee.double.leastPlace = -((shf m : Nat) : Int) := by
  rw [Jci h0, lp]; unfold shf
  show max (-(k : Int) + ((m.log2 + k : Nat) : Int) - ((52 : Nat) : Int)) (-1074) = _
  omega
 unfold Format.nearest
 rw [if_neg hmk]
 simp only [hlast]
 have hkept : Toward.even.cut neg ((m * 2 ^ k) <<< (-(k : Int) - -((shf m : Nat) : Int)).toNat) (-((shf m : Nat) : Int) - -(k : Int)).toNat = m * 2 ^ shf m := by
  by_cases hk : k <= shf m
  · have e1 : (-((shf m : Nat) : Int) - -(k : Int)).toNat = 0 := by omega
    have e2 : (-(k : Int) - -((shf m : Nat) : Int)).toNat = shf m - k := by omega
    rw [e1, e2, Jv9, Nat.shiftLeft_eq, Nat.mul_assoc, ← Nat.pow_add]
    congr 2; omega
  · have e1 : (-((shf m : Nat) : Int) - -(k : Int)).toNat = k - shf m := by omega
    have e2 : (-(k : Int) - -((shf m : Nat) : Int)).toNat = 0 := by omega
    rw [e1, e2, Nat.shiftLeft_zero, show m * 2 ^ k = (m * 2 ^ shf m) * 2 ^ (k - shf m) from by rw [Nat.mul_assoc, ← Nat.pow_add]; congr 2; omega]
    exact JzK _ _ _ _
 rw [hkept, lp]
 have e3 : (-((shf m : Nat) : Int) - -1074).toNat = 1074 - shf m := by omega
 have hi : Ieee.double.infRung = 2047 * 2 ^ 52 := by decide
 have hbn : Ieee.double.binade = 2 ^ 52 := by decide
 rw [e3, hi, hbn]
 have h53 : (2 : Nat) ^ 53 = 2 * 2 ^ 52 := by decide
 have hB : 0 < (2 : Nat) ^ 52 := Nat.two_pow_pos _
 generalize m * 2 ^ shf m = kp at *
 generalize shf m = sh at *
 rw [h53] at hb
 generalize (2 : Nat) ^ 52 = B at *
 have e4 : 1074 + 1022 - 1022 - sh = 1074 - sh := by omega
 rw [e4]
 congr 1
 have : (1074 - sh) * B <= 1074 * B := Nat.mul_le_mul_right _ (by omega)
 have : 1074 * B + 2 * B <= 2047 * B := by rw [← Nat.add_mul]; exact Nat.mul_le_mul_right _ (by omega)
 exact Nat.min_eq_left (by omega)
theorem JqX {x : Int} (h0 : x ≠ 0) (h1 : x.natAbs < 2 ^ 53) : fz x = Ieee.double.word (decide (x < 0)) ((1074 - shf x.natAbs) * 2 ^ 52 + x.natAbs * 2 ^ shf x.natAbs) := by
 have := Jcj (decide (x < 0)) (m := x.natAbs) (by omega) h1 0
 simp only [Nat.pow_zero, Nat.mul_one] at this
 exact this
theorem JzL {x : Int} (h0 : x ≠ 0) (h1 : x.natAbs < 2 ^ 53) : Ieee.double.read (fz x) = .number (decide (x < 0)) (x.natAbs * 2 ^ shf x.natAbs) (-((shf x.natAbs : Nat) : Int)) := by
 have hb := JdC (m := x.natAbs) (by omega) h1
 have hs : shf x.natAbs <= 52 := by unfold shf; omega
 rw [JqX h0 h1]
 generalize hm : x.natAbs * 2 ^ shf x.natAbs = kp at *
 generalize shf x.natAbs = s at *
 have hsw : Ieee.double.signWeight = 2 ^ 63 := by decide
 have hi : Ieee.double.infRung = 2047 * 2 ^ 52 := by decide
 have hbn : Ieee.double.binade = 2 ^ 52 := by decide
 have h53 : (2 : Nat) ^ 53 = 2 * 2 ^ 52 := by decide
 have h63 : (2 : Nat) ^ 63 = 2048 * 2 ^ 52 := by decide
 have hpos : 0 < (2 : Nat) ^ 52 := Nat.two_pow_pos _
 generalize (2 : Nat) ^ 52 = B at *
 have hr : (1074 - s) * B + kp < 2047 * B := by
  have : (1074 - s) * B <= 1074 * B := Nat.mul_le_mul_right _ (by omega)
  omega
 have hdiv : ((1074 - s) * B + kp) / B = 1074 - s + 1 := by
  rw [Nat.mul_comm, Nat.mul_add_div hpos]
  congr 1
  apply Nat.div_eq_of_lt_le <;> omega
 have hmod : ((1074 - s) * B + kp) % B = kp - B := by
  rw [Nat.mul_comm, Nat.mul_add_mod]
  rw [Nat.mod_eq_sub_mod (by omega), Nat.mod_eq_of_lt (by omega)]
 have hge : ¬ ((1074 - s) * B + kp < B) := by omega
 unfold Format.read Format.word
 rw [hsw, h63, hi, hbn, lp]
 have key : ∀ neg : Bool, ((if neg = true then 2048 * B + ((1074 - s) * B + kp) else (1074 - s) * B + kp) / (2048 * B) % 2 == 1) = neg /\ (if neg = true then 2048 * B + ((1074 - s) * B + kp) else (1074 - s) * B + kp) % (2048 * B) = (1074 - s) * B + kp := by
  intro neg
  have hlt : (1074 - s) * B + kp < 2048 * B := by omega
  cases neg with
  | true =>
   simp only [if_true]
   have hp : 0 < 2048 * B := by omega
   rw [Nat.add_div_left _ hp, Nat.div_eq_of_lt hlt, Nat.add_mod_left, Nat.mod_eq_of_lt hlt]
   exact ⟨rfl, rfl⟩
  | false =>
   simp only [Bool.false_eq_true, if_false]
   rw [Nat.div_eq_of_lt hlt, Nat.mod_eq_of_lt hlt]
   exact ⟨rfl, rfl⟩
 have k1 := key (decide (x < 0))
 simp only [k1.1, k1.2]
 rw [if_neg hge, if_pos hr, hmod, hdiv]
 congr 1 <;> omega
theorem JzM : Ieee.double.read (fz 0) = .number false 0 (-1074) := by decide
def JfY (d : Datum) (x : Int) : Prop := ∃ s m k, d = .number s m (-((k : Nat) : Int)) /\ m = x.natAbs * 2 ^ k /\ s = decide (x < 0)
theorem JzN (k : Nat) : 0 = (0 : Int).natAbs * 2 ^ k := by rw [Int.natAbs_zero, Nat.zero_mul]
theorem Gn {x : Int} (h1 : x.natAbs < 2 ^ 53) : JfY (Ieee.double.read (fz x)) x := by
 by_cases h0 : x = 0
 · subst h0; exact ⟨false, 0, 1074, JzM, JzN 1074, by decide⟩
 · exact ⟨_, _, _, JzL h0 h1, rfl, rfl⟩
theorem Xp {x : Int} {s : Bool} {m k : Nat} (hm : m = x.natAbs * 2 ^ k) (hs : s = decide (x < 0)) (u : Nat) : signed s m u = x * 2 ^ (k + u) := by
 subst hm hs
 unfold signed
 rw [Nat.shiftLeft_eq, Nat.mul_assoc, ← Nat.pow_add]
 have : ((x.natAbs * 2 ^ (k + u) : Nat) : Int) = (x.natAbs : Int) * 2 ^ (k + u) := by
   rw [Int.natCast_mul, Int.natCast_pow]; rfl
 by_cases h : x < 0
 · rw [if_pos (by simpa using h), this, ← Int.neg_mul]
   congr 1; omega
 · rw [if_neg (by simpa using h), this]
   congr 1; omega
theorem JqY (k : Nat) : (0 : Int) < 2 ^ k := by
 have := Nat.two_pow_pos k
 have h : ((2 ^ k : Nat) : Int) = 2 ^ k := by rw [Int.natCast_pow]; rfl
 omega
theorem JoF {d e : Datum} {x y : Int} (h : JfY d x) (g : JfY e y) (hxy : (x + y).natAbs < 2 ^ 53) : (d.sum e).map Ieee.double.write = some (fz (x + y)) := by
 obtain ⟨s, m, k, rfl, rfl, hs⟩ := h
 obtain ⟨t, n, j, rfl, rfl, ht⟩ := g
 unfold Datum.sum
 simp only [Option.map_some]
 have hbase : min (-(k : Int)) (-(j : Int)) = -((max k j : Nat) : Int) := by omega
 have e1 : (-(k : Int) - min (-(k : Int)) (-(j : Int))).toNat = max k j - k := by omega
 have e2 : (-(j : Int) - min (-(k : Int)) (-(j : Int))).toNat = max k j - j := by omega
 have f1 : k + (max k j - k) = max k j := by omega
 have f2 : j + (max k j - j) = max k j := by omega
 rw [hbase] at e1 e2
 simp only [hbase, e1, e2, Xp rfl hs, Xp rfl ht, f1, f2]
 rw [← Int.add_mul]
 have hp := JqY (max k j)
 have hna : ((x + y) * 2 ^ max k j).natAbs = (x + y).natAbs * 2 ^ max k j := by
   rw [Int.natAbs_mul, Int.natAbs_pow]; rfl
 by_cases h0 : x + y = 0
 · rw [h0]
   simp only [Int.zero_mul, if_true]
   have hst : (s && t) = false := by
    subst hs ht
    by_cases hx : x < 0
    · have : ¬ y < 0 := by omega
      simp [this]
    · simp [hx]
   rw [hst]; simp only [Format.write, Format.nearest, Int.natAbs_zero, if_true]
   rfl
 · have hne : (x + y) * 2 ^ max k j ≠ 0 := Int.mul_ne_zero h0 (by omega)
   rw [if_neg hne, hna]
   have hneg : decide ((x + y) * 2 ^ max k j < 0) = decide (x + y < 0) := by
    by_cases hlt : x + y < 0
    · have : (x + y) * 2 ^ max k j < 0 := Int.mul_neg_of_neg_of_pos hlt hp
      simp [hlt, this]
    · have : ¬ (x + y) * 2 ^ max k j < 0 := by
       have := Int.mul_nonneg (show 0 <= x + y by omega) (Int.le_of_lt hp); omega
      simp [hlt, this]
   rw [hneg]
   simp only [Format.write]
   rw [Jcj _ (by omega) hxy, JqX h0 hxy]
theorem JjD {d e : Datum} {x y : Int} (h : JfY d x) (g : JfY e y) : d.order e = some (compare x y) := by
 obtain ⟨s, m, k, rfl, rfl, hs⟩ := h
 obtain ⟨t, n, j, rfl, rfl, ht⟩ := g
 unfold Datum.order
 have e1 : (-(k : Int) - min (-(k : Int)) (-(j : Int))).toNat = max k j - k := by omega
 have e2 : (-(j : Int) - min (-(k : Int)) (-(j : Int))).toNat = max k j - j := by omega
 have f1 : k + (max k j - k) = max k j := by omega
 have f2 : j + (max k j - j) = max k j := by omega
 simp only [e1, e2, Xp rfl hs, Xp rfl ht, f1, f2]
 have hp := JqY (max k j)
 congr 1
 simp only [compare, compareOfLessAndEq]
 have l1 : (x * 2 ^ max k j < y * 2 ^ max k j) ↔ x < y := ⟨fun h => Int.lt_of_mul_lt_mul_right h (Int.le_of_lt hp), fun h => Int.mul_lt_mul_of_pos_right h hp⟩
 have l2 : (x * 2 ^ max k j = y * 2 ^ max k j) ↔ x = y := ⟨fun h => Int.eq_of_mul_eq_mul_right (by omega) h, fun h => by rw [h]⟩
 simp only [l1, l2]
theorem JGP {x y : Int} (hx : x.natAbs < 2 ^ 53) (hy : y.natAbs < 2 ^ 53) (hxy : (x + y).natAbs < 2 ^ 53) : FloatKind.f64.format.add (fz x) (fz y) = some (fz (x + y)) :=
 JoF (Gn hx) (Gn hy) hxy
theorem JfZ {x y : Int} (hx : x.natAbs < 2 ^ 53) (hy : y.natAbs < 2 ^ 53) : FloatKind.f64.format.order (fz x) (fz y) = some (compare x y) := JjD (Gn hx) (Gn hy)
theorem Jwa (x : Int) : fOf .f64 x = fz x := JrV .f64 x
end Go.Proofs.YthpmachmnoljeaaGreat.Rx
end

namespace Go.Proofs.YthpmachmnoljeaaGreat.Rx
noncomputable section
open Go
set_option linter.unusedVariables false
set_option linter.unusedSimpArgs false
set_option maxRecDepth 100000
set_option maxHeartbeats 0
theorem Jhc : fz 0 = 0 := by decide +kernel
theorem Jle {a b : Int} (h0 : 0 <= a) (h1 : a <= 1000000) (g0 : 0 <= b) (g1 : b <= 1000000) : FloatKind.f64.format.add (fz a) (fz b) = some (fz (a + b)) :=
  JGP (by
      have : (2 : Nat) ^ 53 = 9007199254740992 := by decide
      rw [this]; omega) (by have : (2 : Nat) ^ 53 = 9007199254740992 := by decide
                            rw [this]; omega) (by have : (2 : Nat) ^ 53 = 9007199254740992 := by decide
                                                  rw [this]; omega)
theorem JNu {a : Int} (h0 : 0 <= a) (h1 : a <= 1000000) : FloatKind.f64.format.add (fz a) 0 = some (fz a) := by
 have := Jle h0 h1 (Int.le_refl 0) (by decide)
 rwa [Jhc, Int.add_zero] at this
theorem Jwb (l : List PV) (ha : aOk l = true) (f : Nat) (k0 : Nat -> Nat -> OR) (z fl : Bool) : ∀ (d i n : Nat) (a b : Int), i + d = l.length -> d < n -> 0 <= a -> a <= 120 * i -> 0 <= b -> b <= 120 * i ->
  ZT f k0 n (fz a) (fz b) z fl l (zi l.length) (i : Int) = k0 (fz (a + inL (l.drop i))) (fz (b + outL (l.drop i)))
 | 0, i, n + 1, a, b, hi, hn, a0, a1, b0, b1 => by
   rw [List.drop_of_length_le (by omega)]
   simp only [ZT, VQ, WG, WF, WE, WD, WC, WB, JE, WA, Wz, inL, outL, Int.add_zero]
   exact Jd (by simp [zi]; omega)
 | d + 1, i, n + 1, a, b, hi, hn, a0, a1, b0, b1 => by
   obtain ⟨h1, hl, _⟩ := Q8.1 ha
   have g1 := tI i
   have w1 := wI (i := i) (by omega)
   have hc := Jk1 h1 (i := i) (by omega)
   unfold Jag at hc
   have hk := (Y2 ha (i := i) (by omega)).2
   rw [JY (by omega)]
   simp only [ZT, VQ, WG, WF, WE, WD, WC, WB, JE, WA, Wz, g1, w1]
   refine (Ja (by simp [zi]; omega)).trans ((Ja hc).trans ?_)
   generalize l.getD i .top = p at *
   have i1 := JfC hk
   have o1 := JbY hk
   have e1 : (PV.child 0 p).int = (cv p).kd := rfl
   have e2 : (PV.child (0 + 1) p).int = (cv p).n := rfl
   have e3 : (PV.child (0 + 1 + 1) p).str = (cv p).s := rfl
   have c1 : ∀ x y : Nat, (PV.sc (Value.complex FloatKind.f64 x y)).cre = x := fun _ _ => rfl
   have c2 : ∀ x y : Nat, (PV.sc (Value.complex FloatKind.f64 x y)).cim = y := fun _ _ => rfl
   simp only [e1, e2, e3, c1, c2, Jwa, inL, outL, ← Int.add_assoc]
   have IH := fun a b => Jwb l ha f k0 z fl d (i + 1) n a b (by omega) (by omega)
   rcases Xv hk with ⟨q1, q2, q3, q4⟩ | ⟨q1, q2, q3, q4⟩
   · rcases q1 with q1 | q1
     · have ei : inC (cv p) = (cv p).n := by unfold inC; rw [q1]; rfl
       have eo : QO (cv p) = (cv p).n := by unfold QO; rw [q1]; rfl
       have r1 := Jle (a := a) (b := (cv p).n) a0 (by omega) (by omega) (by omega)
       have r2 := Jle (a := b) (b := (cv p).n) b0 (by omega) (by omega) (by omega)
       rw [ei, eo]
       simp only [q1, r1, r2, Option.isSome_some, Option.getD_some]
       exact (Jd rfl).trans ((Ja rfl).trans ((Ja rfl).trans (IH _ _ (by omega) (by omega) (by omega) (by omega))))
     · have ei : inC (cv p) = (cv p).n := by unfold inC; rw [q1]; rfl
       have eo : QO (cv p) = 0 := by unfold QO; rw [q1]; show ((cv p).s.size : Int) = 0; omega
       have r1 := Jle (a := a) (b := (cv p).n) a0 (by omega) (by omega) (by omega)
       have r2 := JNu (a := b) b0 (by omega)
       rw [ei, eo]
       simp only [q1, r1, r2, Option.isSome_some, Option.getD_some, Int.add_zero]
       exact (Jd rfl).trans ((Jd rfl).trans ((Jd rfl).trans ((Ja rfl).trans ((Ja rfl).trans (IH _ _ (by omega) (by omega) (by omega) (by omega))))))
   · have ei : inC (cv p) = 0 := by unfold inC; rw [q1]; rfl
     have eo : QO (cv p) = (cv p).s.size := by unfold QO; rw [q1]; rfl
     have r1 := JNu (a := a) a0 (by omega)
     have r2 := Jle (a := b) (b := zi (cv p).s.size) b0 (by omega) (by simp only [zi]; omega) (by simp only [zi]; omega)
     have hz : zi (cv p).s.size = ((cv p).s.size : Int) := rfl
     rw [ei, eo, ← hz]
     simp only [q1, r1, r2, Option.isSome_some, Option.getD_some, Int.add_zero]
     exact (Ja rfl).trans ((Jd rfl).trans ((Ja rfl).trans ((Ja rfl).trans (IH _ _ (by omega) (by omega) (by omega) (by omega)))))
def szI : List PV -> Nat := hid fun l => fz (inL l)
def szO : List PV -> Nat := hid fun l => fz (outL l)
theorem Jwc (l : List PV) : szI l = fz (inL l) := by rw [szI, hid_eq]
theorem Jwd (l : List PV) : szO l = fz (outL l) := by rw [szO, hid_eq]
def JjE : Jy
 | [.ro 53 z f o], [], k => bif aOk o then k ⟨.sc (.complex .f64 (szI o) (szO o)), [], []⟩ else none
 | _, _, _ => none
def JCJ : Sig := { own := [], run := JjE }
theorem JGQ : Jc tau Tryz.prog 134 JCJ := Jc.mk' fun xs es k res hl hr => by
 change JjE xs es k = some res at hr
 unfold JjE at hr
 split at hr
 · rename_i z f o
   obtain ⟨hc, hr⟩ := Ju hr
   have hl2 := (Q8.1 hc).2.1
   refine J1 Jn JqT Jo JCH JCI (JqU (Jax 50)) [.ro] 0 0 (JNs 50) hl rfl ((JQ9 50 z f o k).trans (Eq.trans ?_ hr))
   unfold JNq
   have h0 := Jwb o hc 50 (fun x0_0 x1_0 => k (Res.mk (.sc (Value.complex FloatKind.f64 x0_0 x1_0)) [] [])) z f o.length 0 50 0 0 (by omega) (by omega) (by omega) (by omega) (by omega) (by omega)
   rw [Jhc] at h0
   refine h0.trans ?_
   rw [List.drop_zero, Int.zero_add, Int.zero_add, Jwc, Jwd]
 · cases hr
def N92 : Nat := 71
def F92 : Fns := Jr 135 JGO (Jr 134 JCJ (F0))
theorem Jwe : Jp tau Tryz.prog F92 := ((Js).add JGQ JNt).add JCG JCF
def Jlf : Code := Qd (Tryz.f92.body.get!) [1, 0]
def Jf0 : Nm := [(0, .any), (1, .any), (7, .own), (8, .any)]
def JoG : Nm := [(4, .any), (5, .any)]
def JqZ : An := (.seq .leaf (.seq (.block none (.seq .leaf (.cond (.seq .leaf .leaf) (.seq .leaf (.cond (.seq .leaf .leaf) .leaf))))) (.seq .leaf (.seq .leaf (.seq .leaf (.seq (.seq .leaf (.cond (.seq .leaf .leaf) .leaf)) (.seq .leaf (.seq (.seq .leaf (.block none (.seq .leaf (.cond .leaf (.seq .leaf (.cond .leaf (.seq .leaf (.cond .leaf .leaf)))))))) (.seq .leaf .leaf)))))))))
def JzO (r0 : Jsm) : An := (.seq .leaf (.ssum Jf0 N92 (JqZ) r0))
abbrev Jwf := ByteArray -> Bool -> Bool -> List PV -> Nat -> Int -> Bool -> List PV -> OR
abbrev J0 (v3 : List PV) (v5 : Int) := (PV.child (0 + 1 + 1) (v3.getD v5.toNat PV.top))
abbrev Q4 (v3 : List PV) (v5 : Int) := (PV.isSt 53 #[Field.mk "Kind" 3 0 false "" "" 0, Field.mk "N" 3 1 false "" "" 8, Field.mk "S" 9 2 false "" "" 16].size (v3.getD v5.toNat PV.top) && (PV.isInt IntKind.i64 (PV.child 0 (v3.getD v5.toNat PV.top)) && (PV.isInt IntKind.i64 (PV.child (0 + 1) (v3.getD v5.toNat PV.top)) && ((J0 v3 v5).isStr && true))))
abbrev Qn (v3 : List PV) (v5 : Int) := (Gq (PV.child (0 + 1) (v3.getD v5.toNat PV.top)).int 0)
abbrev Qo (v0 : ByteArray) (v3 : List PV) (v5 : Int) := (Qg (Gq (zi (J0 v3 v5).str.size) 0) (zi v0.size))
abbrev Wp (v0 : ByteArray) (v3 : List PV) (v5 : Int) := (v0.extract 0 (Qg (Qn v3 v5) (zi v0.size)).toNat)
def XN (f : Nat) (rc : Jwf) (k0 : ByteArray -> Int -> OR) (v0 : ByteArray) (v1 v2 : Bool) (v3 : List PV) (v4 : Nat) (v5 : Int) (v6 : Bool) (v7 : List PV) : OR := bif v5 == zi v3.length then bif Jk IntKind.u8 (List.take v4 v7) && true then k0 (ByteArray.mk (Array.mk (JW ((Ent.vec false 5 v6 v7).nil, List.take v4 (List.drop 0 v7)).snd))) (0) else none else bif decide (0 <= v5) && decide (v5 < zi v3.length) && (Q4 v3 v5) && true then bif (PV.child 0 (v3.getD v5.toNat PV.top)).int == 2 then bif decide (0 <= v5) && decide (v5 < zi v3.length) && (Q4 v3 v5) && true then bif (PV.child 0 (v3.getD v5.toNat PV.top)).int == 1 then bif decide (0 <= Qg (Gq (zi (J0 v3 v5).str.size) 0) (zi v0.size)) && true && decide ((Qo v0 v3 v5).toNat <= v0.size) && true then bif Je (v4 + (Jj (v0.extract 0 (Qo v0 v3 v5).toNat)).length) 1 && true then bif decide (0 <= Qg (Gq (zi (J0 v3 v5).str.size) 0) (zi v0.size)) && true && decide ((Qo v0 v3 v5).toNat <= v0.size) && decide (v0.size <= v0.size) && true then rc (v0.extract (Qo v0 v3 v5).toNat v0.size) v1 v2 v3 (v4 + (Jj (v0.extract 0 (Qo v0 v3 v5).toNat)).length) (IntKind.i64.wrap (v5 + 1)) (v6 && (Jj (v0.extract 0 (Qo v0 v3 v5).toNat)).isEmpty) (List.take v4 v7 ++ Jj (v0.extract 0 (Qo v0 v3 v5).toNat)) else none else none else none else bif (PV.child 0 (v3.getD v5.toNat PV.top)).int == 2 then bif decide (0 <= v5) && decide (v5 < zi v3.length) && (Q4 v3 v5) && true then bif Je (v4 + (Jj (J0 v3 v5).str).length) 1 && true then rc v0 v1 v2 v3 (v4 + (Jj (J0 v3 v5).str).length) (IntKind.i64.wrap (v5 + 1)) (v6 && (Jj (J0 v3 v5).str).isEmpty) (List.take v4 v7 ++ Jj (J0 v3 v5).str) else none else none else bif (PV.child 0 (v3.getD v5.toNat PV.top)).int == 3 then bif decide (0 <= Qg (Gq (zi (J0 v3 v5).str.size) 0) (zi v0.size)) && true && decide ((Qo v0 v3 v5).toNat <= v0.size) && decide (v0.size <= v0.size) && true then rc (v0.extract (Qo v0 v3 v5).toNat v0.size) v1 v2 v3 v4 (IntKind.i64.wrap (v5 + 1)) v6 v7 else none else rc v0 v1 v2 v3 v4 (IntKind.i64.wrap (v5 + 1)) v6 v7 else none else bif decide (0 <= v5) && decide (v5 < zi v3.length) && (Q4 v3 v5) && true then bif (PV.child 0 (v3.getD v5.toNat PV.top)).int == 1 then bif decide (0 <= Qg (Qn v3 v5) (zi v0.size)) && true && decide ((Qg (Qn v3 v5) (zi v0.size)).toNat <= v0.size) && true then bif Je (v4 + (Jj (Wp v0 v3 v5)).length) 1 && true then bif decide (0 <= Qg (Qn v3 v5) (zi v0.size)) && true && decide ((Qg (Qn v3 v5) (zi v0.size)).toNat <= v0.size) && decide (v0.size <= v0.size) && true then rc (v0.extract (Qg (Qn v3 v5) (zi v0.size)).toNat v0.size) v1 v2 v3 (v4 + (Jj (Wp v0 v3 v5)).length) (IntKind.i64.wrap (v5 + 1)) (v6 && (Jj (Wp v0 v3 v5)).isEmpty) (List.take v4 v7 ++ Jj (Wp v0 v3 v5)) else none else none else none else bif (PV.child 0 (v3.getD v5.toNat PV.top)).int == 2 then bif decide (0 <= v5) && decide (v5 < zi v3.length) && (Q4 v3 v5) && true then bif Je (v4 + (Jj (J0 v3 v5).str).length) 1 && true then rc v0 v1 v2 v3 (v4 + (Jj (J0 v3 v5).str).length) (IntKind.i64.wrap (v5 + 1)) (v6 && (Jj (J0 v3 v5).str).isEmpty) (List.take v4 v7 ++ Jj (J0 v3 v5).str) else none else none else bif (PV.child 0 (v3.getD v5.toNat PV.top)).int == 3 then bif decide (0 <= Qg (Qn v3 v5) (zi v0.size)) && true && decide ((Qg (Qn v3 v5) (zi v0.size)).toNat <= v0.size) && decide (v0.size <= v0.size) && true then rc (v0.extract (Qg (Qn v3 v5) (zi v0.size)).toNat v0.size) v1 v2 v3 v4 (IntKind.i64.wrap (v5 + 1)) v6 v7 else none else rc v0 v1 v2 v3 v4 (IntKind.i64.wrap (v5 + 1)) v6 v7 else none else none
def Wb (f : Nat) (k0 : ByteArray -> Int -> OR) : Nat -> Jwf
 | 0 => fun _ _ _ _ _ _ _ _ => none
 | n + 1 => XN f (Wb f k0 n) k0
def Jck (k : Kont) := fun x0 x1 => k Ex.ret (Ji JoG N92 [.sc (.string x0), .sc (.int .i64 x1)] [])
def JoH (f : Nat) (k : Kont) (n : Nat) (v0 : ByteArray) (v1 v2 : Bool) (v3 : List PV) (v4 : Nat) (v5 : Int) (v6 : Bool) (v7 : List PV) : OR := Q5 tau 0 Jf0 (hasLabel Jlf) (fun l s k => Qh tau F92 0 0 Jlf (JqZ ) l s k) n 0 (Ji Jf0 N92 [.sc (.string v0), .ro 53 v1 v2 v3, .ow 5 1152 [] 0 v4 none, .sc (.int .i64 v5)] [(1152, .vec false 5 v6 v7)]) (JG tau 0 JoG k)
theorem JzP (f : Nat) (k : Kont) (n : Nat) : JoH f k (n + 1) = XN f (JoH f k n) (Jck k) := by kernel_rfl
theorem Jq0 (f : Nat) (k : Kont) : ∀ n, JoH f k n = Wb f (Jck k) n
 | 0 => rfl
 | n + 1 => (JzP f k n).trans (congrArg (fun r => XN f r (Jck k)) (Jq0 f k n))
def Jf1 (f : Nat) : Nat -> List PV -> List (Nat × Ent) -> Kont -> OR
 | 0, [.sc (.string v0), .ro 53 v1 v2 v3, .ow 5 1152 [] 0 v4 none,
 PV.sc
  (Value.int IntKind.i64
   v5)], [(1152, .vec false 5 v6 v7)], k => Wb f (Jck k) f v0 v1 v2 v3 v4 v5 v6 v7
 | _, _, _, _ => none
theorem JGR (f : Nat) : Jf Jlf JqZ = [] := by kernel_rfl
theorem JGS (f : Nat) : (Item.s Jlf Jf0 N92 (Jf1 f)).Ok tau Tryz.prog 0 := X0 Jn Jwe Jo (x := JqZ) (nm2 := JoG) (Jl _ _ (by rw [JGR f]; intro q hq; cases hq)) fun l vs hp k res hr => by
 unfold Jf1 at hr
 split at hr
 · rw [← Jq0 f] at hr; exact ⟨f, 0, hr⟩
 · cases hr
abbrev WS (o : List PV) := (PV.child (0 + 1 + 1) (o.getD 0 PV.top))
abbrev Jc6 (o : List PV) := (PV.isSt 53 #[Field.mk "Kind" 3 0 false "" "" 0, Field.mk "N" 3 1 false "" "" 8, Field.mk "S" 9 2 false "" "" 16].size (o.getD (Int.toNat 0) PV.top) && (PV.isInt IntKind.i64 (PV.child 0 (o.getD 0 PV.top)) && (PV.isInt IntKind.i64 (PV.child (0 + 1) (o.getD 0 PV.top)) && ((WS o).isStr && true))))
abbrev YK (o : List PV) := (Gq (PV.child (0 + 1) (o.getD 0 PV.top)).int 0)
abbrev YL (doc : ByteArray) (o : List PV) := (Qg (Gq (zi (WS o).str.size) 0) (zi doc.size))
abbrev Jf2 (doc : ByteArray) (o : List PV) := (Jj (doc.extract 0 (Qg (YK o) (zi doc.size)).toNat))
def g92 (f : Nat) (doc : ByteArray) (o_z o_f : Bool) (o : List PV) (k : KR) : OR := bif aOk o then bif !(FloatKind.f64.format.order (PV.sc (Value.complex FloatKind.f64 (fOf FloatKind.f64 (zi doc.size)) (szO o))).cre (PV.sc (Value.complex FloatKind.f64 (szI o) (szO o))).cre == some Ordering.eq && FloatKind.f64.format.order (PV.sc (Value.complex FloatKind.f64 (fOf FloatKind.f64 (zi doc.size)) (szO o))).cim (PV.sc (Value.complex FloatKind.f64 (szI o) (szO o))).cim == some Ordering.eq) then k (Res.mk (.tup [.sc (.string (ByteArray.mk (Array.mk []))), .sc (.int .i64 7)]) [] []) else bif FloatKind.f64.format.order (PV.sc (Value.float FloatKind.f64 (szO o))).flo (PV.sc (Value.float FloatKind.f64 4638144666238189568)).flo == some Ordering.gt then k (Res.mk (.tup [.sc (.string (ByteArray.mk (Array.mk []))), .sc (.int .i64 5)]) [] []) else bif 0 == zi o.length then k (Res.mk (.tup [.sc (.string (ByteArray.mk (Array.mk (JW (true, []).snd)))), .sc (.int .i64 0)]) [] []) else bif decide (0 < zi o.length) && (Jc6 o) && true then bif (PV.child 0 (o.getD 0 PV.top)).int == 2 then bif decide (0 < zi o.length) && (Jc6 o) && true then bif (PV.child 0 (o.getD 0 PV.top)).int == 1 then bif decide (0 <= Qg (Gq (zi (WS o).str.size) 0) (zi doc.size)) && true && decide ((YL doc o).toNat <= doc.size) && true then bif Je (Jj (doc.extract 0 (YL doc o).toNat)).length 1 && true then bif decide (0 <= Qg (Gq (zi (WS o).str.size) 0) (zi doc.size)) && true && decide ((YL doc o).toNat <= doc.size) && decide (doc.size <= doc.size) && true then Wb f (fun x0_0 x1_0 => k (Res.mk (.tup [.sc (.string x0_0), .sc (.int .i64 x1_0)]) [] [])) f (doc.extract (YL doc o).toNat doc.size) o_z o_f o ((Jj (doc.extract 0 (YL doc o).toNat)).length) (IntKind.i64.wrap (0 + 1)) ((Jj (doc.extract 0 (YL doc o).toNat)).isEmpty) (Jj (doc.extract 0 (YL doc o).toNat)) else none else none else none else bif (PV.child 0 (o.getD 0 PV.top)).int == 2 then bif decide (0 < zi o.length) && (Jc6 o) && true then bif Je (Jj (WS o).str).length 1 && true then Wb f (fun x0_1 x1_1 => k (Res.mk (.tup [.sc (.string x0_1), .sc (.int .i64 x1_1)]) [] [])) f doc o_z o_f o ((Jj (WS o).str).length) (IntKind.i64.wrap (0 + 1)) ((Jj (WS o).str).isEmpty) (Jj (WS o).str) else none else none else bif (PV.child 0 (o.getD 0 PV.top)).int == 3 then bif decide (0 <= Qg (Gq (zi (WS o).str.size) 0) (zi doc.size)) && true && decide ((YL doc o).toNat <= doc.size) && decide (doc.size <= doc.size) && true then Wb f (fun x0_2 x1_2 => k (Res.mk (.tup [.sc (.string x0_2), .sc (.int .i64 x1_2)]) [] [])) f (doc.extract (YL doc o).toNat doc.size) o_z o_f o (0) (IntKind.i64.wrap (0 + 1)) true ([]) else none else Wb f (fun x0_3 x1_3 => k (Res.mk (.tup [.sc (.string x0_3), .sc (.int .i64 x1_3)]) [] [])) f doc o_z o_f o (0) (IntKind.i64.wrap (0 + 1)) true ([]) else none else bif decide (0 < zi o.length) && (Jc6 o) && true then bif (PV.child 0 (o.getD 0 PV.top)).int == 1 then bif decide (0 <= Qg (YK o) (zi doc.size)) && true && decide ((Qg (YK o) (zi doc.size)).toNat <= doc.size) && true then bif Je (Jf2 doc o).length 1 && true then bif decide (0 <= Qg (YK o) (zi doc.size)) && true && decide ((Qg (YK o) (zi doc.size)).toNat <= doc.size) && decide (doc.size <= doc.size) && true then Wb f (fun x0_4 x1_4 => k (Res.mk (.tup [.sc (.string x0_4), .sc (.int .i64 x1_4)]) [] [])) f (doc.extract (Qg (YK o) (zi doc.size)).toNat doc.size) o_z o_f o ((Jf2 doc o).length) (IntKind.i64.wrap (0 + 1)) ((Jf2 doc o).isEmpty) (Jf2 doc o) else none else none else none else bif (PV.child 0 (o.getD 0 PV.top)).int == 2 then bif decide (0 < zi o.length) && (Jc6 o) && true then bif Je (Jj (WS o).str).length 1 && true then Wb f (fun x0_5 x1_5 => k (Res.mk (.tup [.sc (.string x0_5), .sc (.int .i64 x1_5)]) [] [])) f doc o_z o_f o ((Jj (WS o).str).length) (IntKind.i64.wrap (0 + 1)) ((Jj (WS o).str).isEmpty) (Jj (WS o).str) else none else none else bif (PV.child 0 (o.getD 0 PV.top)).int == 3 then bif decide (0 <= Qg (YK o) (zi doc.size)) && true && decide ((Qg (YK o) (zi doc.size)).toNat <= doc.size) && decide (doc.size <= doc.size) && true then Wb f (fun x0_6 x1_6 => k (Res.mk (.tup [.sc (.string x0_6), .sc (.int .i64 x1_6)]) [] [])) f (doc.extract (Qg (YK o) (zi doc.size)).toNat doc.size) o_z o_f o (0) (IntKind.i64.wrap (0 + 1)) true ([]) else none else Wb f (fun x0_7 x1_7 => k (Res.mk (.tup [.sc (.string x0_7), .sc (.int .i64 x1_7)]) [] [])) f doc o_z o_f o (0) (IntKind.i64.wrap (0 + 1)) true ([]) else none else none else none
theorem e92 (f : Nat) (doc : ByteArray) (o_z o_f : Bool) (o : List PV) (k : KR) : JI tau F92 Tryz.f92 (Tryz.f92.body.get!) (JzO (Jf1 f)) [.ro, .ro] 0 [.sc (.string doc), .ro 53 o_z o_f o] [] k = g92 f doc o_z o_f o k := by kernel_rfl
theorem JRa (f : Nat) : Jf (Tryz.f92.body.get!) (JzO (Jf1 f)) = [.s Jlf Jf0 N92 (Jf1 f)] := by kernel_rfl
theorem JRb (f : Nat) : ∀ q ∈ Jf (Tryz.f92.body.get!) (JzO (Jf1 f)), q.Ok tau Tryz.prog 0 := by rw [JRa f]; exact JJ (JGS f) (fun _ h => nomatch h)
theorem JNv : Tryz.prog.funcs[92]? = some Tryz.f92 := by kernel_rfl
theorem JNw : Tryz.f92.body = some (Tryz.f92.body.get!) := by kernel_rfl
theorem JRc : Enters Tryz.prog 92 := enters_of JNv (by kernel_rfl) JNw
def Jgn : List PV -> List UInt8 -> List UInt8
 | [], _ => []
 | p :: ps, t =>
  bif (cv p).kd == 1 then t.take (cv p).n.toNat ++ Jgn ps (t.drop (cv p).n.toNat)
  else bif (cv p).kd == 2 then (cv p).s.data.toList ++ Jgn ps t
  else Jgn ps (t.drop (cv p).n.toNat)
theorem Jcl : ∀ (l : List PV) (doc : ByteArray) (at1 : Nat) (out : ByteArray), (apl l doc at1 out).data.toList = out.data.toList ++ Jgn l (doc.data.toList.drop at1)
 | [], doc, at1, out => by simp [apl, Jgn]
 | p :: ps, doc, at1, out => by
  simp only [apl, Jgn]
  cases (cv p).kd == 1 with
  | true =>
   simp only [cond_true]
   rw [Jcl, ByteArray.data_append, Array.toList_append, ByteArray.data_extract, Array.toList_extract, List.extract_eq_take_drop, List.append_assoc, List.drop_drop]
   have e : at1 + (cv p).n.toNat - at1 = (cv p).n.toNat := by omega
   rw [e]
  | false =>
   simp only [cond_false]
   cases (cv p).kd == 2 with
   | true => simp only [cond_true]; rw [Jcl, ByteArray.data_append, Array.toList_append, List.append_assoc]
   | false => simp only [cond_false]; rw [Jcl, List.drop_drop]
def ob (l : List UInt8) : List PV := l.map fun b => .sc (.int .u8 b.toNat)
theorem JNx (s : ByteArray) : Jj s = ob s.data.toList := rfl
theorem JGT (a b : List UInt8) : ob a ++ ob b = ob (a ++ b) := by simp [ob]
theorem JoI (a : List UInt8) : (ob a).length = a.length := by simp [ob]
theorem JCK : ∀ l : List UInt8, JW (ob l) = l
 | [] => rfl
 | b :: l => by
  show UInt8.ofNat ((b.toNat : Int)).toNat :: JW (ob l) = _
  rw [JCK l, Int.toNat_natCast, UInt8.ofNat_toNat]
theorem Jwg : ∀ l : List UInt8, Jk .u8 (ob l) = true
 | [] => rfl
 | b :: l => by
  show (PV.isInt .u8 (.sc (.int .u8 b.toNat)) && Jk .u8 (ob l)) = true
  rw [Jwg l]; rfl
theorem JGU {a b : ByteArray} (h : a.data.toList = b.data.toList) : a = b := by
 cases a with
 | mk x => cases b with
  | mk y => exact congrArg ByteArray.mk (Array.ext' h)
theorem JCL {n m : Int} (h0 : 0 <= n) (h1 : n <= m) : Qg (Gq n 0) m = n := by
 unfold Qg Gq
 by_cases h : n < 0
 · omega
 · rw [if_neg h]
   by_cases g : m < n
   · omega
   · rw [if_neg g]
theorem JzQ (f : Nat) (rc : ByteArray -> Bool -> Bool -> List PV -> Nat -> Int -> Bool -> List PV -> OR) (k0 : ByteArray -> Int -> OR) (r : ByteArray) (z fl : Bool) (l : List PV) (out : List UInt8) (q : Bool) :
  XN f rc k0 r z fl l out.length (l.length : Int) q (ob out) = k0 ⟨⟨out⟩⟩ 0 := by
 have e : List.take out.length (ob out) = ob out := by rw [← JoI out]; exact List.take_length
 simp only [XN, Wp, Qo, Qn, Q4, J0, List.drop_zero, e, JCK, Jwg]
 exact Ja (beq_self_eq_true _)
theorem Jwh (f : Nat) (rc : ByteArray -> Bool -> Bool -> List PV -> Nat -> Int -> Bool -> List PV -> OR) (k0 : ByteArray -> Int -> OR) (r : ByteArray) (z fl : Bool) (l : List PV) (ha : aOk l = true) (out : List UInt8) (q : Bool) (i : Nat) (hi : i < l.length) (X : OR)
   (hr : inC (cv (l.getD i .top)) <= r.size) (ho : (out.length : Int) + QO (cv (l.getD i .top)) <= 1000)
   (h : ∀ (r2 : ByteArray) (o2 : List UInt8) (q2 : Bool),
     (bif (cv (l.getD i .top)).kd == 1 then r2.data.toList = r.data.toList.drop (cv (l.getD i .top)).n.toNat /\ o2 = out ++ r.data.toList.take (cv (l.getD i .top)).n.toNat
       else bif (cv (l.getD i .top)).kd == 2 then r2.data.toList = r.data.toList /\ o2 = out ++ (cv (l.getD i .top)).s.data.toList
       else r2.data.toList = r.data.toList.drop (cv (l.getD i .top)).n.toNat /\ o2 = out : Prop) ->
     rc r2 z fl l o2.length ((i + 1 : Nat) : Int) q2 (ob o2) = X) :
   XN f rc k0 r z fl l out.length (i : Int) q (ob out) = X := by
 obtain ⟨h1, hl, hck⟩ := Q8.1 ha
 have g1 := tI i
 have w1 := wI (i := i) (by omega)
 have hc := Jk1 h1 (i := i) (by omega)
 unfold Jag at hc
 have hk := (Y2 ha (i := i) (by omega)).2
 have e : List.take out.length (ob out) = ob out := by rw [← JoI out]; exact List.take_length
 simp only [XN, Wp, Qo, Qn, Q4, J0, g1, w1, e, JNx, JGT, JoI, ← List.length_append]
 generalize l.getD i .top = p at *
 have e1 : (PV.child 0 p).int = (cv p).kd := rfl
 have e2 : (PV.child (0 + 1) p).int = (cv p).n := rfl
 have e3 : (PV.child (0 + 1 + 1) p).str = (cv p).s := rfl
 simp only [e1, e2, e3]
 refine (Jd (beq_false_of_ne (by simp only [zi]; omega))).trans ((Ja hc).trans ?_)
 have hn0 : ∀ (n : Nat), n <= r.size -> (r.extract 0 n).data.toList = r.data.toList.take n := fun n hn => by
   rw [ByteArray.data_extract, Array.toList_extract, List.extract_eq_take_drop, List.drop_zero, Nat.sub_zero]
 have hn1 : ∀ (n : Nat), (r.extract n r.size).data.toList = r.data.toList.drop n := fun n => by
   rw [ByteArray.data_extract, Array.toList_extract, List.extract_eq_take_drop]
   exact List.take_of_length_le (by rw [List.length_drop]; exact Nat.le_refl _)
 have hlen : r.data.toList.length = r.size := rfl
 rcases Xv hk with ⟨q1, q2, q3, q4⟩ | ⟨q1, q2, q3, q4⟩
 · rcases q1 with q1 | q1
   · have ei : inC (cv p) = (cv p).n := by unfold inC; rw [q1]; rfl
     have eo : QO (cv p) = (cv p).n := by unfold QO; rw [q1]; rfl
     rw [ei] at hr
     rw [eo] at ho
     have mm := JCL (n := (cv p).n) (m := zi r.size) (by omega) (by simp only [zi]; omega)
     have hx := hn0 (cv p).n.toNat (by omega)
     rw [q1] at h ⊢
     simp only [mm, hx]
     refine (Jd rfl).trans ((Ja hc).trans ((Ja rfl).trans ?_))
     refine (Ja (by simp [zi]; omega)).trans ((Ja ?_).trans ((Ja (by simp [zi]; omega)).trans ?_))
     · simp [Je]; omega
     · exact h _ _ _ ⟨hn1 _, rfl⟩
   · have ei : inC (cv p) = (cv p).n := by unfold inC; rw [q1]; rfl
     rw [ei] at hr
     have mm := JCL (n := (cv p).n) (m := zi r.size) (by omega) (by simp only [zi]; omega)
     rw [q1] at h ⊢
     simp only [mm]
     refine (Jd rfl).trans ((Ja hc).trans ((Jd rfl).trans ((Jd rfl).trans ((Ja rfl).trans ?_))))
     refine (Ja (by simp [zi]; omega)).trans ?_
     exact h _ _ _ ⟨hn1 _, rfl⟩
 · have eo : QO (cv p) = (cv p).s.size := by unfold QO; rw [q1]; rfl
   rw [eo] at ho
   have hs : (cv p).s.data.toList.length = (cv p).s.size := rfl
   rw [q1] at h ⊢
   refine (Ja rfl).trans ((Ja hc).trans ((Jd rfl).trans ((Ja rfl).trans ((Ja hc).trans ?_))))
   refine (Ja ?_).trans ?_
   · simp [Je]; omega
   · exact h _ _ _ ⟨rfl, rfl⟩
theorem Jq1 (l : List PV) (ha : aOk l = true) (f : Nat) (k0 : ByteArray -> Int -> OR) (z fl : Bool) : ∀ (d i n : Nat) (r : ByteArray) (out : List UInt8) (q : Bool), i + d = l.length -> d < n -> inL (l.drop i) <= r.size -> (out.length : Int) + outL (l.drop i) <= 1000 ->
  Wb f k0 n r z fl l out.length (i : Int) q (ob out) = k0 ⟨⟨out ++ Jgn (l.drop i) r.data.toList⟩⟩ 0
 | 0, i, n + 1, r, out, q, hi, hn, h3, h4 => by
   rw [List.drop_of_length_le (by omega)]
   obtain rfl : i = l.length := by omega
   simp only [Wb, Jgn, List.append_nil]
   exact JzQ f _ k0 r z fl l out q
 | d + 1, i, n + 1, r, out, q, hi, hn, h3, h4 => by
   obtain ⟨h1, hl, hck⟩ := Q8.1 ha
   have hck' : ∀ q ∈ l.drop (i + 1), ckC (cv q) = 0 := fun q hq => hck q (List.mem_of_mem_drop hq)
   have hin := Yc hck'
   have hon := Yy hck'
   have hk := (Y2 ha (i := i) (by omega)).2
   rw [JY (by omega)] at h3 h4 ⊢
   simp only [Wb, Jgn]
   simp only [inL, outL] at h3 h4
   have i1 := JfC hk
   have o1 := JbY hk
   refine Jwh f _ k0 r z fl l ha out q i (by omega) _ (by omega) (by omega) fun r2 o2 q2 h => ?_
   generalize l.getD i .top = p at *
   have sz : ∀ x : ByteArray, x.data.toList.length = x.size := fun _ => rfl
   rcases Xv hk with ⟨q1, q3, q4, q5⟩ | ⟨q1, q3, q4, q5⟩
   · rcases q1 with q1 | q1
     · have ei : inC (cv p) = (cv p).n := by unfold inC; rw [q1]; rfl
       have eo : QO (cv p) = (cv p).n := by unfold QO; rw [q1]; rfl
       rw [q1] at h ⊢
       obtain ⟨e1, e2⟩ := h
       have l1 := congrArg List.length e1
       have l2 := congrArg List.length e2
       rw [List.length_drop, sz, sz] at l1
       rw [List.length_append, List.length_take, sz] at l2
       rw [Jq1 l ha f k0 z fl d (i + 1) n r2 o2 q2 (by omega) (by omega) (by omega) (by omega), e1, e2, List.append_assoc]
       rfl
     · have ei : inC (cv p) = (cv p).n := by unfold inC; rw [q1]; rfl
       rw [q1] at h ⊢
       obtain ⟨e1, e2⟩ := h
       have l1 := congrArg List.length e1
       rw [List.length_drop, sz, sz] at l1
       subst e2
       rw [Jq1 l ha f k0 z fl d (i + 1) n r2 _ q2 (by omega) (by omega) (by omega) (by omega), e1]
       rfl
   · have ei : inC (cv p) = 0 := by unfold inC; rw [q1]; rfl
     have eo : QO (cv p) = (cv p).s.size := by unfold QO; rw [q1]; rfl
     rw [q1] at h ⊢
     obtain ⟨e1, e2⟩ := h
     have l1 := congrArg List.length e1
     have l2 := congrArg List.length e2
     rw [sz, sz] at l1
     rw [List.length_append, sz] at l2
     rw [Jq1 l ha f k0 z fl d (i + 1) n r2 o2 q2 (by omega) (by omega) (by omega) (by omega), e1, e2, List.append_assoc]
     rfl
theorem JGV (f : Nat) (doc : ByteArray) (z fl : Bool) (o : List PV) (k : KR) : g92 f doc z fl o k =
  bif aOk o then
   bif !(FloatKind.f64.format.order (fOf .f64 (zi doc.size)) (szI o) == some Ordering.eq && FloatKind.f64.format.order (szO o) (szO o) == some Ordering.eq) then k ⟨.tup [.sc (.string (ByteArray.mk (Array.mk []))), .sc (.int .i64 7)], [], []⟩
   else bif FloatKind.f64.format.order (szO o) 4638144666238189568 == some Ordering.gt then k ⟨.tup [.sc (.string (ByteArray.mk (Array.mk []))), .sc (.int .i64 5)], [], []⟩
   else XN f (Wb f (fun x y => k ⟨.tup [.sc (.string x), .sc (.int .i64 y)], [], []⟩) f) (fun x y => k ⟨.tup [.sc (.string x), .sc (.int .i64 y)], [], []⟩) doc z fl o 0 0 true []
  else none := by
 unfold g92 Jf2 YL YK Jc6 WS XN Wp Qo Qn Q4 J0
 simp only [Nat.zero_add]
 rfl
theorem JNy (a b : Int) : compare a b = if a < b then .lt else if a = b then .eq else .gt := rfl
theorem JjF {a b : Int} : compare a b = .eq ↔ a = b := by
 rw [JNy]
 by_cases h : a < b
 · rw [if_pos h]; exact ⟨fun e => (nomatch e), fun e => by omega⟩
 · rw [if_neg h]
   by_cases g : a = b
   · rw [if_pos g]; exact ⟨fun _ => g, fun _ => rfl⟩
   · rw [if_neg g]; exact ⟨fun e => (nomatch e), fun e => absurd e g⟩
theorem Jq2 {a b : Int} : compare a b = .gt ↔ a > b := by
 rw [JNy]
 by_cases h : a < b
 · rw [if_pos h]; exact ⟨fun e => (nomatch e), fun e => by omega⟩
 · rw [if_neg h]
   by_cases g : a = b
   · rw [if_pos g]; exact ⟨fun e => (nomatch e), fun e => by omega⟩
   · rw [if_neg g]; exact ⟨fun _ => by omega, fun _ => rfl⟩
theorem JRd : fz 120 = 4638144666238189568 := by decide +kernel
def JoJ : Jy
 | [.sc (.string doc), .ro 53 z f o], [], k => bif aOk o && decide (doc.size <= 10000) then k ⟨.tup [.sc (.string (apD ⟨doc, o⟩)), .sc (.int .i64 (apE ⟨doc, o⟩))], [], []⟩ else none
 | _, _, _ => none
def JNz : Sig := { own := [], run := JoJ }
theorem JGW (doc : ByteArray) (z f : Bool) (o : List PV) (h : aOk o = true) (hd : doc.size <= 10000) (k : KR) : g92 50 doc z f o k = k ⟨.tup [.sc (.string (apD ⟨doc, o⟩)), .sc (.int .i64 (apE ⟨doc, o⟩))], [], []⟩ := by
 obtain ⟨h1, h2, h3⟩ := Q8.1 h
 have p53 : (2 : Nat) ^ 53 = 9007199254740992 := by decide
 have hle := Jn4 h3
 have hI := Yc h3
 have hO := Yy h3
 have hOle : ∀ {l : List PV}, (∀ p ∈ l, ckC (cv p) = 0) -> outL l <= 120 * l.length := by
   intro l
   induction l with
   | nil => intro _; simp [outL]
   | cons p l ih =>
     intro h
     have h1 := (JbY (h p List.mem_cons_self)).2
     have h2 := ih fun q hq => h q (List.mem_cons_of_mem _ hq)
     simp only [outL, List.length_cons]; omega
 have hOl := hOle h3
 rw [JGV, Jn3, Jva, Jk2, Jwa, Jwc, Jwd, ← JRd]
 have r1 : FloatKind.f64.format.order (fz (zi doc.size)) (fz (inL o)) = some (compare (zi doc.size) (inL o)) := JfZ (by rw [p53]; simp only [zi]; omega) (by rw [p53]; omega)
 have r2 : FloatKind.f64.format.order (fz (outL o)) (fz (outL o)) = some (compare (outL o) (outL o)) := JfZ (by rw [p53]; omega) (by rw [p53]; omega)
 have r3 : FloatKind.f64.format.order (fz (outL o)) (fz 120) = some (compare (outL o) 120) := JfZ (by rw [p53]; omega) (by rw [p53]; decide)
 have r4 : compare (outL o) (outL o) = .eq := JjF.2 rfl
 rw [r1, r2, r3, r4]
 refine (Ja h).trans ?_
 by_cases hi : inL o = zi doc.size
 · have c1 : compare (zi doc.size) (inL o) = .eq := JjF.2 hi.symm
   have c2 : (inL o != zi doc.size) = false := by rw [hi]; simp
   rw [c1, c2]
   refine (Jd rfl).trans ?_
   by_cases ho : outL o > 120
   · have c3 : compare (outL o) 120 = .gt := Jq2.2 ho
     rw [c3, decide_eq_true ho]
     rfl
   · have c3 : (some (compare (outL o) 120) == some Ordering.gt) = false := beq_false_of_ne fun e => ho (Jq2.1 (Option.some.inj e))
     rw [c3, decide_eq_false ho]
     refine (Jd rfl).trans ?_
     have := Jq1 o h 50 (fun x y => k ⟨.tup [.sc (.string x), .sc (.int .i64 y)], [], []⟩) z f o.length 0 51 doc [] true (by omega) (by omega) (by rw [List.drop_zero, hi]; simp [zi]) (by rw [List.drop_zero]; simp; omega)
     simp only [Wb, List.drop_zero, List.nil_append] at this
     have e2 : apl o doc 0 (ByteArray.mk (Array.mk [])) = ⟨⟨Jgn o doc.data.toList⟩⟩ := JGU (by rw [Jcl, List.drop_zero]; rfl)
     refine this.trans ?_
     rw [← e2]; rfl
 · have c1 : (some (compare (zi doc.size) (inL o)) == some Ordering.eq) = false := beq_false_of_ne fun e => hi (JjF.1 (Option.some.inj e)).symm
   have c2 : (inL o != zi doc.size) = true := by simp [bne, hi]
   rw [c1, c2]
   rfl
theorem JNA : Jc tau Tryz.prog 92 JNz := Jc.mk' fun xs es k res hl hr => by
 change JoJ xs es k = some res at hr
 unfold JoJ at hr
 split at hr
 · rename_i doc z f o
   obtain ⟨hc, hr⟩ := Ju hr
   have hd := (Bool.and_eq_true _ _ ▸ hc).2
   have hc := (Bool.and_eq_true _ _ ▸ hc).1
   exact J1 Jn Jwe Jo JNv JNw (JzO (Jf1 50)) [.ro, .ro] 0 0 (JRb 50) hl rfl ((e92 50 doc z f o k).trans ((JGW doc z f o hc (of_decide_eq_true hd) k).trans hr))
 · cases hr
def N51 : Nat := 79
def F51 : Fns := Jr 94 JNl (Jr 93 JNj (Jr 92 JNz (Jr 91 JxP (F0))))
theorem Jwi : Jp tau Tryz.prog F51 := ((((Js).add Jtq JDT).add JNA JRc).add JNk JQ3).add JNm JQ6
def Jlg : Code := Qd (Tryz.f51.body.get!) [1, 0]
def Jf3 : Nm := [(0, .any), (1, .any)]
def JoK : Nm := [(4, .any)]
def Jq3 : An := (.seq (.seq .leaf (.block none (.seq .leaf (.cond (.seq (.seq .leaf (.seq .leaf (.cond (.seq .leaf .leaf) .leaf))) (.seq .leaf (.seq .leaf .leaf))) (.seq .leaf (.cond (.seq (.seq .leaf (.cond .leaf .leaf)) (.seq .leaf (.seq .leaf .leaf))) .leaf)))))) (.seq (.seq .leaf (.cond .leaf .leaf)) (.seq .leaf (.seq (.seq .leaf .leaf) (.seq .leaf (.seq .leaf .leaf))))))
def JzR (r0 : Jsm) : An := (.seq .leaf (.ssum Jf3 N51 (Jq3) r0))
abbrev Jwj := Bool -> Bool -> List PV -> Int -> Int -> ByteArray -> Bool -> Bool -> List PV -> Int -> List PV -> Int -> Int -> Int -> Int -> List PV -> Int -> Bool -> Bool -> List PV -> Int -> Int -> OR
def Jd8 (f : Nat) (rc : Jwj) (k0 : Int -> Int -> Int -> ByteArray -> Bool -> Bool -> List PV -> Int -> List PV -> Int -> Int -> Int -> Int -> List PV -> Int -> Bool -> Bool -> List PV -> Int -> Int -> OR) (v0 v1 : Bool) (v2 : List PV) (v3 v4 : Int) (v5 : ByteArray) (v6 v7 : Bool) (v8 : List PV) (v9 : Int) (v10 : List PV) (v11 v12 v13 v14 : Int) (v15 : List PV) (v16 : Int) (v17 v18 : Bool) (v19 : List PV) (v20 v21 : Int) : OR := k0 (1) v3 v4 v5 v6 v7 v8 v9 v10 v11 v12 v13 v14 v15 v16 v17 v18 v19 v20 v21
def Jc7 (f : Nat) (k0 : Int -> Int -> Int -> ByteArray -> Bool -> Bool -> List PV -> Int -> List PV -> Int -> Int -> Int -> Int -> List PV -> Int -> Bool -> Bool -> List PV -> Int -> Int -> OR) : Nat -> Jwj
 | 0 => fun _ _ _ _ _ _ _ _ _ _ _ _ _ _ _ _ _ _ _ _ _ _ => none
 | n + 1 => Jd8 f (Jc7 f k0 n) k0
def Jcm (k : Kont) := fun x0 x1 x2 x3 x4 x5 x6 x7 x8 x9 x10 x11 x12 x13 x14 x15 x16 x17 x18 x19 => k Ex.ret (Ji JoK N51 [.sc (.int .i64 x0)] [(0, .box false 114 (PV.st 114 [.st 56 [.st 46 [.sc (.int .i64 x1), .sc (.int .i64 x2)], .sc (.string x3), .ro 67 x4 x5 x6, .sc (.int .i64 x7), .ar 28 x8], .st 105 [.st 67 [.sc (.int .i64 x9), .sc (.int .i64 x10)], .sc (.int .i64 x11), .sc (.int .i64 x12), .ar 28 x13, .sc (.int .i64 x14), .ro 53 x15 x16 x17, .st 67 [.sc (.int .i64 x18), .sc (.int .i64 x19)]]]))])
def JoL (f : Nat) (k : Kont) (n : Nat) (v0 v1 : Bool) (v2 : List PV) (v3 v4 : Int) (v5 : ByteArray) (v6 v7 : Bool) (v8 : List PV) (v9 : Int) (v10 : List PV) (v11 v12 v13 v14 : Int) (v15 : List PV) (v16 : Int) (v17 v18 : Bool) (v19 : List PV) (v20 v21 : Int) : OR := Q5 tau 1 Jf3 (hasLabel Jlg) (fun l s k => Qh tau F51 1 0 Jlg (Jq3 ) l s k) n 0 (Ji Jf3 N51 [.ptr 0 [], .ro 53 v0 v1 v2] [(0, .box false 114 (PV.st 114 [.st 56 [.st 46 [.sc (.int .i64 v3), .sc (.int .i64 v4)], .sc (.string v5), .ro 67 v6 v7 v8, .sc (.int .i64 v9), .ar 28 v10], .st 105 [.st 67 [.sc (.int .i64 v11), .sc (.int .i64 v12)], .sc (.int .i64 v13), .sc (.int .i64 v14), .ar 28 v15, .sc (.int .i64 v16), .ro 53 v17 v18 v19, .st 67 [.sc (.int .i64 v20), .sc (.int .i64 v21)]]]))]) (JG tau 1 JoK k)
theorem JzS (f : Nat) (k : Kont) (n : Nat) : JoL f k (n + 1) = Jd8 f (JoL f k n) (Jcm k) := by kernel_rfl
theorem Jq4 (f : Nat) (k : Kont) : ∀ n, JoL f k n = Jc7 f (Jcm k) n
 | 0 => rfl
 | n + 1 => (JzS f k n).trans (congrArg (fun r => Jd8 f r (Jcm k)) (Jq4 f k n))
def Jf4 (f : Nat) : Nat -> List PV -> List (Nat × Ent) -> Kont -> OR
 | 0, [.ptr 0 [],
 PV.ro 53 v0 v1
  v2], [(0,
  Ent.box false 114
   (PV.st 114
    [.st 56 [.st 46 [.sc (.int .i64 v3), .sc (.int .i64 v4)], .sc (.string v5), .ro 67 v6 v7 v8, .sc (.int .i64 v9), .ar 28 v10],
     PV.st 105
      [.st 67 [.sc (.int .i64 v11), .sc (.int .i64 v12)], .sc (.int .i64 v13), .sc (.int .i64 v14), .ar 28 v15,
       .sc (.int .i64 v16), .ro 53 v17 v18 v19,
       PV.st 67
        [.sc (.int .i64 v20),
         PV.sc
          (Value.int IntKind.i64
           v21)]]]))], k => Jc7 f (Jcm k) f v0 v1 v2 v3 v4 v5 v6 v7 v8 v9 v10 v11 v12 v13 v14 v15 v16 v17 v18 v19 v20 v21
 | _, _, _, _ => none
theorem JGX (f : Nat) : Jf Jlg Jq3 = [] := by kernel_rfl
theorem JGY (f : Nat) : (Item.s Jlg Jf3 N51 (Jf4 f)).Ok tau Tryz.prog 1 := X0 Jn Jwi Jo (x := Jq3) (nm2 := JoK) (Jl _ _ (by rw [JGX f]; intro q hq; cases hq)) fun l vs hp k res hr => by
 unfold Jf4 at hr
 split at hr
 · rw [← Jq4 f] at hr; exact ⟨f, 0, hr⟩
 · cases hr
def g51 (f : Nat) (y0 y1 : Int) (y2 : ByteArray) (y3 y4 : Bool) (y5 : List PV) (y6 : Int) (y7 : List PV) (y8 y9 y10 y11 : Int) (y12 : List PV) (y13 : Int) (y14 y15 : Bool) (y16 : List PV) (y17 y18 : Int) (o_z o_f : Bool) (o : List PV) (k : KR) : OR := bif y13 == 1 then bif cOk o then bif ckO o != 0 then k (Res.mk (.sc (.int .i64 (ckO o))) [.box false 114 (PV.st 114 [.st 56 [.st 46 [.sc (.int .i64 y0), .sc (.int .i64 y1)], .sc (.string y2), .ro 67 y3 y4 y5, .sc (.int .i64 y6), .ar 28 y7], .st 105 [.st 67 [.sc (.int .i64 y8), .sc (.int .i64 y9)], .sc (.int .i64 y10), .sc (.int .i64 y11), .ar 28 y12, .sc (.int .i64 y13), .ro 53 y14 y15 y16, .st 67 [.sc (.int .i64 y17), .sc (.int .i64 y18)]]])] []) else bif aOk o && decide (y2.size <= 10000) then k (Res.mk (.sc (.int .i64 (apE (AP.mk y2 o)))) [.box false 114 (PV.st 114 [.st 56 [.st 46 [.sc (.int .i64 y0), .sc (.int .i64 y1)], .sc (.string (apD (AP.mk y2 o))), .ro 67 y3 y4 y5, .sc (.int .i64 y6), .ar 28 y7], .st 105 [.st 67 [.sc (.int .i64 y8), .sc (.int .i64 y9)], .sc (.int .i64 y10), .sc (.int .i64 y11), .ar 28 y12, .sc (.int .i64 y13), .ro 53 y14 y15 y16, .st 67 [.sc (.int .i64 y17), .sc (.int .i64 y18)]]])] []) else none else none else bif y13 == 2 then bif decide (zi o.length > 0) then Jc7 f (fun x0_0 x1_0 x2_0 JP x4_0 x5_0 x6_0 x7_0 x8_0 x9_0 x10_0 x11_0 x12_0 x13_0 x14_0 x15_0 Q9 x17_0 x18_0 XA => k (Res.mk (.sc (.int .i64 x0_0)) [.box false 114 (PV.st 114 [.st 56 [.st 46 [.sc (.int .i64 x1_0), .sc (.int .i64 x2_0)], .sc (.string JP), .ro 67 x4_0 x5_0 x6_0, .sc (.int .i64 x7_0), .ar 28 x8_0], .st 105 [.st 67 [.sc (.int .i64 x9_0), .sc (.int .i64 x10_0)], .sc (.int .i64 x11_0), .sc (.int .i64 x12_0), .ar 28 x13_0, .sc (.int .i64 x14_0), .ro 53 x15_0 Q9 x17_0, .st 67 [.sc (.int .i64 x18_0), .sc (.int .i64 XA)]]])] [])) f o_z o_f o y0 y1 y2 y3 y4 y5 y6 y7 y8 y9 y10 y11 y12 y13 y14 y15 y16 y17 y18 else bif pOk y5 && zOk y3 y5 then k (Res.mk (.sc (.int .i64 (adE (PH.mk y5 (AV.mk y17 y18))))) [.box false 114 (PV.st 114 [.st 56 [.st 46 [.sc (.int .i64 y0), .sc (.int .i64 y1)], .sc (.string y2), .ro 67 (adF (PH.mk y5 (AV.mk y17 y18)) && y3) (adF (PH.mk y5 (AV.mk y17 y18)) && y3) (adL (PH.mk y5 (AV.mk y17 y18))), .sc (.int .i64 y6), .ar 28 y7], .st 105 [.st 67 [.sc (.int .i64 y8), .sc (.int .i64 y9)], .sc (.int .i64 y10), .sc (.int .i64 y11), .ar 28 y12, .sc (.int .i64 y13), .ro 53 y14 y15 y16, .st 67 [.sc (.int .i64 y17), .sc (.int .i64 y18)]]])] []) else none else bif decide (zi o.length > 0) then Jc7 f (fun x0_1 x1_1 x2_1 Jf9 x4_1 x5_1 x6_1 x7_1 x8_1 x9_1 x10_1 x11_1 x12_1 x13_1 x14_1 x15_1 x16_1 x17_1 x18_1 x19_1 => k (Res.mk (.sc (.int .i64 x0_1)) [.box false 114 (PV.st 114 [.st 56 [.st 46 [.sc (.int .i64 x1_1), .sc (.int .i64 x2_1)], .sc (.string Jf9), .ro 67 x4_1 x5_1 x6_1, .sc (.int .i64 x7_1), .ar 28 x8_1], .st 105 [.st 67 [.sc (.int .i64 x9_1), .sc (.int .i64 x10_1)], .sc (.int .i64 x11_1), .sc (.int .i64 x12_1), .ar 28 x13_1, .sc (.int .i64 x14_1), .ro 53 x15_1 x16_1 x17_1, .st 67 [.sc (.int .i64 x18_1), .sc (.int .i64 x19_1)]]])] [])) f o_z o_f o y0 y1 y2 y3 y4 y5 y6 y7 y8 y9 y10 y11 y12 y13 y14 y15 y16 y17 y18 else bif pOk y5 && zOk y3 y5 then k (Res.mk (.sc (.int .i64 (rmE (PH.mk y5 (AV.mk y17 y18))))) [.box false 114 (PV.st 114 [.st 56 [.st 46 [.sc (.int .i64 y0), .sc (.int .i64 y1)], .sc (.string y2), .ro 67 (rmZ (PH.mk y5 (AV.mk y17 y18)) y3) (rmF (PH.mk y5 (AV.mk y17 y18)) y3) (rmL (PH.mk y5 (AV.mk y17 y18))), .sc (.int .i64 y6), .ar 28 y7], .st 105 [.st 67 [.sc (.int .i64 y8), .sc (.int .i64 y9)], .sc (.int .i64 y10), .sc (.int .i64 y11), .ar 28 y12, .sc (.int .i64 y13), .ro 53 y14 y15 y16, .st 67 [.sc (.int .i64 y17), .sc (.int .i64 y18)]]])] []) else none
theorem e51 (f : Nat) (y0 y1 : Int) (y2 : ByteArray) (y3 y4 : Bool) (y5 : List PV) (y6 : Int) (y7 : List PV) (y8 y9 y10 y11 : Int) (y12 : List PV) (y13 : Int) (y14 y15 : Bool) (y16 : List PV) (y17 y18 : Int) (o_z o_f : Bool) (o : List PV) (k : KR) : JI tau F51 Tryz.f51 (Tryz.f51.body.get!) (JzR (Jf4 f)) [.ro] 0 [.ptr 0 [], .ro 53 o_z o_f o] [.box false 114 (.st 114 [.st 56 [.st 46 [.sc (.int .i64 y0), .sc (.int .i64 y1)], .sc (.string y2), .ro 67 y3 y4 y5, .sc (.int .i64 y6), .ar 28 y7], .st 105 [.st 67 [.sc (.int .i64 y8), .sc (.int .i64 y9)], .sc (.int .i64 y10), .sc (.int .i64 y11), .ar 28 y12, .sc (.int .i64 y13), .ro 53 y14 y15 y16, .st 67 [.sc (.int .i64 y17), .sc (.int .i64 y18)]]])] k = g51 f y0 y1 y2 y3 y4 y5 y6 y7 y8 y9 y10 y11 y12 y13 y14 y15 y16 y17 y18 o_z o_f o k := by kernel_rfl
theorem JRe (f : Nat) : Jf (Tryz.f51.body.get!) (JzR (Jf4 f)) = [.s Jlg Jf3 N51 (Jf4 f)] := by kernel_rfl
theorem JRf (f : Nat) : ∀ q ∈ Jf (Tryz.f51.body.get!) (JzR (Jf4 f)), q.Ok tau Tryz.prog 1 := by rw [JRe f]; exact JJ (JGY f) (fun _ h => nomatch h)
theorem JNB : Tryz.prog.funcs[51]? = some Tryz.f51 := by kernel_rfl
theorem JNC : Tryz.f51.body = some (Tryz.f51.body.get!) := by kernel_rfl
theorem JRg : Enters Tryz.prog 51 := enters_of JNB (by kernel_rfl) JNC
structure CX where
 (kd : Int) (w : AV) (doc : ByteArray) (l o : List PV)
def JzT (x : CX) : Int := bif x.kd == 1 then (bif ckO x.o != 0 then ckO x.o else apE ⟨x.doc, x.o⟩) else bif decide (zi x.o.length > 0) then 1 else bif x.kd == 2 then adE ⟨x.l, x.w⟩ else rmE ⟨x.l, x.w⟩
def JzU (x : CX) : ByteArray := bif x.kd == 1 then (bif ckO x.o != 0 then x.doc else apD ⟨x.doc, x.o⟩) else x.doc
def JzV (x : CX) : List PV := bif x.kd == 1 then x.l else bif decide (zi x.o.length > 0) then x.l else bif x.kd == 2 then adL ⟨x.l, x.w⟩ else rmL ⟨x.l, x.w⟩
def JzW (x : CX) (z : Bool) : Bool := bif x.kd == 1 then z else bif decide (zi x.o.length > 0) then z else bif x.kd == 2 then (adF ⟨x.l, x.w⟩ && z) else rmZ ⟨x.l, x.w⟩ z
def JGZ (x : CX) (z f : Bool) : Bool := bif x.kd == 1 then f else bif decide (zi x.o.length > 0) then f else bif x.kd == 2 then (adF ⟨x.l, x.w⟩ && z) else rmF ⟨x.l, x.w⟩ z
def ccE : CX -> Int := hid JzT
def ccD : CX -> ByteArray := hid JzU
def ccL : CX -> List PV := hid JzV
def ccZ : CX -> Bool -> Bool := hid JzW
def ccF : CX -> Bool -> Bool -> Bool := hid JGZ
theorem Jwk (x : CX) : ccE x = JzT x := by rw [ccE, hid_eq]
theorem Jwl (x : CX) : ccD x = JzU x := by rw [ccD, hid_eq]
theorem Jwm (x : CX) : ccL x = JzV x := by rw [ccL, hid_eq]
theorem Jwn (x : CX) (z : Bool) : ccZ x z = JzW x z := by rw [ccZ, hid_eq]
theorem JG0 (x : CX) (z f : Bool) : ccF x z f = JGZ x z f := by rw [ccF, hid_eq]
def doP (ih iN : Int) (doc : ByteArray) (z f : Bool) (l : List PV) (ver : Int) (hash : List PV) (aD aU dI dV : Int) (dh : List PV) (kd : Int) (pz pf : Bool) (po : List PV) (wD wU : Int) : PV :=
 .st 114 [.st 56 [.st 46 [.sc (.int .i64 ih), .sc (.int .i64 iN)], .sc (.string doc), .ro 67 z f l, .sc (.int .i64 ver), .ar 28 hash],
  .st 105 [.st 67 [.sc (.int .i64 aD), .sc (.int .i64 aU)], .sc (.int .i64 dI), .sc (.int .i64 dV), .ar 28 dh, .sc (.int .i64 kd), .ro 53 pz pf po, .st 67 [.sc (.int .i64 wD), .sc (.int .i64 wU)]]]
theorem JG1 (ih iN : Int) (doc : ByteArray) (z f : Bool) (l : List PV) (ver : Int) (hash : List PV) (aD aU dI dV : Int) (dh : List PV) (kd : Int) (pz pf : Bool) (po : List PV) (wD wU : Int) (oz of : Bool) (o : List PV)
  (ho : cOk o = true) (hd : doc.size <= 10000) (hl : pOk l = true) (hz : zOk z l = true) (k : KR) :
  g51 1 ih iN doc z f l ver hash aD aU dI dV dh kd pz pf po wD wU oz of o k =
   k ⟨.sc (.int .i64 (ccE ⟨kd, ⟨wD, wU⟩, doc, l, o⟩)), [.box false 114 (doP ih iN (ccD ⟨kd, ⟨wD, wU⟩, doc, l, o⟩) (ccZ ⟨kd, ⟨wD, wU⟩, doc, l, o⟩ z) (ccF ⟨kd, ⟨wD, wU⟩, doc, l, o⟩ z f) (ccL ⟨kd, ⟨wD, wU⟩, doc, l, o⟩) ver hash aD aU dI dV dh kd pz pf po wD wU)], []⟩ := by
 have hlz : (pOk l && zOk z l) = true := by rw [hl, hz]; rfl
 unfold g51 doP
 rw [Jwk, Jwl, Jwm, Jwn, JG0, JzT, JzU, JzV, JzW, JGZ]
 simp only [Jc7, Jd8]
 cases h1 : (kd == 1) with
 | true =>
  simp only [cond_true]
  refine (Ja ho).trans ?_
  cases h2 : (ckO o != 0) with
  | true => rfl
  | false =>
   refine (Jd rfl).trans (Ja ?_)
   rw [JnY ho (by simpa using h2), decide_eq_true hd]; rfl
 | false =>
  simp only [cond_false]
  cases h3 : decide (zi o.length > 0) with
  | true => cases h2 : (kd == 2) <;> rfl
  | false =>
   cases h2 : (kd == 2) <;> exact Ja hlz
def JoM : Jy
 | [.ptr 0 [], .ro 53 oz of o], [.box false 114 (.st 114 [.st 56 [.st 46 [.sc (.int .i64 ih), .sc (.int .i64 iN)], .sc (.string doc), .ro 67 z f l, .sc (.int .i64 ver), .ar 28 hash], .st 105 [.st 67 [.sc (.int .i64 aD), .sc (.int .i64 aU)], .sc (.int .i64 dI), .sc (.int .i64 dV), .ar 28 dh, .sc (.int .i64 kd), .ro 53 pz pf po, .st 67 [.sc (.int .i64 wD), .sc (.int .i64 wU)]]])], k =>
  bif cOk o && (decide (doc.size <= 10000) && (pOk l && zOk z l)) then k ⟨.sc (.int .i64 (ccE ⟨kd, ⟨wD, wU⟩, doc, l, o⟩)), [.box false 114 (.st 114 [.st 56 [.st 46 [.sc (.int .i64 ih), .sc (.int .i64 iN)], .sc (.string (ccD ⟨kd, ⟨wD, wU⟩, doc, l, o⟩)), .ro 67 (ccZ ⟨kd, ⟨wD, wU⟩, doc, l, o⟩ z) (ccF ⟨kd, ⟨wD, wU⟩, doc, l, o⟩ z f) (ccL ⟨kd, ⟨wD, wU⟩, doc, l, o⟩), .sc (.int .i64 ver), .ar 28 hash], .st 105 [.st 67 [.sc (.int .i64 aD), .sc (.int .i64 aU)], .sc (.int .i64 dI), .sc (.int .i64 dV), .ar 28 dh, .sc (.int .i64 kd), .ro 53 pz pf po, .st 67 [.sc (.int .i64 wD), .sc (.int .i64 wU)]]])], []⟩ else none
 | _, _, _ => none
def JND : Sig := { own := [true], run := JoM }
theorem JNE : Jc tau Tryz.prog 51 JND := Jc.mk' fun xs es k res hl hr => by
 change JoM xs es k = some res at hr
 unfold JoM at hr
 split at hr
 · rename_i oz of o ih iN doc z f l ver hash aD aU dI dV dh kd pz pf po wD wU
   obtain ⟨hc, hr⟩ := Ju hr
   simp only [Bool.and_eq_true, decide_eq_true_eq] at hc
   obtain ⟨c1, c2, c3, c4⟩ := hc
   exact J1 Jn Jwi Jo JNB JNC (JzR (Jf4 1)) [.ro] 1 0 (JRf 1) hl rfl ((e51 1 ih iN doc z f l ver hash aD aU dI dV dh kd pz pf po wD wU oz of o k).trans ((JG1 ih iN doc z f l ver hash aD aU dI dV dh kd pz pf po wD wU oz of o c1 c2 c3 c4 k).trans hr))
 · cases hr
def F21 : Fns := Jr 53 JKk (Jr 52 JDo (Jr 51 JND (Jr 50 JNh (Jr 49 s49 (Jr 48 JLD (F0))))))
theorem JG2 : Jp tau Tryz.prog F21 := ((((((Js).add JLE JPY).add JQP JQO).add JNi JQY).add JNE JRg).add JAr JH6).add JKl JPw
def JG3 : An := (.seq .leaf (.seq .leaf (.seq (.seq .leaf (.cond (.seq .leaf .leaf) .leaf)) (.seq .leaf (.seq (.block none (.seq .leaf (.cond (.seq .leaf .leaf) (.seq .leaf (.cond (.seq .leaf .leaf) .leaf))))) (.seq (.seq .leaf (.seq .leaf (.cond (.seq .leaf .leaf) .leaf))) (.seq (.seq .leaf (.cond (.seq .leaf .leaf) .leaf)) (.seq .leaf (.seq .leaf (.seq .leaf .leaf))))))))))
abbrev QA (y0 : Int) (y1 : Int) := [PV.sc (.int .i64 y0), PV.sc (.int .i64 y1)]
abbrev Yf (y7 : List PV) (y10 : List PV) (y11 : List PV) (e_At : Int) (e_Op : List PV) := (JH [PV.ro 5 false false (List.take 32 y7), PV.ro 5 false false (pu IntKind.u8 (JZ (EV.mk y10 y11 e_At e_Op)))])
abbrev YM (y2 : ByteArray) (y5 : List PV) (y10 : List PV) (e_Op : List PV) := (CX.mk (dF 4 y10) (AV.mk (dF 5 y10) (dF 6 y10)) y2 (List.take (0 + y5.length) y5) e_Op)
abbrev Jf5 (y0 : Int) (y1 : Int) (y2 : ByteArray) (y5 : List PV) (y6 : Int) (y7 : List PV) := (Res.mk (PV.tup [PV.st 56 [PV.st 46 (QA y0 y1), PV.sc (.string y2), PV.ro 67 false false (List.take (0 + y5.length) y5), PV.sc (.int .i64 y6), PV.ar 28 y7], PV.sc (.int .i64 15)]) [] [])
abbrev Jf6 (y0 : Int) (y1 : Int) (y2 : ByteArray) (y6 : Int) (y7 : List PV) := (Res.mk (PV.tup [PV.st 56 [PV.st 46 (QA y0 y1), PV.sc (.string y2), PV.ro 67 true true [], PV.sc (.int .i64 y6), PV.ar 28 y7], PV.sc (.int .i64 15)]) [] [])
abbrev YN (y2 : ByteArray) (y10 : List PV) (e_Op : List PV) := (CX.mk (dF 4 y10) (AV.mk (dF 5 y10) (dF 6 y10)) y2 [] e_Op)
def g21 (f : Nat) (y0 y1 : Int) (y2 : ByteArray) (y3 y4 : Bool) (y5 : List PV) (y6 : Int) (y7 : List PV) (y8 y9 : Bool) (y10 y11 : List PV) (e_At : Int) (y12 y13 : Bool) (e_Op y14 y15 : List PV) (k : KR) : OR := bif slB y8 y10 && byB y10 then bif dE y10 != 0 then bif y3 then k (Res.mk (.tup [.st 56 [.st 46 (QA y0 y1), .sc (.string y2), .ro 67 true true [], .sc (.int .i64 y6), .ar 28 y7], .sc (.int .i64 (dE y10))]) [] []) else bif Je (0 + y5.length) 16 && true then k (Res.mk (.tup [.st 56 [.st 46 (QA y0 y1), .sc (.string y2), .ro 67 false false (List.take (0 + y5.length) y5), .sc (.int .i64 y6), .ar 28 y7], .sc (.int .i64 (dE y10))]) [] []) else none else bif y3 then bif e_At != y6 then bif y3 then k (Jf6 y0 y1 y2 y6 y7) else bif Je (0 + y5.length) 16 && true then k (Jf5 y0 y1 y2 y5 y6 y7) else none else bif decide (dF 3 y10 > y6) then bif y3 then k (Jf6 y0 y1 y2 y6 y7) else bif Je (0 + y5.length) 16 && true then k (Jf5 y0 y1 y2 y5 y6 y7) else none else bif pOk y5 then bif !hasP (PH.mk y5 (AV.mk (dF 0 y10) (dF 1 y10))) then bif y3 then k (Res.mk (.tup [.st 56 [.st 46 (QA y0 y1), .sc (.string y2), .ro 67 true true [], .sc (.int .i64 y6), .ar 28 y7], .sc (.int .i64 13)]) [] []) else bif Je (0 + y5.length) 16 && true then k (Res.mk (.tup [.st 56 [.st 46 (QA y0 y1), .sc (.string y2), .ro 67 false false (List.take (0 + y5.length) y5), .sc (.int .i64 y6), .ar 28 y7], .sc (.int .i64 13)]) [] []) else none else bif cOk e_Op && (decide (y2.size <= 10000) && (pOk [] && zOk true [])) then bif ccE (YN y2 y10 e_Op) != 0 then bif y3 then k (Res.mk (.tup [.st 56 [.st 46 (QA y0 y1), .sc (.string y2), .ro 67 true true [], .sc (.int .i64 y6), .ar 28 y7], .sc (.int .i64 (ccE (YN y2 y10 e_Op)))]) [] []) else bif Je (0 + y5.length) 16 && true then k (Res.mk (.tup [.st 56 [.st 46 (QA y0 y1), .sc (.string y2), .ro 67 false false (List.take (0 + y5.length) y5), .sc (.int .i64 y6), .ar 28 y7], .sc (.int .i64 (ccE (YN y2 y10 e_Op)))]) [] []) else none else bif eOk (EV.mk y10 y11 e_At e_Op) then bif Jk IntKind.u8 (Yf y7 y10 y11 e_At e_Op) && decide ((Yf y7 y10 y11 e_At e_Op).length <= 140737488355000) then bif decide (y14.length = 32) && decide ((pu IntKind.u8 (JX (JC (Yf y7 y10 y11 e_At e_Op)))).length = 32) && Jk IntKind.u8 y14 && Jk IntKind.u8 (pu IntKind.u8 (JX (JC (Yf y7 y10 y11 e_At e_Op)))) && true then bif !J6 y14 (pu IntKind.u8 (JX (JC (Yf y7 y10 y11 e_At e_Op)))) then bif y3 then k (Res.mk (.tup [.st 56 [.st 46 (QA y0 y1), .sc (.string y2), .ro 67 true true [], .sc (.int .i64 y6), .ar 28 y7], .sc (.int .i64 16)]) [] []) else bif Je (0 + y5.length) 16 && true then k (Res.mk (.tup [.st 56 [.st 46 (QA y0 y1), .sc (.string y2), .ro 67 false false (List.take (0 + y5.length) y5), .sc (.int .i64 y6), .ar 28 y7], .sc (.int .i64 16)]) [] []) else none else bif ccZ (YN y2 y10 e_Op) true then k (Res.mk (.tup [.st 56 [.st 46 (QA y0 y1), .sc (.string (ccD (YN y2 y10 e_Op))), .ro 67 true true [], .sc (.int .i64 (IntKind.i64.wrap (y6 + 1))), .ar 28 y14], .sc (.int .i64 0)]) [] []) else bif Je (0 + (ccL (YN y2 y10 e_Op)).length) 16 && true then k (Res.mk (.tup [.st 56 [.st 46 (QA y0 y1), .sc (.string (ccD (YN y2 y10 e_Op))), .ro 67 false false (List.take (0 + (ccL (YN y2 y10 e_Op)).length) (ccL (YN y2 y10 e_Op))), .sc (.int .i64 (IntKind.i64.wrap (y6 + 1))), .ar 28 y14], .sc (.int .i64 0)]) [] []) else none else none else none else none else none else none else bif Je (0 + y5.length) 16 && true then bif e_At != y6 then bif y3 then k (Jf6 y0 y1 y2 y6 y7) else bif Je (0 + y5.length) 16 && true then k (Jf5 y0 y1 y2 y5 y6 y7) else none else bif decide (dF 3 y10 > y6) then bif y3 then k (Jf6 y0 y1 y2 y6 y7) else bif Je (0 + y5.length) 16 && true then k (Jf5 y0 y1 y2 y5 y6 y7) else none else bif pOk y5 then bif !hasP (PH.mk y5 (AV.mk (dF 0 y10) (dF 1 y10))) then bif y3 then k (Res.mk (.tup [.st 56 [.st 46 (QA y0 y1), .sc (.string y2), .ro 67 true true [], .sc (.int .i64 y6), .ar 28 y7], .sc (.int .i64 13)]) [] []) else bif Je (0 + y5.length) 16 && true then k (Res.mk (.tup [.st 56 [.st 46 (QA y0 y1), .sc (.string y2), .ro 67 false false (List.take (0 + y5.length) y5), .sc (.int .i64 y6), .ar 28 y7], .sc (.int .i64 13)]) [] []) else none else bif cOk e_Op && (decide (y2.size <= 10000) && (pOk (List.take (0 + y5.length) y5) && zOk false (List.take (0 + y5.length) y5))) then bif ccE (YM y2 y5 y10 e_Op) != 0 then bif y3 then k (Res.mk (.tup [.st 56 [.st 46 (QA y0 y1), .sc (.string y2), .ro 67 true true [], .sc (.int .i64 y6), .ar 28 y7], .sc (.int .i64 (ccE (YM y2 y5 y10 e_Op)))]) [] []) else bif Je (0 + y5.length) 16 && true then k (Res.mk (.tup [.st 56 [.st 46 (QA y0 y1), .sc (.string y2), .ro 67 false false (List.take (0 + y5.length) y5), .sc (.int .i64 y6), .ar 28 y7], .sc (.int .i64 (ccE (YM y2 y5 y10 e_Op)))]) [] []) else none else bif eOk (EV.mk y10 y11 e_At e_Op) then bif Jk IntKind.u8 (Yf y7 y10 y11 e_At e_Op) && decide ((Yf y7 y10 y11 e_At e_Op).length <= 140737488355000) then bif decide (y14.length = 32) && decide ((pu IntKind.u8 (JX (JC (Yf y7 y10 y11 e_At e_Op)))).length = 32) && Jk IntKind.u8 y14 && Jk IntKind.u8 (pu IntKind.u8 (JX (JC (Yf y7 y10 y11 e_At e_Op)))) && true then bif !J6 y14 (pu IntKind.u8 (JX (JC (Yf y7 y10 y11 e_At e_Op)))) then bif y3 then k (Res.mk (.tup [.st 56 [.st 46 (QA y0 y1), .sc (.string y2), .ro 67 true true [], .sc (.int .i64 y6), .ar 28 y7], .sc (.int .i64 16)]) [] []) else bif Je (0 + y5.length) 16 && true then k (Res.mk (.tup [.st 56 [.st 46 (QA y0 y1), .sc (.string y2), .ro 67 false false (List.take (0 + y5.length) y5), .sc (.int .i64 y6), .ar 28 y7], .sc (.int .i64 16)]) [] []) else none else bif ccZ (YM y2 y5 y10 e_Op) false then k (Res.mk (.tup [.st 56 [.st 46 (QA y0 y1), .sc (.string (ccD (YM y2 y5 y10 e_Op))), .ro 67 true true [], .sc (.int .i64 (IntKind.i64.wrap (y6 + 1))), .ar 28 y14], .sc (.int .i64 0)]) [] []) else bif Je (0 + (ccL (YM y2 y5 y10 e_Op)).length) 16 && true then k (Res.mk (.tup [.st 56 [.st 46 (QA y0 y1), .sc (.string (ccD (YM y2 y5 y10 e_Op))), .ro 67 false false (List.take (0 + (ccL (YM y2 y5 y10 e_Op)).length) (ccL (YM y2 y5 y10 e_Op))), .sc (.int .i64 (IntKind.i64.wrap (y6 + 1))), .ar 28 y14], .sc (.int .i64 0)]) [] []) else none else none else none else none else none else none else none else none
theorem e21 (f : Nat) (y0 y1 : Int) (y2 : ByteArray) (y3 y4 : Bool) (y5 : List PV) (y6 : Int) (y7 : List PV) (y8 y9 : Bool) (y10 y11 : List PV) (e_At : Int) (y12 y13 : Bool) (e_Op y14 y15 : List PV) (k : KR) : JI tau F21 Tryz.f21 (Tryz.f21.body.get!) JG3 [.ro, .ro] 0 [.st 56 [.st 46 [.sc (.int .i64 y0), .sc (.int .i64 y1)], .sc (.string y2), .ro 67 y3 y4 y5, .sc (.int .i64 y6), .ar 28 y7], .st 34 [.st 30 [.ro 5 y8 y9 y10, .ar 28 y11], .sc (.int .i64 e_At), .ro 53 y12 y13 e_Op, .ar 28 y14, .ar 28 y15]] [] k = g21 f y0 y1 y2 y3 y4 y5 y6 y7 y8 y9 y10 y11 e_At y12 y13 e_Op y14 y15 k := by kernel_rfl
theorem JRh (f : Nat) : ∀ q ∈ Jf (Tryz.f21.body.get!) JG3, q.Ok tau Tryz.prog 0 := Jv (by kernel_rfl)
theorem JNF : Tryz.prog.funcs[21]? = some Tryz.f21 := by kernel_rfl
theorem JNG : Tryz.f21.body = some (Tryz.f21.body.get!) := by kernel_rfl
theorem JRi : Enters Tryz.prog 21 := enters_of JNF (by kernel_rfl) JNG
def cxO (x : DX) : CX := ⟨dF 4 x.e.b, whA x.e.b, x.s.doc, x.s.l, x.e.o⟩
theorem JNH (x : DX) : ccE (cxO x) = chE x := by
 rw [Jwk]
 unfold JzT chE cxO
 cases dF 4 x.e.b == 1 with
 | false => rfl
 | true => simp only [cond_true, bne]; cases ckO x.e.o == 0 <;> rfl
theorem JNI {x : DX} (h : chE x = 0) : ccD (cxO x) = chD x := by
 rw [Jwl]
 unfold JzU chD cxO
 unfold chE at h
 cases h1 : dF 4 x.e.b == 1 with
 | false => rfl
 | true =>
  rw [h1] at h
  simp only [cond_true, bne] at h ⊢
  cases h2 : ckO x.e.o == 0 with
  | true => rfl
  | false => rw [h2] at h; simp only [cond_false] at h; rw [h] at h2; exact absurd h2 (by decide)
theorem Jwo {x : DX} (h : chE x = 0) : decide (zi x.e.o.length > 0) = true -> (dF 4 x.e.b == 1) = true := by
 intro g
 unfold chE at h
 cases h1 : dF 4 x.e.b == 1 with
 | true => rfl
 | false => rw [h1, g] at h; exact absurd (show (1 : Int) = 0 from h) (by decide)
theorem JNJ {x : DX} (h : chE x = 0) : ccL (cxO x) = chL x := by
 rw [Jwm]
 have g := Jwo h
 unfold JzV chL cxO
 cases h1 : dF 4 x.e.b == 1 with
 | true => rfl
 | false =>
  simp only [cond_false]
  cases h2 : decide (zi x.e.o.length > 0) with
  | false => rfl
  | true => rw [g h2] at h1; cases h1
theorem JNK {x : DX} (h : chE x = 0) (z : Bool) : ccZ (cxO x) z = chZ x z := by
 rw [Jwn]
 have g := Jwo h
 unfold JzW chZ cxO
 cases h1 : dF 4 x.e.b == 1 with
 | true => rfl
 | false =>
  simp only [cond_false]
  cases h2 : decide (zi x.e.o.length > 0) with
  | false => rfl
  | true => rw [g h2] at h1; cases h1
theorem JoN {x : DX} {z : Bool} (hz : z = true -> x.s.l = []) : chZ x z = true -> chL x = [] := by
 unfold chZ chL
 cases dF 4 x.e.b == 1 with
 | true => exact hz
 | false =>
  simp only [cond_false]
  cases dF 4 x.e.b == 2 with
  | true =>
   simp only [cond_true, Joa, JcS]
   cases Jb7 ⟨x.s.l, whA x.e.b⟩ == 0 with
   | true => intro h; cases h
   | false => exact hz
  | false =>
   simp only [cond_false, Job, JcT]
   cases hasL x.s.l (whA x.e.b) with
   | true => exact fun h => List.isEmpty_iff.1 h
   | false => exact hz
theorem Jlh {x : DX} (h : pOk x.s.l = true) : (chL x).length <= 9 := by
 have h3 : x.s.l.length <= 8 := (QJ.1 h).2.2
 unfold chL
 cases dF 4 x.e.b == 1 with
 | true => show x.s.l.length <= 9; omega
 | false =>
  simp only [cond_false]
  cases dF 4 x.e.b == 2 with
  | true =>
   simp only [cond_true, JcS]
   cases Jb7 ⟨x.s.l, whA x.e.b⟩ == 0 with
   | true => show (Jak x.s.l _).length <= 9; rw [VJ]; omega
   | false => show x.s.l.length <= 9; omega
  | false =>
   simp only [cond_false, JcT]
   cases hasL x.s.l (whA x.e.b) with
   | true => show (List.filter _ x.s.l).length <= 9; have := List.length_filter_le (fun p => !eqA (av p) (whA x.e.b)) x.s.l; exact Nat.le_trans this (by omega)
   | false => show x.s.l.length <= 9; omega
def wsP (s : SV) (z f : Bool) : PV := .st 56 [.st 46 [.sc (.int .i64 s.ih), .sc (.int .i64 s.iN)], .sc (.string s.doc), .ro 67 z f s.l, .sc (.int .i64 s.ver), .ar 28 s.hash]
def dwP (x : DX) (z : Bool) : PV := .tup [wsP (dsS x) (dsZ x z) (dsZ x z), .sc (.int .i64 (dsE x))]
theorem JjG {x : DX} {e : Int} (h : dsE0 x = e) (h0 : (e == 0) = false) (z : Bool) : dwP x z = .tup [wsP x.s z z, .sc (.int .i64 e)] := by
 have h1 : (dsE0 x == 0) = false := by rw [h]; exact h0
 unfold dwP; rw [Jjj h1, JfM, JfK, h, h0]; rfl
theorem Jwp {x : DX} (h : dsE0 x = 0) (z : Bool) : dwP x z = .tup [wsP ⟨x.s.ih, x.s.iN, chD x, chL x, x.s.ver + 1, x.e.h⟩ (chZ x z) (chZ x z), .sc (.int .i64 0)] := by
 unfold dwP dsS; rw [Jji, JfL, Jam, JcU, JfM, JfK, h]; rfl
theorem cl3 {z : Bool} {l : List PV} (hz : z = true -> l = []) (hl : l.length <= 1000) (K : Bool -> Bool -> List PV -> OR) : (bif z then K true true [] else bif Je l.length 16 && true then K false false l else none) = K z z l := by
 cases z with
 | true => rw [hz rfl]; rfl
 | false => exact (Jd rfl).trans (Ja (by simp [Je]; omega))
theorem JG4 (ih iN : Int) (doc : ByteArray) (z f : Bool) (l : List PV) (ver : Int) (hash : List PV) (bz bf : Bool) (b m : List PV) (at1 : Int) (oz of : Bool) (o h mc : List PV)
  (hs : sOk ⟨ih, iN, doc, l, ver, hash⟩ = true) (he : eD ⟨b, m, at1, o, h, mc⟩ = true) (hzk : zOk z l = true) (hsl : slB bz b = true) (k : KR) :
  g21 0 ih iN doc z f l ver hash bz bf b m at1 oz of o h mc k = k ⟨dwP ⟨⟨ih, iN, doc, l, ver, hash⟩, ⟨b, m, at1, o, h, mc⟩⟩ z, [], []⟩ := by
 obtain ⟨s1, s2, s3, s4, s5, s6⟩ := Xm.1 hs
 obtain ⟨e1, e2, e3, e4⟩ := Wn.1 he
 simp only at s1 s2 s3 s4 s5 e1 e3 e4
 have e2 : eOk ⟨b, m, at1, o⟩ = true := e2
 obtain ⟨hh1, hh2⟩ := h32_iff.1 e4
 obtain ⟨ha1, ha2⟩ := h32_iff.1 s2
 have hz := Jd7.1 hzk
 have hl8 : l.length <= 8 := (QJ.1 s1).2.2
 have w1 : IntKind.i64.wrap (ver + 1) = ver + 1 := wrap_i64 (by omega) (by omega)
 have hnl : (pu .u8 (nxP ⟨hash, ⟨b, m, at1, o⟩⟩)).length = 32 := by rw [JD]; exact Yb _
 have htk : List.take 32 hash = hash := by rw [← ha2]; exact List.take_length
 have hfl : JH [.ro 5 false false (List.take 32 hash), .ro 5 false false (pu .u8 (JZ ⟨b, m, at1, o⟩))] = hash ++ pu .u8 (JZ ⟨b, m, at1, o⟩) := by rw [htk]; simp [PV.els]
 have hnx : JX (JC (hash ++ pu .u8 (JZ ⟨b, m, at1, o⟩))) = nxP ⟨hash, ⟨b, m, at1, o⟩⟩ := by
  rw [Jfz, JkN, WL]
 have hcl := XK e2
 obtain ⟨q1, q2, q3, q4, q5, q6⟩ := Qx.1 e2
 have hfa : (Jk .u8 (hash ++ pu .u8 (JZ ⟨b, m, at1, o⟩)) && decide ((hash ++ pu .u8 (JZ ⟨b, m, at1, o⟩)).length <= 140737488355000)) = true := by
  rw [Wd, ha1, JO, List.length_append, JD, hcl, ha2]
  simp only at q2 q6 ⊢
  exact decide_eq_true (by omega)
 unfold g21 YN Jf6 Jf5 YM Yf QA
 simp only [Nat.zero_add, List.take_length, w1]
 refine (Ja (by rw [hsl, e1]; rfl)).trans ?_
 cases h1 : (dE b != 0) with
 | true =>
  refine (Ja rfl).trans ?_
  rw [JjG (x := ⟨⟨ih, iN, doc, l, ver, hash⟩, ⟨b, m, at1, o, h, mc⟩⟩) (e := dE b) (Ja h1) (by simpa [bne] using h1)]
  exact cl3 hz (by omega) (fun a c q => k ⟨.tup [wsP ⟨ih, iN, doc, q, ver, hash⟩ a c, .sc (.int .i64 (dE b))], [], []⟩)
 | false =>
 refine (Jd rfl).trans ?_
 cases z with
 | true =>
  obtain rfl : l = [] := hz rfl
  refine (Ja rfl).trans ?_
  have hau : AV.mk (dF 0 b) (dF 1 b) = auA b := rfl
  have hcx : CX.mk (dF 4 b) (AV.mk (dF 5 b) (dF 6 b)) doc [] o = cxO ⟨⟨ih, iN, doc, [], ver, hash⟩, ⟨b, m, at1, o, h, mc⟩⟩ := rfl
  simp only [hau, hcx, hfl, hnx, JNH]
  have BAD : ∀ (e : Int), dsE0 ⟨⟨ih, iN, doc, [], ver, hash⟩, ⟨b, m, at1, o, h, mc⟩⟩ = e -> (e == 0) = false -> (bif true then k ⟨.tup [wsP ⟨ih, iN, doc, [], ver, hash⟩ true true, .sc (.int .i64 e)], [], []⟩ else bif Je ([] : List PV).length 16 && true then k ⟨.tup [wsP ⟨ih, iN, doc, [], ver, hash⟩ false false, .sc (.int .i64 e)], [], []⟩ else none) = k ⟨dwP ⟨⟨ih, iN, doc, [], ver, hash⟩, ⟨b, m, at1, o, h, mc⟩⟩ true, [], []⟩ := fun e h1 h0 => by
   rw [JjG h1 h0]
   exact cl3 (z := true) (l := []) (by intro _; rfl) (by exact Nat.zero_le _) (fun a c q => k ⟨.tup [wsP ⟨ih, iN, doc, q, ver, hash⟩ a c, .sc (.int .i64 e)], [], []⟩)
  cases h2 : (at1 != ver) with
  | true => exact (Ja rfl).trans (BAD 15 ((Jd h1).trans (Ja h2)) rfl)
  | false =>
  refine (Jd rfl).trans ?_
  cases h3 : decide (dF 3 b > ver) with
  | true => exact (Ja rfl).trans (BAD 15 ((Jd h1).trans ((Jd h2).trans (Ja h3))) rfl)
  | false =>
  refine (Jd rfl).trans ((Ja s1).trans ?_)
  cases h4 : (!hasP ⟨[], auA b⟩) with
  | true => exact (Ja rfl).trans (BAD 13 ((Jd h1).trans ((Jd h2).trans ((Jd h3).trans (Ja h4)))) rfl)
  | false =>
  refine (Jd rfl).trans ((Ja (by rw [e3, decide_eq_true (show doc.size <= 10000 by omega), s1, hzk]; rfl)).trans ?_)
  cases h5 : (chE ⟨⟨ih, iN, doc, [], ver, hash⟩, ⟨b, m, at1, o, h, mc⟩⟩ != 0) with
  | true => exact (Ja rfl).trans (BAD _ ((Jd h1).trans ((Jd h2).trans ((Jd h3).trans ((Jd h4).trans (Ja h5))))) (by simpa [bne] using h5))
  | false =>
  have hc0 : chE ⟨⟨ih, iN, doc, [], ver, hash⟩, ⟨b, m, at1, o, h, mc⟩⟩ = 0 := by simpa [bne] using h5
  refine (Jd rfl).trans ((Ja e2).trans ((Ja hfa).trans ((Ja (by rw [hh2, hnl, hh1, JO]; rfl)).trans ?_)))
  cases h6 : (!J6 h (pu .u8 (nxP ⟨hash, ⟨b, m, at1, o⟩⟩))) with
  | true => exact (Ja rfl).trans (BAD 16 ((Jd h1).trans ((Jd h2).trans ((Jd h3).trans ((Jd h4).trans ((Jd h5).trans (Ja h6)))))) rfl)
  | false =>
  refine (Jd rfl).trans ?_
  rw [JNK hc0, JNI hc0, JNJ hc0, Jwp (x := ⟨⟨ih, iN, doc, [], ver, hash⟩, ⟨b, m, at1, o, h, mc⟩⟩) ((Jd h1).trans ((Jd h2).trans ((Jd h3).trans ((Jd h4).trans ((Jd h5).trans (Jd h6))))))]
  have hsm := Jlh (x := ⟨⟨ih, iN, doc, [], ver, hash⟩, ⟨b, m, at1, o, h, mc⟩⟩) s1
  exact cl3 (JoN (x := ⟨⟨ih, iN, doc, [], ver, hash⟩, ⟨b, m, at1, o, h, mc⟩⟩) (z := true) (by intro _; rfl)) (by omega) (fun a c q => k ⟨.tup [wsP ⟨ih, iN, chD ⟨⟨ih, iN, doc, [], ver, hash⟩, ⟨b, m, at1, o, h, mc⟩⟩, q, ver + 1, h⟩ a c, .sc (.int .i64 0)], [], []⟩)
 | false =>
  refine (Jd rfl).trans ((Ja (by simp [Je]; omega)).trans ?_)
  have hau : AV.mk (dF 0 b) (dF 1 b) = auA b := rfl
  have hcx : CX.mk (dF 4 b) (AV.mk (dF 5 b) (dF 6 b)) doc l o = cxO ⟨⟨ih, iN, doc, l, ver, hash⟩, ⟨b, m, at1, o, h, mc⟩⟩ := rfl
  simp only [hau, hcx, hfl, hnx, JNH]
  have BAD : ∀ (e : Int), dsE0 ⟨⟨ih, iN, doc, l, ver, hash⟩, ⟨b, m, at1, o, h, mc⟩⟩ = e -> (e == 0) = false -> (bif false then k ⟨.tup [wsP ⟨ih, iN, doc, [], ver, hash⟩ true true, .sc (.int .i64 e)], [], []⟩ else bif Je (l : List PV).length 16 && true then k ⟨.tup [wsP ⟨ih, iN, doc, l, ver, hash⟩ false false, .sc (.int .i64 e)], [], []⟩ else none) = k ⟨dwP ⟨⟨ih, iN, doc, l, ver, hash⟩, ⟨b, m, at1, o, h, mc⟩⟩ false, [], []⟩ := fun e h1 h0 => by
   rw [JjG h1 h0]
   exact cl3 (z := false) (l := l) (by intro q; cases q) (by omega) (fun a c q => k ⟨.tup [wsP ⟨ih, iN, doc, q, ver, hash⟩ a c, .sc (.int .i64 e)], [], []⟩)
  cases h2 : (at1 != ver) with
  | true => exact (Ja rfl).trans (BAD 15 ((Jd h1).trans (Ja h2)) rfl)
  | false =>
  refine (Jd rfl).trans ?_
  cases h3 : decide (dF 3 b > ver) with
  | true => exact (Ja rfl).trans (BAD 15 ((Jd h1).trans ((Jd h2).trans (Ja h3))) rfl)
  | false =>
  refine (Jd rfl).trans ((Ja s1).trans ?_)
  cases h4 : (!hasP ⟨l, auA b⟩) with
  | true => exact (Ja rfl).trans (BAD 13 ((Jd h1).trans ((Jd h2).trans ((Jd h3).trans (Ja h4)))) rfl)
  | false =>
  refine (Jd rfl).trans ((Ja (by rw [e3, decide_eq_true (show doc.size <= 10000 by omega), s1, hzk]; rfl)).trans ?_)
  cases h5 : (chE ⟨⟨ih, iN, doc, l, ver, hash⟩, ⟨b, m, at1, o, h, mc⟩⟩ != 0) with
  | true => exact (Ja rfl).trans (BAD _ ((Jd h1).trans ((Jd h2).trans ((Jd h3).trans ((Jd h4).trans (Ja h5))))) (by simpa [bne] using h5))
  | false =>
  have hc0 : chE ⟨⟨ih, iN, doc, l, ver, hash⟩, ⟨b, m, at1, o, h, mc⟩⟩ = 0 := by simpa [bne] using h5
  refine (Jd rfl).trans ((Ja e2).trans ((Ja hfa).trans ((Ja (by rw [hh2, hnl, hh1, JO]; rfl)).trans ?_)))
  cases h6 : (!J6 h (pu .u8 (nxP ⟨hash, ⟨b, m, at1, o⟩⟩))) with
  | true => exact (Ja rfl).trans (BAD 16 ((Jd h1).trans ((Jd h2).trans ((Jd h3).trans ((Jd h4).trans ((Jd h5).trans (Ja h6)))))) rfl)
  | false =>
  refine (Jd rfl).trans ?_
  rw [JNK hc0, JNI hc0, JNJ hc0, Jwp (x := ⟨⟨ih, iN, doc, l, ver, hash⟩, ⟨b, m, at1, o, h, mc⟩⟩) ((Jd h1).trans ((Jd h2).trans ((Jd h3).trans ((Jd h4).trans ((Jd h5).trans (Jd h6))))))]
  have hsm := Jlh (x := ⟨⟨ih, iN, doc, l, ver, hash⟩, ⟨b, m, at1, o, h, mc⟩⟩) s1
  exact cl3 (JoN (x := ⟨⟨ih, iN, doc, l, ver, hash⟩, ⟨b, m, at1, o, h, mc⟩⟩) (z := false) (by intro q; cases q)) (by omega) (fun a c q => k ⟨.tup [wsP ⟨ih, iN, chD ⟨⟨ih, iN, doc, l, ver, hash⟩, ⟨b, m, at1, o, h, mc⟩⟩, q, ver + 1, h⟩ a c, .sc (.int .i64 0)], [], []⟩)
def JoO : Jy
 | [.st 56 [.st 46 [.sc (.int .i64 ih), .sc (.int .i64 iN)], .sc (.string doc), .ro 67 z f l, .sc (.int .i64 ver), .ar 28 hash], .st 34 [.st 30 [.ro 5 bz bf b, .ar 28 m], .sc (.int .i64 at1), .ro 53 oz of o, .ar 28 h, .ar 28 mc]], [], k =>
  bif sOk ⟨ih, iN, doc, l, ver, hash⟩ && eD ⟨b, m, at1, o, h, mc⟩ && (zOk z l && slB bz b) then k ⟨.tup [.st 56 [.st 46 [.sc (.int .i64 ih), .sc (.int .i64 iN)], .sc (.string (dsD ⟨⟨ih, iN, doc, l, ver, hash⟩, ⟨b, m, at1, o, h, mc⟩⟩)), .ro 67 (dsZ ⟨⟨ih, iN, doc, l, ver, hash⟩, ⟨b, m, at1, o, h, mc⟩⟩ z) (dsZ ⟨⟨ih, iN, doc, l, ver, hash⟩, ⟨b, m, at1, o, h, mc⟩⟩ z) (dsL ⟨⟨ih, iN, doc, l, ver, hash⟩, ⟨b, m, at1, o, h, mc⟩⟩), .sc (.int .i64 (dsV ⟨⟨ih, iN, doc, l, ver, hash⟩, ⟨b, m, at1, o, h, mc⟩⟩)), .ar 28 (dsH ⟨⟨ih, iN, doc, l, ver, hash⟩, ⟨b, m, at1, o, h, mc⟩⟩)], .sc (.int .i64 (dsE ⟨⟨ih, iN, doc, l, ver, hash⟩, ⟨b, m, at1, o, h, mc⟩⟩))], [], []⟩ else none
 | _, _, _ => none
def JNL : Sig := { own := [], run := JoO }
theorem JNM : Jc tau Tryz.prog 21 JNL := Jc.mk' fun xs es k res hl hr => by
 change JoO xs es k = some res at hr
 unfold JoO at hr
 split at hr
 · rename_i ih iN doc z f l ver hash bz bf b m at1 oz of o h mc
   obtain ⟨hc, hr⟩ := Ju hr
   simp only [Bool.and_eq_true] at hc
   obtain ⟨⟨c1, c2⟩, c3, c4⟩ := hc
   exact J1 Jn JG2 Jo JNF JNG JG3 [.ro, .ro] 0 0 (JRh 0) hl rfl ((e21 0 ih iN doc z f l ver hash bz bf b m at1 oz of o h mc k).trans ((JG4 ih iN doc z f l ver hash bz bf b m at1 oz of o h mc c1 c2 c3 c4 k).trans hr))
 · cases hr
def F22 : Fns := F0
theorem JG5 : Jp tau Tryz.prog F22 := Js
def JG6 : An := (.seq .leaf (.seq .leaf .leaf))
def g22 (f : Nat) (y0 y1 : Int) (y2 : ByteArray) (y3 y4 : Bool) (y5 : List PV) (y6 : Int) (y7 : List PV) (k : KR) : OR := k (Res.mk (.st 56 [.st 46 [.sc (.int .i64 y0), .sc (.int .i64 y1)], .sc (.string y2), .ro 67 y3 y4 y5, .sc (.int .i64 y6), .ar 28 y7]) [] [])
theorem e22 (f : Nat) (y0 y1 : Int) (y2 : ByteArray) (y3 y4 : Bool) (y5 : List PV) (y6 : Int) (y7 : List PV) (k : KR) : JI tau F22 Tryz.f22 (Tryz.f22.body.get!) JG6 [.ro] 0 [.st 49 [.st 46 [.sc (.int .i64 y0), .sc (.int .i64 y1)], .sc (.string y2), .ro 67 y3 y4 y5, .sc (.int .i64 y6), .ar 28 y7]] [] k = g22 f y0 y1 y2 y3 y4 y5 y6 y7 k := by kernel_rfl
theorem JRj (f : Nat) : ∀ q ∈ Jf (Tryz.f22.body.get!) JG6, q.Ok tau Tryz.prog 0 := Jv (by kernel_rfl)
theorem JNN : Tryz.prog.funcs[22]? = some Tryz.f22 := by kernel_rfl
theorem JNO : Tryz.f22.body = some (Tryz.f22.body.get!) := by kernel_rfl
theorem JRk : Enters Tryz.prog 22 := enters_of JNN (by kernel_rfl) JNO
def Jwq : Jy
 | [.st 49 [.st 46 [.sc (.int .i64 y0), .sc (.int .i64 y1)], .sc (.string y2), .ro 67 y3 y4 y5, .sc (.int .i64 y6), .ar 28 y7]], [], k => g22 0 y0 y1 y2 y3 y4 y5 y6 y7 k
 | _, _, _ => none
def s22 : Sig := { own := [], run := Jwq }
theorem JRl : Jc tau Tryz.prog 22 s22 := JN Jn JG5 Jo JNN JNO JG6 [.ro] 0 [] Jwq (JRj 0) fun xs es k res hr => by
 unfold Jwq at hr
 split at hr
 · exact ⟨rfl, 0, (e22 0 _ _ _ _ _ _ _ _  _).trans hr⟩
 · cases hr
def N24 : Nat := 59
def F24 : Fns := F0
theorem Jwr : Jp tau Tryz.prog F24 := Js
def Jq5 : Code := Qd (Tryz.f24.body.get!) [1, 1, 0, 1, 0, 0]
def Jf7 : Nm := [(2, .any), (3, .any), (5, .any)]
def JjH : Nm := [(4, .any)]
def Jws : An := (.seq (.seq .leaf (.cond .leaf .leaf)) (.seq (.block none (.seq .leaf (.cond (.seq .leaf .leaf) .leaf))) .leaf))
def JzX (r0 : Qt) : An := (.seq .leaf (.seq (.seq .leaf (.cond (.seq .leaf .leaf) .leaf)) (.seq (.seq .leaf (.block none (.sum Jf7 N24 r0))) (.seq .leaf .leaf))))
abbrev Jwt := Int -> Int -> Int -> ByteArray -> Bool -> Bool -> List PV -> Int -> List PV -> Int -> Int -> ByteArray -> Bool -> Bool -> List PV -> Int -> List PV -> OR
def Jcn (f : Nat) (rc : Jwt) (k0 : Bool -> OR) (k1 : OR) (v0 v1 v2 : Int) (v3 : ByteArray) (v4 v5 : Bool) (v6 : List PV) (v7 : Int) (v8 : List PV) (v9 v10 : Int) (v11 : ByteArray) (v12 v13 : Bool) (v14 : List PV) (v15 : Int) (v16 : List PV) : OR := bif decide (v0 < zi v6.length) then bif decide (0 <= v0) && decide (v0 < zi v6.length) && (PV.isSt 67 #[Field.mk "D" 3 0 false "" "" 0, Field.mk "U" 3 1 false "" "" 8].size (v6.getD v0.toNat PV.top) && (PV.isInt IntKind.i64 (PV.child 0 (v6.getD v0.toNat PV.top)) && (PV.isInt IntKind.i64 (PV.child (0 + 1) (v6.getD v0.toNat PV.top)) && true))) && true then bif decide (0 <= v0) && decide (v0 < zi v14.length) && (PV.isSt 67 #[Field.mk "D" 3 0 false "" "" 0, Field.mk "U" 3 1 false "" "" 8].size (v14.getD v0.toNat PV.top) && (PV.isInt IntKind.i64 (PV.child 0 (v14.getD v0.toNat PV.top)) && (PV.isInt IntKind.i64 (PV.child (0 + 1) (v14.getD v0.toNat PV.top)) && true))) && true then bif !((PV.child 0 (v6.getD v0.toNat PV.top)).int == (PV.child 0 (v14.getD v0.toNat PV.top)).int && ((PV.child (0 + 1) (v6.getD v0.toNat PV.top)).int == (PV.child (0 + 1) (v14.getD v0.toNat PV.top)).int && true)) then k0 false else rc (IntKind.i64.wrap (v0 + 1)) v1 v2 v3 v4 v5 v6 v7 v8 v9 v10 v11 v12 v13 v14 v15 v16 else none else none else k1
def Jay (f : Nat) (k0 : Bool -> OR) (k1 : OR) : Nat -> Jwt
 | 0 => fun _ _ _ _ _ _ _ _ _ _ _ _ _ _ _ _ _ => none
 | n + 1 => Jcn f (Jay f k0 k1 n) k0 k1
def Jco (k : Kont) := fun x0 => k Ex.ret (Ji JjH N24 [.sc (.bool x0)] [])
def Jcp (k : Kont) := k (Ex.exit 0) (Ji JjH N24 [PV.top] [])
def JoP (f : Nat) (k : Kont) (n : Nat) (v0 v1 v2 : Int) (v3 : ByteArray) (v4 v5 : Bool) (v6 : List PV) (v7 : Int) (v8 : List PV) (v9 v10 : Int) (v11 : ByteArray) (v12 v13 : Bool) (v14 : List PV) (v15 : Int) (v16 : List PV) : OR := Jx tau 0 Jf7 (fun s k => ev tau F24 0 0 Jq5 (Jws ) s k) n (Ji Jf7 N24 [.ptr 960 [], .ptr 961 [], .sc (.int .i64 v0)] [(960, .box false 49 (PV.st 49 [.st 46 [.sc (.int .i64 v1), .sc (.int .i64 v2)], .sc (.string v3), .ro 67 v4 v5 v6, .sc (.int .i64 v7), .ar 28 v8])), (961, .box false 49 (PV.st 49 [.st 46 [.sc (.int .i64 v9), .sc (.int .i64 v10)], .sc (.string v11), .ro 67 v12 v13 v14, .sc (.int .i64 v15), .ar 28 v16]))]) (JG tau 0 JjH k)
theorem JzY (f : Nat) (k : Kont) (n : Nat) : JoP f k (n + 1) = Jcn f (JoP f k n) (Jco k) (Jcp k) := by kernel_rfl
theorem Jq6 (f : Nat) (k : Kont) : ∀ n, JoP f k n = Jay f (Jco k) (Jcp k) n
 | 0 => rfl
 | n + 1 => (JzY f k n).trans (congrArg (fun r => Jcn f r (Jco k) (Jcp k)) (Jq6 f k n))
def Jf8 (f : Nat) : List PV -> List (Nat × Ent) -> Kont -> OR
 | [.ptr 960 [], .ptr 961 [],
 PV.sc
  (Value.int IntKind.i64
   v0)], [(960,
  Ent.box false 49
   (PV.st 49 [.st 46 [.sc (.int .i64 v1), .sc (.int .i64 v2)], .sc (.string v3), .ro 67 v4 v5 v6, .sc (.int .i64 v7), .ar 28 v8])),
 (961,
  Ent.box false 49
   (PV.st 49
    [.st 46 [.sc (.int .i64 v9), .sc (.int .i64 v10)], .sc (.string v11), .ro 67 v12 v13 v14, .sc (.int .i64 v15),
     PV.ar 28
      v16]))], k => Jay f (Jco k) (Jcp k) f v0 v1 v2 v3 v4 v5 v6 v7 v8 v9 v10 v11 v12 v13 v14 v15 v16
 | _, _, _ => none
theorem JG7 (f : Nat) : Jf Jq5 Jws = [] := by kernel_rfl
theorem JG8 (f : Nat) : (Item.l Jq5 Jf7 N24 (Jf8 f)).Ok tau Tryz.prog 0 := Jt Jn Jwr Jo (x := Jws) (nm2 := JjH) (Jl _ _ (by rw [JG7 f]; intro q hq; cases hq)) fun vs hp k res hr => by
 unfold Jf8 at hr
 split at hr
 · rw [← Jq6 f] at hr; exact ⟨f, 0, hr⟩
 · cases hr
def g24 (f : Nat) (y0 y1 : Int) (y2 : ByteArray) (y3 y4 : Bool) (y5 : List PV) (y6 : Int) (y7 : List PV) (y8 y9 : Int) (y10 : ByteArray) (y11 y12 : Bool) (y13 : List PV) (y14 : Int) (y15 : List PV) (k : KR) : OR := bif !(y0 == y8 && (y1 == y9 && true)) then k (Res.mk (.sc (.bool false)) [] []) else bif !YB y2 y10 then k (Res.mk (.sc (.bool false)) [] []) else bif zi y5.length != zi y13.length then k (Res.mk (.sc (.bool false)) [] []) else bif y6 != y14 then k (Res.mk (.sc (.bool false)) [] []) else bif decide (y7.length = 32) && decide (y15.length = 32) && Jk IntKind.u8 y7 && Jk IntKind.u8 y15 && true then bif !J6 y7 y15 then k (Res.mk (.sc (.bool false)) [] []) else Jay f (fun x0_0 => k (Res.mk (.sc (.bool x0_0)) [] [])) (k (Res.mk (.sc (.bool true)) [] [])) f (0) y0 y1 y2 y3 y4 y5 y6 y7 y8 y9 y10 y11 y12 y13 y14 y15 else none
theorem e24 (f : Nat) (y0 y1 : Int) (y2 : ByteArray) (y3 y4 : Bool) (y5 : List PV) (y6 : Int) (y7 : List PV) (y8 y9 : Int) (y10 : ByteArray) (y11 y12 : Bool) (y13 : List PV) (y14 : Int) (y15 : List PV) (k : KR) : JI tau F24 Tryz.f24 (Tryz.f24.body.get!) (JzX (Jf8 f)) [.ro] 0 [.st 49 [.st 46 [.sc (.int .i64 y0), .sc (.int .i64 y1)], .sc (.string y2), .ro 67 y3 y4 y5, .sc (.int .i64 y6), .ar 28 y7], .st 49 [.st 46 [.sc (.int .i64 y8), .sc (.int .i64 y9)], .sc (.string y10), .ro 67 y11 y12 y13, .sc (.int .i64 y14), .ar 28 y15]] [] k = g24 f y0 y1 y2 y3 y4 y5 y6 y7 y8 y9 y10 y11 y12 y13 y14 y15 k := by kernel_rfl
theorem JRm (f : Nat) : Jf (Tryz.f24.body.get!) (JzX (Jf8 f)) = [.l Jq5 Jf7 N24 (Jf8 f)] := by kernel_rfl
theorem JRn (f : Nat) : ∀ q ∈ Jf (Tryz.f24.body.get!) (JzX (Jf8 f)), q.Ok tau Tryz.prog 0 := by rw [JRm f]; exact JJ (JG8 f) (fun _ h => nomatch h)
theorem JNP : Tryz.prog.funcs[24]? = some Tryz.f24 := by kernel_rfl
theorem JNQ : Tryz.f24.body = some (Tryz.f24.body.get!) := by kernel_rfl
theorem JRo : Enters Tryz.prog 24 := enters_of JNP (by kernel_rfl) JNQ
theorem JCM (s t : SV) (ha : s.l.all Zx = true) (hb : t.l.all Zx = true) (hl : s.l.length = t.l.length) (h2 : s.l.length <= 1000) (f : Nat) (k0 : Bool -> OR) (k1 : OR) (z fl z' fl' : Bool) : ∀ (d i n : Nat), i + d = s.l.length -> d < n ->
  Jay f k0 k1 n (i : Int) s.ih s.iN s.doc z fl s.l s.ver s.hash t.ih t.iN t.doc z' fl' t.l t.ver t.hash = bif JdK (s.l.drop i) (t.l.drop i) then k1 else k0 false
 | 0, i, n + 1, hi, hn => by
   rw [List.drop_of_length_le (l := s.l) (by omega), List.drop_of_length_le (l := t.l) (by omega)]
   simp only [Jay, Jcn]
   exact Jd (by simp [zi]; omega)
 | d + 1, i, n + 1, hi, hn => by
   have g1 := tI i
   have w1 := wI (i := i) (by omega)
   have hro : ∀ l : List PV, l.all Zx = true -> l.length = s.l.length -> (decide (0 <= (i : Int)) && decide ((i : Int) < zi l.length) && (PV.isSt 67 #[Field.mk "D" 3 0 false "" "" 0, Field.mk "U" 3 1 false "" "" 8].size (l.getD i PV.top) && (PV.isInt IntKind.i64 (PV.child 0 (l.getD i PV.top)) && (PV.isInt IntKind.i64 (PV.child (0 + 1) (l.getD i PV.top)) && true))) && true) = true := by
    intro l h1 h3
    have hq := Xa (Xb h1 (i := i) (by omega))
    unfold Vy at hq
    rw [hq]; simp [zi]; omega
   have hs : ((PV.child 0 (s.l.getD i PV.top)).int == (PV.child 0 (t.l.getD i PV.top)).int && ((PV.child (0 + 1) (s.l.getD i PV.top)).int == (PV.child (0 + 1) (t.l.getD i PV.top)).int && true)) = eqA (av (s.l.getD i .top)) (av (t.l.getD i .top)) := rfl
   simp only [Jay, Jcn, g1, w1, hs]
   refine (Ja (by simp [zi]; omega)).trans ((Ja (hro s.l ha rfl)).trans ((Ja (hro t.l hb hl.symm)).trans ?_))
   rw [JY (l := s.l) (i := i) (by omega), JY (l := t.l) (i := i) (by omega), JdK]
   cases eqA (av (s.l.getD i .top)) (av (t.l.getD i .top)) with
   | false => rfl
   | true =>
    rw [Bool.true_and]
    exact (Jd rfl).trans (JCM s t ha hb hl h2 f k0 k1 z fl z' fl' d (i + 1) n (by omega) (by omega))
def JoQ : Jy
 | [.st 49 [.st 46 [.sc (.int .i64 ih), .sc (.int .i64 iN)], .sc (.string doc), .ro 67 z f l, .sc (.int .i64 ver), .ar 28 hash], .st 49 [.st 46 [.sc (.int .i64 ih2), .sc (.int .i64 iN2)], .sc (.string doc2), .ro 67 z2 f2 l2, .sc (.int .i64 ver2), .ar 28 hash2]], [], k =>
  bif wOk ⟨ih, iN, doc, l, ver, hash⟩ && wOk ⟨ih2, iN2, doc2, l2, ver2, hash2⟩ then k ⟨.sc (.bool (Jha ⟨⟨ih, iN, doc, l, ver, hash⟩, ⟨ih2, iN2, doc2, l2, ver2, hash2⟩⟩)), [], []⟩ else none
 | _, _, _ => none
def JNR : Sig := { own := [], run := JoQ }
theorem JG9 (s t : SV) (z f z' f' : Bool) (ha : wOk s = true) (hb : wOk t = true) (k : KR) : g24 (s.l.length + 2) s.ih s.iN s.doc z f s.l s.ver s.hash t.ih t.iN t.doc z' f' t.l t.ver t.hash k = k ⟨.sc (.bool (Jha ⟨s, t⟩)), [], []⟩ := by
 obtain ⟨a1, a2⟩ := Jd2.1 ha
 obtain ⟨b1, b2⟩ := Jd2.1 hb
 obtain ⟨a3, a4⟩ := YZ.1 a1
 obtain ⟨b3, b4⟩ := YZ.1 b1
 obtain ⟨a5, a6⟩ := h32_iff.1 a2
 obtain ⟨b5, b6⟩ := h32_iff.1 b2
 unfold g24
 rw [Jk5]
 simp only [a5, a6, b5, b6, decide_true, Bool.and_true, cond_true]
 cases (s.ih == t.ih && s.iN == t.iN) with
 | false => rfl
 | true =>
 cases YB s.doc t.doc with
 | false => rfl
 | true =>
 simp only [Bool.not_true, cond_false, Bool.true_and]
 by_cases hl : s.l.length = t.l.length
 · refine (Jd (by simp [zi, hl])).trans ?_
   rw [JiQ]
   show (bif !(s.ver == t.ver) then _ else _) = _
   cases s.ver == t.ver with
   | false => rw [Bool.false_and, Bool.and_false]; rfl
   | true =>
   cases J6 s.hash t.hash with
   | false => rw [Bool.and_false, Bool.and_false]; rfl
   | true =>
   simp only [Bool.not_true, cond_false, Bool.and_true]
   refine (JCM s t a3 b3 hl a4 (s.l.length + 2) _ _ z f z' f' s.l.length 0 (s.l.length + 2) (by omega) (by omega)).trans ?_
   rw [List.drop_zero, List.drop_zero]
   cases JdK s.l t.l <;> rfl
 · have hs : Jug ⟨s.l, t.l⟩ = false := by
    rw [JiQ]
    exact Bool.eq_false_iff.2 fun h => hl (JkM h)
   rw [hs, Bool.false_and]
   exact Ja (by simp [zi]; omega)
theorem JNS : Jc tau Tryz.prog 24 JNR := Jc.mk' fun xs es k res hl hr => by
 change JoQ xs es k = some res at hr
 unfold JoQ at hr
 split at hr
 · rename_i ih iN doc z f l ver hash ih2 iN2 doc2 z2 f2 l2 ver2 hash2
   obtain ⟨hc, hr⟩ := Ju hr
   rw [Bool.and_eq_true] at hc
   exact J1 Jn Jwr Jo JNP JNQ (JzX (Jf8 (l.length + 2))) [.ro] 0 0 (JRn (l.length + 2)) hl rfl ((e24 (l.length + 2) ih iN doc z f l ver hash ih2 iN2 doc2 z2 f2 l2 ver2 hash2 k).trans ((JG9 ⟨ih, iN, doc, l, ver, hash⟩ ⟨ih2, iN2, doc2, l2, ver2, hash2⟩ z f z2 f2 hc.1 hc.2 k).trans hr))
 · cases hr
end
end Go.Proofs.YthpmachmnoljeaaGreat.Rx
