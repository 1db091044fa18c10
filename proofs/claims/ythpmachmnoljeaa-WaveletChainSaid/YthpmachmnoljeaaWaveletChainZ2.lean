/- An evaluator of the model's code over plain values, and the proof that it is sound. Conditions: none. -/
import Derived.Laws.StructEq
import Derived.ChangeKeysEq
import Derived.Laws.BytesArg
import Derived.Laws.Cover3
import Derived.Laws.Pointers
import Derived.Lib.ConvBytes
import Derived.Laws.AppendOwn
import Derived.Deep.AppendSrc
import Derived.Lib.AppendZeros
import Derived.Lib.AppendZerosOnto
import Derived.Test.YthpmachmnoljeaaWaveletChainZ1
noncomputable section
namespace Go.Proofs.Ythpmachmnoljeaa.Rx
open Go
set_option linter.unusedVariables false

def Jp3 (x : Option Value) (d n : Nat) : Prop := (x = none /\ n = d) ∨ ∃ k i, x = some (.int k i) /\ 0 <= i /\ i.toNat = n
theorem Q5 {P : Program} {w : World} {k : IntKind} {i : Int} {y n : Nat} {c : BoundsCode} (h0 : 0 <= i) (hn : i.toNat = n) (hy : n <= y) : (Instr.sliceBound (.int k i) y c).run P w = .ok n w := by
 have : i <= (y : Int) := by omega
 simp [Instr.sliceBound, asIntOf, h0, this, hn]
theorem Y3 {P : Program} {w : World} {s : Bool} {len cap : Nat} {lo hi : Option Value} {l h : Nat} (hl : Jp3 lo 0 l) (hh : Jp3 hi len h) (h1 : l <= h) (h2 : h <= cap) : (Instr.sliceBounds s len cap lo hi none).run P w = .ok (l, h, cap) w := by
 rcases hl with ⟨rfl, rfl⟩ | ⟨k, i, rfl, g1, g2⟩ <;> rcases hh with ⟨rfl, rfl⟩ | ⟨k', i', rfl, g3, g4⟩
 · simp [Instr.sliceBounds]
 · simp [Instr.sliceBounds, Q5 g3 g4 h2]
 · simp [Instr.sliceBounds, Q5 g1 g2 h1]
 · simp [Instr.sliceBounds, Q5 g1 g2 h1, Q5 g3 g4 h2]
theorem JcN {P : Program} {w : World} {s : Bool} {len cap : Nat} {lo hi mx : Option Value} {l h g : Nat} (hl : Jp3 lo 0 l) (hh : Jp3 hi len h) (hs : hi ≠ none) (hm : Jp3 mx 0 g) (hs2 : mx ≠ none) (h1 : l <= h) (h2 : h <= g) (h3 : g <= cap) : (Instr.sliceBounds s len cap lo hi mx).run P w = .ok (l, h, g) w := by
 rcases hm with ⟨rfl, rfl⟩ | ⟨k2, i2, rfl, g5, g6⟩
 · exact (hs2 rfl).elim
 rcases hl with ⟨rfl, rfl⟩ | ⟨k, i, rfl, g1, g2⟩ <;> rcases hh with ⟨rfl, rfl⟩ | ⟨k', i', rfl, g3, g4⟩
 · exact (hs rfl).elim
 · simp [Instr.sliceBounds, Q5 g3 g4 h2, Q5 g5 g6 h3]
 · exact (hs rfl).elim
 · simp [Instr.sliceBounds, Q5 g1 g2 h1, Q5 g3 g4 h2, Q5 g5 g6 h3]

section
variable {τ : Tab} {P : Program} (ok : TabOk τ P) {im im' : Im} {ow ow' : Own} {h : Ents} {w w' : World} {o : Oper} {rd : Operand -> PV}
include ok
theorem WE {x : Option Operand} {a : Act} {d n : Nat} {c : Bool} (hop : ∀ y, x = some y -> Jf τ im ow (rd y) (a.eval y)) (hb : bnd (x.map rd) d = some (c, n)) (hc : c = true) : Jp3 (x.map a.eval) d n := by
 have _ := ok
 cases x with
 | none => simp only [Option.map_none, bnd, Option.some.injEq, Prod.mk.injEq] at hb; exact .inl ⟨rfl, hb.2.symm⟩
 | some y =>
  have h1 := hop y rfl
  simp only [Option.map_some] at hb ⊢
  cases hy : rd y with
  | sc v =>
   rw [hy] at hb h1
   simp only [Jf] at h1
   cases v <;> simp [bnd] at hb
   obtain ⟨hb1, hb2⟩ := hb
   subst hc
   exact .inr ⟨_, _, by rw [h1.1], by simpa using hb1, hb2⟩
  | _ => rw [hy] at hb; simp [bnd] at hb
theorem JgQ {t x lo hi l h' a b} (ho : o.op = .slice t x lo hi none) (hu : τ.und t = some .string) (hx : (rd x).isStr = true) (hl : bnd (lo.map rd) 0 = some (a, l)) (ha : a = true) (hh : bnd (hi.map rd) (rd x).str.size = some (b, h')) (hb : b = true) (h1 : l <= h') (h2 : h' <= (rd x).str.size) :
   JT τ P o rd h (.sc (.string ((rd x).str.extract l h'))) [] := by
 intro im ow ac w hop hinv
 have hx1 := hop x (by simp [ho, Op.operands])
 rw [QM hx] at hx1
 simp only [Jf] at hx1
 have k1 := WE ok (x := lo) (a := ac) (fun y hy => hop y (by simp [ho, Op.operands, hy])) hl ha
 have k2 := WE ok (x := hi) (a := ac) (fun y hy => hop y (by simp [ho, Op.operands, hy])) hh hb
 refine ⟨.string ((rd x).str.extract l h'), w, im, ow, .inl ?_, Good.refl hinv rfl, ?_⟩
 · simp only [execOp, ho, Instr.sliceAt, Option.map_none, Sem.run_bind, Jv ok hu, Result.andThen_ok, Instr.slice, hx1.1]
   simp only [Option.isSome_none, Bool.false_eq_true, if_false, Sem.run_bind, Y3 k1 k2 h1 h2, Result.andThen_ok, Sem.run_pure]
 · simp only [Jf]; exact ⟨trivial, rfl⟩
theorem JgR {t x lo hi l h' a b n e id p} (ho : o.op = .slice t x lo hi none) (hu : τ.und t = some (.array n e)) (hx : rd x = .ptr id p) (hp : ZL τ h id p t = true) (hbx : JnN h id = true) (hl : bnd (lo.map rd) 0 = some (a, l)) (ha : a = true) (hh : bnd (hi.map rd) n = some (b, h')) (hb : b = true) (h1 : l <= h') (h2 : h' <= n) :
   JT τ P o rd h (.ow e id p l (h' - l) (some (n - l))) [] := by
 intro im ow ac w hop hinv
 have hx1 := hop x (by simp [ho, Op.operands])
 rw [hx] at hx1
 simp only [Jf] at hx1
 have k1 := WE ok (x := lo) (a := ac) (fun y hy => hop y (by simp [ho, Op.operands, hy])) hl ha
 have k2 := WE ok (x := hi) (a := ac) (fun y hy => hop y (by simp [ho, Op.operands, hy])) hh hb
 obtain ⟨loc, b', off, g1, g2, g3, g4, _⟩ := Jks ok hinv hp hx1
 obtain ⟨d, hd⟩ := (ok.arr t n e hu).2
 obtain ⟨bt, hroot⟩ : ∃ bt, loc.root = .box bt := by
   simp only [JnN] at hbx
   cases he : h id with
   | none => simp [he] at hbx
   | some x =>
     rw [he] at hbx
     cases x with
     | box fz bt v =>
       obtain ⟨loc', q1, q2, _⟩ := hinv.ent id _ he
       rw [g1] at q1; obtain rfl := Option.some.inj q1
       exact ⟨bt, q2⟩
     | _ => simp at hbx
 refine ⟨.slice (some (if n = l then ⟨b', loc.base + off, none⟩ else (⟨b', loc.base + off, none⟩ : Addr).add (l * τ.siz e))) (h' - l) (n - l), w, im, ow, .inl ?_, Good.refl hinv rfl, ?_⟩
 · simp only [execOp, ho, Instr.sliceAt, Option.map_none, Sem.run_bind, Jv ok hu, Result.andThen_ok, g4, Instr.sureAddr, Sem.run_pure, Y3 k1 k2 h1 h2, Qd ok hd]
 · simp only [Jf]
   refine ⟨loc, g1, .inr ⟨b', _, n - l, off, n, g2, rfl, by omega, ?_, by omega, fun c' hc' => ?_, (fun hh => by cases hh), ?_⟩⟩
   · rw [hroot] at g3 ⊢
     simp only [Root.place] at g3
     simp [Root.rowAt, g3, hu]
   · cases hc'; exact ⟨rfl, by omega⟩
   · split
     · rename_i hnl; right; omega
     · left; rw [Qr]; exact ⟨rfl, fun hh => by cases hh⟩
theorem JcO {t x lo hi mx e nl fl els} {l h' g : Nat} (ho : o.op = .slice t x lo hi mx) (hu : τ.und t = some (.slice e)) (hx : rd x = .ro e nl fl els)
   (hrun : ∀ (im : Im) (ow : Own) (ac : Act) (w : World) (c : Nat), (∀ y ∈ o.op.operands, Jf τ im ow (rd y) (ac.eval y)) -> els.length <= c -> (nl = true -> c = 0) -> (Instr.sliceBounds true els.length c (lo.map ac.eval) (hi.map ac.eval) (mx.map ac.eval)).run P w = .ok (l, h', if mx = none then c else g) w)
   (h1 : l <= h') (h2 : h' <= els.length) (h3 : mx ≠ none -> h' <= g /\ g <= els.length) (fl' : Bool) (hfl : nl = false -> fl' = true -> (mx = none /\ fl = true /\ h' = els.length) ∨ (mx ≠ none /\ h' = g)) :
   JT τ P o rd h (.ro e nl fl' ((els.take h').drop l)) [] := by
 intro im ow ac w hop hinv
 have hx1 := hop x (by simp [ho, Op.operands])
 rw [hx] at hx1
 simp only [Jf] at hx1
 obtain ⟨d, hd⟩ := ok.sl t e hu
 have hlen : ((els.take h').drop l).length = h' - l := by simp; omega
 have hopl : ∀ z, x = z -> True := fun _ _ => trivial
 rcases hx1 with ⟨a1, a2, a3⟩ | ⟨a1, ad, c, a2, a3, a4, a5⟩
 · have hb := hrun im ow ac w 0 hop (by omega) (fun _ => rfl)
   have hg : (if mx = none then 0 else g) = 0 := by
     split
     · rfl
     · rename_i hm; have := h3 hm; omega
   rw [hg] at hb
   rw [a3] at hb
   refine ⟨.slice none 0 0, w, im, ow, .inl ?_, Good.refl hinv rfl, ?_⟩
   · simp only [execOp, ho, Instr.sliceAt, Sem.run_bind, Jv ok hu, Result.andThen_ok, Instr.slice, a2, hb, Qd ok hd, Sem.run_pure]
     have e1 : l = 0 := by omega
     have e2 : h' = 0 := by omega
     simp [e1, e2]
   · simp only [Jf]; exact .inl ⟨a1, rfl, by omega⟩
 · have hb := hrun im ow ac w c hop a3 (fun hh => by rw [a1] at hh; cases hh)
   have hgc : l <= (if mx = none then c else g) /\ h' <= (if mx = none then c else g) /\ (if mx = none then c else g) <= c := by
     split
     · omega
     · rename_i hm; have := h3 hm; omega
   generalize hG : (if mx = none then c else g) = G at hb hgc
   refine ⟨.slice (some (if G = l then ad else ad.add (l * τ.siz e))) (h' - l) (G - l), w, im, ow, .inl ?_, Good.refl hinv rfl, ?_⟩
   · simp only [execOp, ho, Instr.sliceAt, Sem.run_bind, Jv ok hu, Result.andThen_ok, Instr.slice, a2, hb, Qd ok hd, Sem.run_pure]
     by_cases hGl : G = l <;> simp [hGl]
   · simp only [Jf]
     refine .inr ⟨a1, _, G - l, by rw [hlen], by rw [hlen]; omega, fun hf => ?_, ?_⟩
     · rw [hlen]
       clear a5
       rcases hfl a1 hf with ⟨q1, q2, q3⟩ | ⟨q1, q2⟩
       · have := a4 q2; rw [if_pos q1] at hG; omega
       · rw [if_neg q1] at hG; omega
     · rw [hlen]
       by_cases h0 : h' - l = 0
       · exact .inl h0
       · right
         have hne : ¬ G = l := by omega
         simp only [if_neg hne]
         rcases a5 with a5 | ⟨s, cells, el, fr, pre, mid, post, m1, m2, m3, m4⟩
         · omega
         · obtain ⟨b, off, sp⟩ := ad
           simp only at s m1 m3; subst s
           rw [Qr]
           have hsub : (els.take h').drop l = (els.drop l).take (h' - l) := by rw [List.drop_take]
           obtain ⟨pre2, mid2, post2, rfl, r1, r2, _⟩ := Jm.sub ok ⟨d, hd⟩ l (h' - l) (by omega) m4
           exact ⟨rfl, cells, el, fr, pre ++ pre2, mid2, post2 ++ post, m1, by rw [m2]; simp, by simp [m3, r1], by rw [hsub]; exact r2⟩
theorem JcP {t x lo hi mx e id p off len cap ent l0} {l h' g : Nat} (ho : o.op = .slice t x lo hi mx) (hu : τ.und t = some (.slice e)) (hx : rd x = .ow e id p off len cap) (he : h id = some ent) (hrow : ent.row p = some l0)
   (hrun : ∀ (im : Im) (ow : Own) (ac : Act) (w : World) (c : Nat), (∀ y ∈ o.op.operands, Jf τ im ow (rd y) (ac.eval y)) -> cap.getD (l0.length - off) <= c -> len <= c -> (Instr.sliceBounds true len c (lo.map ac.eval) (hi.map ac.eval) (mx.map ac.eval)).run P w = .ok (l, h', if mx = none then c else g) w)
   (h1 : l <= h') (h2 : h' <= cap.getD (l0.length - off)) (h3 : mx ≠ none -> h' <= g /\ g <= cap.getD (l0.length - off)) :
   JT τ P o rd h (.ow e id p (off + l) (h' - l) (if mx = none then cap.map (· - l) else some (g - l))) [] := by
 intro im ow ac w hop hinv
 have hx1 := hop x (by simp [ho, Op.operands])
 rw [hx] at hx1
 simp only [Jf] at hx1
 obtain ⟨d, hd⟩ := ok.sl t e hu
 obtain ⟨loc, g1, g2⟩ := hx1
 rcases g2 with ⟨a1, rfl, rfl, rfl, a5, nl, a6, a7⟩ | ⟨b, ad, c, off2, n, a1, a2, a3, a4, a5, a6, a7, a8⟩
 · -- no block: nothing is there
   have hl0 : l0 = [] := by
     obtain ⟨loc', k1, k2⟩ := hinv.ent id ent he
     rw [g1] at k1; obtain rfl := Option.some.inj k1
     cases ent with
     | dead => simp [Ent.row] at hrow
     | box fz t v => obtain ⟨q1, _⟩ := k2; rw [a6] at q1; cases q1
     | vec fz t nl' els =>
       obtain ⟨q1, _⟩ := k2
       rw [a6] at q1
       simp only [Root.vec.injEq] at q1
       simp only [Ent.row, Option.some.injEq] at hrow
       subst hrow
       exact List.length_eq_zero_iff.1 q1.2.1.symm
   have hcap : cap.getD (l0.length - 0) = 0 := by
     rw [hl0]; rcases a5 with rfl | rfl <;> rfl
   have e2 : h' = 0 := by omega
   have e1 : l = 0 := by omega
   have hg : (if mx = none then 0 else g) = 0 := by
     split
     · rfl
     · rename_i hm; have := h3 hm; omega
   have hb := hrun im ow ac w 0 hop (by omega) (by omega)
   rw [hg] at hb
   subst e1 e2
   have hcap' : (if mx = none then cap.map (· - 0) else some (g - 0)) = none ∨ (if mx = none then cap.map (· - 0) else some (g - 0)) = some 0 := by
     split
     · rcases a5 with rfl | rfl <;> simp
     · rename_i hm; right; have := h3 hm; simp; omega
   refine ⟨ac.eval x, w, im, ow, .inl ?_, Good.refl hinv rfl, ?_⟩
   · rcases a7 with ⟨_, a7⟩ | ⟨_, ad, a7⟩
     · simp only [execOp, ho, Instr.sliceAt, Sem.run_bind, Jv ok hu, Result.andThen_ok, Instr.slice, a7, hb, Qd ok hd, Sem.run_pure]
       simp
     · simp only [execOp, ho, Instr.sliceAt, Sem.run_bind, Jv ok hu, Result.andThen_ok, Instr.slice, a7, hb, Qd ok hd, Sem.run_pure]
       simp
   · simp only [Jf]
     exact ⟨loc, g1, .inl ⟨a1, rfl, rfl, rfl, hcap', nl, a6, a7⟩⟩
 · obtain ⟨k1, k2, k3, cells, el, fr, pre, mid, post, m1, m2, m3, m4, m5, _⟩ := ZR ok (hinv.ent id ent he) g1 a1 hrow a4
   have hc : cap.getD (l0.length - off) <= c := by
     cases cap with
     | none => have := a7 rfl; simp only [Option.getD_none]; omega
     | some c' => have := (a6 c' rfl).1; simp only [Option.getD_some]; omega
   have hn : off + cap.getD (l0.length - off) <= n := by
     cases cap with
     | none => simp only [Option.getD_none]; omega
     | some c' => exact (a6 c' rfl).2
   have hb := hrun im ow ac w c hop hc a3
   have hgc : h' <= (if mx = none then c else g) /\ (if mx = none then c else g) <= c := by
     split
     · omega
     · rename_i hm; have := h3 hm; omega
   generalize hG : (if mx = none then c else g) = G at hb hgc
   refine ⟨.slice (some (if G = l then ad else ad.add (l * τ.siz e))) (h' - l) (G - l), w, im, ow, .inl ?_, Good.refl hinv rfl, ?_⟩
   · simp only [execOp, ho, Instr.sliceAt, Sem.run_bind, Jv ok hu, Result.andThen_ok, Instr.slice, a2, hb, Qd ok hd, Sem.run_pure]
     by_cases hGl : G = l <;> simp [hGl]
   · simp only [Jf]
     refine ⟨loc, g1, .inr ⟨b, _, G - l, off2, n, a1, rfl, by omega, a4, by omega, fun c' hc' => ?_, fun hh => ?_, ?_⟩⟩
     · split at hc'
       · rename_i hm
         rw [if_pos hm] at hG
         cases cap with
         | none => cases hc'
         | some c2 =>
           simp only [Option.map_some, Option.some.injEq] at hc'
           have := a6 c2 rfl
           subst hc' hG
           simp only [Option.getD_some] at *
           omega
       · rename_i hm
         rw [if_neg hm] at hG
         have := h3 hm
         simp only [Option.some.injEq] at hc'
         omega
     · split at hh
       · rename_i hm
         rw [if_pos hm] at hG
         cases cap with
         | none => have := a7 rfl; omega
         | some c2 => cases hh
       · cases hh
     · by_cases hGl : G = l
       · right; omega
       · left
         simp only [if_neg hGl]
         rcases a8 with ⟨rfl, a9⟩ | a8
         · refine ⟨by rw [Qr]; congr 1; rw [Nat.add_mul]; omega, fun hh => ?_⟩
           split at hh
           · rename_i hm
             rw [if_pos hm] at hG
             cases cap with
             | none =>
              have h9 := a9 rfl
              have e9 : off + l + (G - l) = off + c := by omega
              rw [e9]; exact h9
             | some c2 => cases hh
           · cases hh
         · omega
end
end Go.Proofs.Ythpmachmnoljeaa.Rx
end

noncomputable section
namespace Go.Proofs.Ythpmachmnoljeaa.Rx
open Go
set_option linter.unusedVariables false

theorem Jkt {P : Program} {w : World} {op : BinOp} {t : TypeId} {k : IntKind} {x y : Int} {v : Value} (h : JbX op k x y = some (true, v)) : (binOp op t (.int k x) (.int k y)).run P w = .ok v w := by
 cases op <;> simp [JbX] at h
 case quo => obtain ⟨h0, rfl⟩ := h; simp [binOp, Op.intDiv, h0]
 case rem => obtain ⟨h0, rfl⟩ := h; simp [binOp, Op.intDiv, h0]
 all_goals (subst h; simp [binOp, Op.intArith, Op.intBits, Op.intCmp, JM])
theorem Jku {op : BinOp} {k : IntKind} {x y : Int} {c : Bool} {v : Value} (h : JbX op k x y = some (c, v)) : v.oneCell' = true := by
 cases op <;> simp [JbX] at h <;> (obtain ⟨_, rfl⟩ := h; rfl)
theorem Jkv {P : Program} {w : World} {op : BinOp} {t : TypeId} {x y : ByteArray} {v : Value} (h : JdH op x y = some (true, v)) : (binOp op t (.string x) (.string y)).run P w = .ok v w := by
 cases op <;> simp [JdH] at h
 case add =>
  obtain ⟨h0, rfl⟩ := h
  have : ¬ (((x.size + y.size : Nat) : Int) > IntKind.i64.max) := by
   have : IntKind.i64.max = 9223372036854775807 := by decide
   omega
  simp only [binOp, Op.stringOp, if_neg this, Sem.run_pure]
 all_goals (subst h; simp [binOp, Op.stringOp])
theorem Jkw {op : BinOp} {x y : ByteArray} {c : Bool} {v : Value} (h : JdH op x y = some (c, v)) : v.oneCell' = true := by
 cases op <;> simp [JdH] at h <;> (obtain ⟨_, rfl⟩ := h; rfl)
theorem WQ {P : Program} {w : World} {op : BinOp} {k : FloatKind} {x y r : Nat} (h : (op = .add /\ k.format.add x y = some r) ∨ (op = .sub /\ k.format.sub x y = some r) ∨ (op = .mul /\ k.format.mul x y = some r)) : (Op.floatArith op k x y).run P w = .ok (.float k r) w := by
 rcases h with ⟨rfl, h⟩ | ⟨rfl, h⟩ | ⟨rfl, h⟩ <;> simp [Op.floatArith, h]
theorem WR {o : Option Nat} (h : o.isSome = true) : o = some (o.getD 0) := by cases o <;> simp_all
theorem Jkx {P : Program} {w : World} {op : BinOp} {t : TypeId} {k : FloatKind} {x y : Nat} {v : Value} (h : JdI op k x y = some (true, v)) : (binOp op t (.float k x) (.float k y)).run P w = .ok v w := by
 cases op <;> simp [JdI] at h
 case add => obtain ⟨h0, rfl⟩ := h; simp only [binOp, ne_eq, not_true_eq_false, if_false]; exact WQ (.inl ⟨rfl, WR h0⟩)
 case sub => obtain ⟨h0, rfl⟩ := h; simp only [binOp, ne_eq, not_true_eq_false, if_false]; exact WQ (.inr (.inl ⟨rfl, WR h0⟩))
 case mul => obtain ⟨h0, rfl⟩ := h; simp only [binOp, ne_eq, not_true_eq_false, if_false]; exact WQ (.inr (.inr ⟨rfl, WR h0⟩))
 all_goals (subst h; simp [binOp, Op.floatCmp])
theorem Jky {op : BinOp} {k : FloatKind} {x y : Nat} {c : Bool} {v : Value} (h : JdI op k x y = some (c, v)) : v.oneCell' = true := by
 cases op <;> simp [JdI] at h <;> (obtain ⟨_, rfl⟩ := h; rfl)
theorem Jkz {P : Program} {w : World} {op : BinOp} {t : TypeId} {k : FloatKind} {a b c d : Nat} {v : Value} (h : JdJ op k a b c d = some (true, v)) : (binOp op t (.complex k a b) (.complex k c d)).run P w = .ok v w := by
 cases op <;> simp [JdJ] at h
 case add =>
  obtain ⟨⟨h0, h1⟩, rfl⟩ := h
  simp only [binOp, ne_eq, not_true_eq_false, if_false, Op.complexOp, Op.Complex.arith, Sem.run_bind, WQ (P := P) (w := w) (.inl ⟨rfl, WR h0⟩), WQ (P := P) (w := w) (.inl ⟨rfl, WR h1⟩), Result.andThen_ok, Sem.run_pure]
 case sub =>
  obtain ⟨⟨h0, h1⟩, rfl⟩ := h
  simp only [binOp, ne_eq, not_true_eq_false, if_false, Op.complexOp, Op.Complex.arith, Sem.run_bind, WQ (P := P) (w := w) (.inr (.inl ⟨rfl, WR h0⟩)), WQ (P := P) (w := w) (.inr (.inl ⟨rfl, WR h1⟩)), Result.andThen_ok, Sem.run_pure]
 case eql =>
  subst h
  simp only [binOp, ne_eq, not_true_eq_false, if_false, Op.complexOp, Op.Complex.cmp, Op.floatCmp, asBool, Sem.run_bind, Sem.run_pure, Result.andThen_ok]
  try (cases (k.format.order a c == some .eq) <;> simp)
 case neq =>
  subst h
  simp only [binOp, ne_eq, not_true_eq_false, if_false, Op.complexOp, Op.Complex.cmp, Op.floatCmp, asBool, Sem.run_bind, Sem.run_pure, Result.andThen_ok]
  try (cases (k.format.order a c == some .eq) <;> simp)
theorem JkA {op : BinOp} {k : FloatKind} {a b c d : Nat} {r : Bool} {v : Value} (h : JdJ op k a b c d = some (r, v)) : v.oneCell' = true := by
 cases op <;> simp [JdJ] at h <;> (obtain ⟨_, rfl⟩ := h; rfl)

section
variable {τ : Tab} {P : Program} (ok : TabOk τ P) {im im' : Im} {ow ow' : Own} {h : Ents} {w w' : World} {o : Oper} {rd : Operand -> PV}
include ok
theorem ZH {n : Nat} (ih : ∀ (t : TypeId) (x y : PV) (u v : Value), Jf τ im ow x u -> Jf τ im ow y v -> (eqP τ n t x y).1 = true -> ∀ m, (Op.equalIn (n + m) t u v).run P w = .ok (eqP τ n t x y).2 w)
  (m : Nat) (xs ys : Array Value) : ∀ (l l' : List PV) (fds : List Field) (off N : Nat) (px py cs cs' qx qy : List Value) (j : Nat), xs.toList = px ++ cs ++ qx -> ys.toList = py ++ cs' ++ qy -> px.length = off -> py.length = off -> FieldsOk τ off fds N -> JS τ im ow l (fds.map (·.type)) cs -> JS τ im ow l' (fds.map (·.type)) cs' ->
  (∀ f ∈ fds, f.name ≠ "_") -> (∀ i f, fds[i]? = some f -> (eqP τ n f.type (l.getD i .top) (l'.getD i .top)).1 = true) ->
  (Op.eqFields (n + m) xs ys fds).run P w = .ok (fds.zipIdx.all fun q => (eqP τ n q.1.type (l.getD q.2 .top) (l'.getD q.2 .top)).2) w
 | l, l', [], off, N, px, py, cs, cs', qx, qy, j, _, _, _, _, _, _, _, _, _ => by simp [Op.eqFields]
 | l, l', f :: fds, off, N, px, py, cs, cs', qx, qy, j, hx, hy, hpx, hpy, hfo, hl, hl', hnm, hall => by
   cases l with
   | nil => simp [JS] at hl
   | cons p ps =>
   cases l' with
   | nil => simp [JS] at hl'
   | cons p' ps' =>
   simp only [JS, List.map_cons] at hl hl'
   obtain ⟨t1, r1, c1, c2, e1, rfl, g1, g2⟩ := hl
   obtain ⟨t2, r2, d1, d2, e2, rfl, k1, k2⟩ := hl'
   simp only [List.cons.injEq] at e1 e2
   obtain ⟨rfl, rfl⟩ := e1
   obtain ⟨rfl, rfl⟩ := e2
   simp only [FieldsOk] at hfo
   obtain ⟨hf1, ⟨d, hd⟩, hf3⟩ := hfo
   have l1 := Rep.len ok _ _ _ ⟨d, hd⟩ g1
   have l2 := Rep.len ok _ _ _ ⟨d, hd⟩ k1
   have hn := hnm f List.mem_cons_self
   have pa := YL ok (w := w) hd (cs := xs) (off := f.offset) (pre := px) (mid := c1) (post := c2 ++ qx) (by rw [hx]; simp) l1 (by rw [hpx, hf1])
   have pb := YL ok (w := w) hd (cs := ys) (off := f.offset) (pre := py) (mid := d1) (post := d2 ++ qy) (by rw [hy]; simp) l2 (by rw [hpy, hf1])
   have hc := hall 0 f rfl
   simp only [List.getD_cons_zero] at hc
   have he := ih f.type p p' _ _ (Rep.toV ok hd g1) (Rep.toV ok hd k1) hc m
   have rest := ZH ih m xs ys ps ps' fds (off + τ.siz f.type) N (px ++ c1) (py ++ d1) c2 d2 qx qy (j + 1) (by rw [hx]; simp) (by rw [hy]; simp) (by simp [hpx, l1]) (by simp [hpy, l2]) hf3 g2 k2 (fun g hg => hnm g (List.mem_cons_of_mem _ hg)) (fun i g hg => by simpa using hall (i + 1) g (by simpa using hg))
   have hz : (f :: fds).zipIdx.all (fun q => (eqP τ n q.1.type ((p :: ps).getD q.2 .top) ((p' :: ps').getD q.2 .top)).2) = ((eqP τ n f.type p p').2 && fds.zipIdx.all (fun q => (eqP τ n q.1.type (ps.getD q.2 .top) (ps'.getD q.2 .top)).2)) := by
    rw [List.zipIdx_cons, List.all_cons]
    congr 1
    rw [show (0 + 1) = 1 from rfl, List.zipIdx_succ, List.all_map]
    rfl
   rw [hz]
   simp only [Op.eqFields, hn, ne_eq, not_false_eq_true, if_true, Sem.run_bind, pa, pb, Result.andThen_ok, he]
   cases hb : (eqP τ n f.type p p').2 with
   | false => simp
   | true => simp only [Bool.not_true, Bool.false_eq_true, if_false, Bool.true_and]; exact rest
theorem ZV {e : TypeId} {k : IntKind} (he : τ.und e = some (.int k)) (m : Nat) (xs ys : Array Value) : ∀ (l l' : List PV) (px py cs cs' qx qy : List Value) (j : Nat), xs.toList = px ++ cs ++ qx -> ys.toList = py ++ cs' ++ qy -> px.length = j -> py.length = j -> l.length = l'.length -> QE l cs -> QE l' cs' -> Jl k l = true -> Jl k l' = true ->
  (Op.eqItems (m + 1) e (P.cellsOf e) xs ys (List.range' j l.length)).run P w = .ok (Qf l l') w
 | [], l', px, py, cs, cs', qx, qy, j, _, _, _, _, hlen, _, _, _, _ => by
   obtain rfl := List.length_eq_zero_iff.1 hlen.symm
   simp [Op.eqItems, Qf]
 | p :: ps, [], px, py, cs, cs', qx, qy, j, _, _, _, _, hlen, _, _, _, _ => by simp at hlen
 | p :: ps, p' :: ps', px, py, cs, cs', qx, qy, j, hx, hy, hpx, hpy, hlen, h1, h2, h3, h4 => by
   simp only [QE] at h1 h2
   obtain ⟨v, r, rfl, a1, a2, a3⟩ := h1
   obtain ⟨v', r', rfl, b1, b2, b3⟩ := h2
   simp only [Jl, Bool.and_eq_true] at h3 h4
   have q1 := Qs h3.1
   have q2 := Qs h4.1
   have hv : v = .int k p.int := by
     rcases a2 with a2 | a2
     · rw [q1] at a2; exact (PV.sc.inj a2).symm
     · rw [a2] at h3; simp [PV.isInt] at h3
   have hv' : v' = .int k p'.int := by
     rcases b2 with b2 | b2
     · rw [q2] at b2; exact (PV.sc.inj b2).symm
     · rw [b2] at h4; simp [PV.isInt] at h4
   subst hv hv'
   have hsz : τ.siz e = 1 := ZQ ok (by simp [Tab.scal, he])
   have hce : P.cellsOf e = 1 := by
     obtain ⟨i, g1, g2, _⟩ := ok.info e _ he
     simp [Program.cellsOf, g1, g2, hsz]
   have hagg : τ.agg e = false := by simp [Tab.agg, he]
   have pa := YL ok (w := w) he (cs := xs) (off := j * P.cellsOf e) (pre := px) (mid := [.int k p.int]) (post := r ++ qx) (by rw [hx]; simp) (by simp [hsz]) (by rw [hpx, hce]; omega)
   have pb := YL ok (w := w) he (cs := ys) (off := j * P.cellsOf e) (pre := py) (mid := [.int k p'.int]) (post := r' ++ qy) (by rw [hy]; simp) (by simp [hsz]) (by rw [hpy, hce]; omega)
   have rest := ZV he m xs ys ps ps' (px ++ [.int k p.int]) (py ++ [.int k p'.int]) r r' qx qy (j + 1) (by rw [hx]; simp) (by rw [hy]; simp) (by simp [hpx]) (by simp [hpy]) (by simpa using hlen) a3 b3 h3.2 h4.2
   have heq := run_equalIn_int (P := P) w m e k k p.int p'.int (ok.und e _ he)
   simp only [List.length_cons, List.range'_succ, Op.eqItems, Sem.run_bind, pa, pb, Result.andThen_ok, hagg, J5, List.headD, heq, Qf]
   cases (p.int == p'.int)
   · simp
   · simpa using rest
theorem JdV : ∀ (n : Nat) (t : TypeId) (x y : PV) (u v : Value), Jf τ im ow x u -> Jf τ im ow y v -> (eqP τ n t x y).1 = true -> ∀ m, (Op.equalIn (n + m) t u v).run P w = .ok (eqP τ n t x y).2 w
 | 0, t, x, y, u, v, _, _, h, m => by simp [eqP] at h
 | n + 1, t, x, y, u, v, hx, hy, h, m => by
  have hnm : n + 1 + m = (n + m) + 1 := by omega
  rw [hnm]
  simp only [eqP] at h ⊢
  cases hu : τ.und t with
  | none => simp [hu] at h
  | some d =>
   cases d with
   | int k =>
    simp only [hu, Bool.and_eq_true] at h ⊢
    rw [Qs h.1] at hx; rw [Qs h.2] at hy
    simp only [Jf] at hx hy
    rw [hx.1, hy.1]
    exact run_equalIn_int w (n + m) t k k _ _ (ok.und t _ hu)
   | bool =>
    simp only [hu, Bool.and_eq_true] at h ⊢
    rw [Wm h.1] at hx; rw [Wm h.2] at hy
    simp only [Jf] at hx hy
    rw [hx.1, hy.1]
    exact run_equalIn_bool' w (n + m) t _ _ (ok.und t _ hu)
   | string =>
    simp only [hu, Bool.and_eq_true] at h ⊢
    rw [QM h.1] at hx; rw [QM h.2] at hy
    simp only [Jf] at hx hy
    rw [hx.1, hy.1]
    exact run_equalIn_string w (n + m) t _ _ (ok.und t _ hu)
   | array N e =>
    simp only [hu] at h ⊢
    cases n with
    | zero => simp at h
    | succ n =>
      cases he : τ.und e with
      | none => simp [he] at h
      | some de =>
        cases de with
        | int k =>
         simp only [he, Bool.and_eq_true, decide_eq_true_eq] at h ⊢
         obtain ⟨⟨⟨⟨⟨h1, h2⟩, h3⟩, h4⟩, h5⟩, h6⟩ := h
         rw [Jam h1] at hx; rw [Jam h2] at hy
         simp only [Jf] at hx hy
         obtain ⟨cs, n1, e1, rfl, a1, a2, a3, a4⟩ := hx
         obtain ⟨cs', n2, e2, rfl, b1, b2, b3, b4⟩ := hy
         obtain ⟨i, g1, _⟩ := ok.info e _ he
         rw [run_equalIn_array w (n + 1 + m) cs cs' (ok.und t _ hu) g1]
         have hr : List.range N = List.range' 0 x.els.length := by rw [h3, List.range_eq_range']
         rw [hr, show n + 1 + m = (n + m) + 1 from by omega]
         exact ZV ok he (n + m) cs cs' x.els y.els [] [] cs.toList cs'.toList [] [] 0 (by simp) (by simp) rfl rfl (by rw [h3, h4]) a4 b4 h5 h6
        | _ => simp [he] at h
   | struct fds =>
    simp only [hu, Bool.and_eq_true] at h ⊢
    obtain ⟨⟨⟨h1, h2⟩, h3⟩, h4⟩ := h
    obtain ⟨q1, q2⟩ := VD h1
    obtain ⟨r1, r2⟩ := VD h2
    generalize x.fs = l at q1 q2
    generalize y.fs = l' at r1 r2
    subst q1 r1
    simp only [Jf] at hx hy
    obtain ⟨cs, rfl, ⟨f1, a1, a2⟩ | ⟨_, _, a1, _⟩⟩ := hx
    · obtain ⟨cs', rfl, ⟨f2, b1, b2⟩ | ⟨_, _, b1, _⟩⟩ := hy
      · rw [hu] at a1 b1
        simp only [Option.some.injEq, TypeDesc.struct.injEq] at a1 b1
        subst a1 b1
        have hfs : P.fieldsOf t = fds := by simp [Program.fieldsOf, ok.und t _ hu]
        rw [run_equalIn_struct w (n + m) t cs cs' (by rw [hfs]; exact ok.und t _ hu) (ok.str t fds hu).2, hfs]
        have := ZH ok (fun t x y u v hx hy hh mm => JdV n t x y u v hx hy hh mm) m cs cs' l l' fds.toList 0 _ [] [] cs.toList cs'.toList [] [] 0 (by simp) (by simp) rfl rfl (ok.str t fds hu).1 a2 b2 (fun f hf => by simpa using (List.all_eq_true.1 h3) f hf) (fun i f hf => by
         simp only [List.all_map, List.all_eq_true] at h4
         have := h4 (f, i) (by rw [List.mem_iff_getElem?]; exact ⟨i, by simp [List.getElem?_zipIdx, hf]⟩)
         simpa [PV.child] using this)
        rw [this]
        simp only [List.all_map, PV.child]
        rfl
      · rw [hu] at b1; cases b1
    · rw [hu] at a1; cases a1
   | _ => simp [hu] at h
end
end Go.Proofs.Ythpmachmnoljeaa.Rx
end

noncomputable section
namespace Go.Proofs.Ythpmachmnoljeaa.Rx
open Go
set_option linter.unusedVariables false

theorem JcQ {P : Program} {w : World} {d : Nat} {t e : TypeId} {a : Addr} (h : P.underlying t = some (.pointer e)) : (Op.equalIn (d + 1) t (.pointer (some a)) (.pointer none)).run P w = .ok false w := by
 simp [Op.equalIn, underlying, h]
section
variable {τ : Tab} {P : Program} (ok : TabOk τ P) {im im' : Im} {ow ow' : Own} {h : Ents} {w w' : World} {o : Oper} {rd : Operand -> PV}
include ok
theorem JiX {op : BinOp} {t : TypeId} {x y : Operand} {u v : Value} {d} (hd : τ.und t = some d) (h1 : ∀ m, u ≠ .nilIface ∨ v ≠ m) (h2 : ∀ xs ys, u = .agg xs -> v = .agg ys -> τ.agg t = true) : (eqGuard op t x y u v).run P w = .ok () w := by
 have hn : ¬ (u = .nilIface /\ v = .nilIface) := by rintro ⟨a, b⟩; rcases h1 .nilIface with h | h <;> contradiction
 cases u <;> cases v <;> first
  | (cases op <;> simp [eqGuard]; done)
  | exact absurd ⟨rfl, rfl⟩ hn
  | exact run_eqGuard_agg w op t x y _ _ (ok.guard t d hd (h2 _ _ rfl rfl))
theorem JqO {op t x y t2 v} (ho : o.op = .binOp op t x y t2) (he : JnO τ op t h (rd x) (rd y) = some (true, v)) : JT τ P o rd h (.sc v) [] := by
 intro im ow a w hop hi
 have hx := hop x (by simp [ho, Op.operands])
 have hy := hop y (by simp [ho, Op.operands])
 suffices H : v.oneCell' = true /\ (eqGuard op t x y (a.eval x) (a.eval y)).run P w = .ok () w /\ (binOp op t (a.eval x) (a.eval y)).run P w = .ok v w by
  refine ⟨v, w, im, ow, .inl ?_, Good.refl hi rfl, ?_⟩
  · simp [execOp, ho, H.2.1, H.2.2]
  · simp only [Jf]; exact ⟨trivial, H.1⟩
 simp only [JnO] at he
 cases hu : τ.und t with
 | none => simp [hu] at he
 | some d =>
  have guard : (∀ m, a.eval x ≠ .nilIface ∨ a.eval y ≠ m) -> (∀ xs ys, a.eval x = .agg xs -> a.eval y = .agg ys -> τ.agg t = true) -> (eqGuard op t x y (a.eval x) (a.eval y)).run P w = .ok () w := JiX ok hu
  cases d with
  | int k =>
    simp only [hu] at he
    have shiftCase : ∀ (k' : IntKind) (m : Int), rd y = .sc (.int k' m) -> (rd x).isInt k = true -> 0 <= m -> ((op = .shl /\ v = .int k (Xt k (rd x).int m)) ∨ (op = .shr /\ v = .int k (JX k (rd x).int m))) -> v.oneCell' = true /\ (eqGuard op t x y (a.eval x) (a.eval y)).run P w = .ok () w /\ (binOp op t (a.eval x) (a.eval y)).run P w = .ok v w := by
      intro k' m hy' hx' h0 hop'
      rw [hy'] at hy; rw [Qs hx'] at hx
      simp only [Jf] at hx hy
      have hlt : ¬ m < 0 := by omega
      refine ⟨?_, ?_, ?_⟩
      · rcases hop' with ⟨_, rfl⟩ | ⟨_, rfl⟩ <;> rfl
      · exact guard (fun m => .inl (by rw [hx.1]; simp)) (fun xs ys hh => by rw [hx.1] at hh; cases hh)
      · rw [hx.1, hy.1]
        rcases hop' with ⟨rfl, rfl⟩ | ⟨rfl, rfl⟩ <;> simp [binOp, Op.shift, hlt, Xt, JX]
    have plainCase : (JbX op k (rd x).int (rd y).int).map (fun r => ((rd x).isInt k && (rd y).isInt k && r.1, r.2)) = some (true, v) -> v.oneCell' = true /\ (eqGuard op t x y (a.eval x) (a.eval y)).run P w = .ok () w /\ (binOp op t (a.eval x) (a.eval y)).run P w = .ok v w := by
      intro he
      simp only [Option.map_eq_some_iff, Prod.mk.injEq, Bool.and_eq_true] at he
      obtain ⟨r, h1, ⟨⟨h2, h3⟩, h4⟩, rfl⟩ := he
      rw [Qs h2] at hx; rw [Qs h3] at hy
      simp only [Jf] at hx hy
      obtain ⟨c, v⟩ := r
      simp only at h4; subst h4
      refine ⟨Jku h1, guard (fun m => .inl (by rw [hx.1]; simp)) (fun xs ys hh => by rw [hx.1] at hh; cases hh), ?_⟩
      rw [hx.1, hy.1]
      exact Jkt h1
    cases op
    case shl =>
      simp only at he
      split at he
      · rename_i k' m hy'
        simp only [Option.some.injEq, Prod.mk.injEq, Bool.and_eq_true, decide_eq_true_eq] at he
        exact shiftCase k' m hy' he.1.1 he.1.2 (.inl ⟨rfl, he.2.symm⟩)
      · cases he
    case shr =>
      simp only at he
      split at he
      · rename_i k' m hy'
        simp only [Option.some.injEq, Prod.mk.injEq, Bool.and_eq_true, decide_eq_true_eq] at he
        exact shiftCase k' m hy' he.1.1 he.1.2 (.inr ⟨rfl, he.2.symm⟩)
      · cases he
    all_goals exact plainCase he
  | bool =>
    simp only [hu] at he
    cases op <;> simp only [Option.some.injEq, Prod.mk.injEq, Bool.and_eq_true, reduceCtorEq] at he
    case eql =>
      obtain ⟨⟨h1, h2⟩, rfl⟩ := he
      rw [Wm h1] at hx; rw [Wm h2] at hy
      simp only [Jf] at hx hy
      refine ⟨rfl, guard (fun m => .inl (by rw [hx.1]; simp)) (fun xs ys hh => by rw [hx.1] at hh; cases hh), ?_⟩
      rw [hx.1, hy.1]
      have := run_equalIn_bool' w 9999 t (rd x).bool (rd y).bool (ok.und t _ hu)
      simp only [binOp, Op.equal, Op.maxDepth, Sem.run_bind, this, Result.andThen_ok, Sem.run_pure]
    case neq =>
      obtain ⟨⟨h1, h2⟩, rfl⟩ := he
      rw [Wm h1] at hx; rw [Wm h2] at hy
      simp only [Jf] at hx hy
      refine ⟨rfl, guard (fun m => .inl (by rw [hx.1]; simp)) (fun xs ys hh => by rw [hx.1] at hh; cases hh), ?_⟩
      rw [hx.1, hy.1]
      have := run_equalIn_bool' w 9999 t (rd x).bool (rd y).bool (ok.und t _ hu)
      simp only [binOp, Op.equal, Op.maxDepth, Sem.run_bind, this, Result.andThen_ok, Sem.run_pure]
  | string =>
    simp only [hu, Option.map_eq_some_iff, Prod.mk.injEq, Bool.and_eq_true] at he
    obtain ⟨r, h1, ⟨⟨h2, h3⟩, h4⟩, rfl⟩ := he
    rw [QM h2] at hx; rw [QM h3] at hy
    simp only [Jf] at hx hy
    obtain ⟨c, v⟩ := r
    simp only at h4; subst h4
    refine ⟨Jkw h1, guard (fun m => .inl (by rw [hx.1]; simp)) (fun xs ys hh => by rw [hx.1] at hh; cases hh), ?_⟩
    rw [hx.1, hy.1]
    exact Jkv h1
  | float k =>
    simp only [hu, Option.map_eq_some_iff, Prod.mk.injEq, Bool.and_eq_true] at he
    obtain ⟨r, h1, ⟨⟨h2, h3⟩, h4⟩, rfl⟩ := he
    rw [Jal h2] at hx; rw [Jal h3] at hy
    simp only [Jf] at hx hy
    obtain ⟨c, v⟩ := r
    simp only at h4; subst h4
    refine ⟨Jky h1, guard (fun m => .inl (by rw [hx.1]; simp)) (fun xs ys hh => by rw [hx.1] at hh; cases hh), ?_⟩
    rw [hx.1, hy.1]
    exact Jkx h1
  | complex k =>
    simp only [hu, Option.map_eq_some_iff, Prod.mk.injEq, Bool.and_eq_true] at he
    obtain ⟨r, h1, ⟨⟨h2, h3⟩, h4⟩, rfl⟩ := he
    rw [JdS h2] at hx; rw [JdS h3] at hy
    simp only [Jf] at hx hy
    obtain ⟨c, v⟩ := r
    simp only at h4; subst h4
    refine ⟨JkA h1, guard (fun m => .inl (by rw [hx.1]; simp)) (fun xs ys hh => by rw [hx.1] at hh; cases hh), ?_⟩
    rw [hx.1, hy.1]
    exact Jkz h1
  | slice e =>
    simp only [hu] at he
    split at he
    · rename_i hy'
      rw [hy'] at hy
      simp only [Jf] at hy
      have key : ∀ b, ZN h e (rd x) = some b -> ∃ A n c, a.eval x = .slice A n c /\ A.isNone = b := by
        intro b hb
        cases hr : rd x with
        | ro e' nl fl els =>
          rw [hr] at hb hx
          simp only [ZN] at hb
          simp only [Jf] at hx
          cases he' : (e' == e) with
          | false => simp [he'] at hb
          | true =>
            simp only [he', cond_true, Option.some.injEq] at hb
            subst hb
            rcases hx with ⟨rfl, hx, _⟩ | ⟨rfl, A, c, hx, _⟩
            · exact ⟨none, 0, 0, hx, rfl⟩
            · exact ⟨some A, _, c, hx, rfl⟩
        | ow e' id p off len cap =>
          rw [hr] at hb hx
          simp only [ZN] at hb
          simp only [Jf] at hx
          cases he' : (e' == e) with
          | false => simp [he'] at hb
          | true =>
            simp only [he', cond_true] at hb
            cases hid : h id with
            | none => simp [hid] at hb
            | some ent =>
              have hnd : ent ≠ .dead := by rintro rfl; simp [hid] at hb
              have hb : ent.nil = b := by cases ent <;> simp [hid] at hb <;> first | exact hb | exact (hnd rfl).elim
              subst hb
              obtain ⟨loc, g1, g2⟩ := hx
              obtain ⟨loc', k1, k2⟩ := hi.ent id ent hid
              rw [g1] at k1; obtain rfl := Option.some.inj k1
              rcases g2 with ⟨a1, _, _, _, _, nl, a6, a7⟩ | ⟨b, A, c, off2, n, a1, a2, _, a4, _⟩
              · cases ent with
                | dead => exact (hnd rfl).elim
                | box fz t v => obtain ⟨q1, _⟩ := k2; rw [a6] at q1; cases q1
                | vec fz t nl' els =>
                 obtain ⟨q1, _⟩ := k2
                 rw [a6] at q1
                 simp only [Root.vec.injEq] at q1
                 obtain ⟨_, _, rfl⟩ := q1
                 rcases a7 with ⟨rfl, a7⟩ | ⟨rfl, A, a7⟩
                 · exact ⟨none, 0, 0, a7, rfl⟩
                 · exact ⟨some A, 0, 0, a7, rfl⟩
              · refine ⟨some A, len, c, a2, ?_⟩
                cases ent with
                | dead => rfl
                | box fz t v => rfl
                | vec fz t nl' els =>
                 obtain ⟨q1, _, ⟨q3, _⟩ | ⟨q3, _⟩⟩ := k2
                 · rw [a1] at q3; cases q3
                 · simp [Ent.nil, q3]
        | _ => rw [hr] at hb; simp [ZN] at hb
      have fin : ∀ b, ZN h e (rd x) = some b -> ((op = .eql /\ v = .bool b) ∨ (op = .neq /\ v = .bool (!b))) -> v.oneCell' = true /\ (eqGuard op t x y (a.eval x) (a.eval y)).run P w = .ok () w /\ (binOp op t (a.eval x) (a.eval y)).run P w = .ok v w := by
        intro b hb hv
        obtain ⟨A, n, c, g1, rfl⟩ := key b hb
        refine ⟨?_, guard (fun m => .inl (by rw [g1]; simp)) (fun xs ys hh => by rw [g1] at hh; cases hh), ?_⟩
        · rcases hv with ⟨_, rfl⟩ | ⟨_, rfl⟩ <;> rfl
        · rw [g1, hy.1]
          have hun := ok.und t _ hu
          have heq := run_equal_slice_nil (P := P) (w := w) t e A n c hun
          rcases hv with ⟨rfl, rfl⟩ | ⟨rfl, rfl⟩
          · simp only [binOp]; simp [heq]
          · exact run_neq_slice_nil w t e A n c hun
      cases op <;> try (simp only [reduceCtorEq] at he; done)
      case eql =>
        cases hb : ZN h e (rd x) with
        | none => simp [hb] at he
        | some b => simp only [hb, Option.some.injEq, Prod.mk.injEq, true_and] at he; exact fin b hb (.inl ⟨rfl, he.symm⟩)
      case neq =>
        cases hb : ZN h e (rd x) with
        | none => simp [hb] at he
        | some b => simp only [hb, Option.some.injEq, Prod.mk.injEq, true_and] at he; exact fin b hb (.inr ⟨rfl, he.symm⟩)
    · cases he
  | pointer e =>
    simp only [hu] at he
    split at he
    · rename_i id p hx' hy'
      rw [hx'] at hx; rw [hy'] at hy
      simp only [Jf] at hx hy
      obtain ⟨loc, b, off, ty, _, _, _, g⟩ := hx
      have hun := ok.und t _ hu
      cases op <;> simp only [Option.some.injEq, Prod.mk.injEq, true_and, reduceCtorEq] at he
      case eql =>
        subst he
        refine ⟨rfl, guard (fun m => .inl (by rw [g]; simp)) (fun xs ys hh => by rw [g] at hh; cases hh), ?_⟩
        rw [g, hy.1]
        simp only [binOp, Op.equal, Op.maxDepth, Sem.run_bind, JcQ (P := P) (w := w) hun, Result.andThen_ok, Sem.run_pure]; try rfl
      case neq =>
        subst he
        refine ⟨rfl, guard (fun m => .inl (by rw [g]; simp)) (fun xs ys hh => by rw [g] at hh; cases hh), ?_⟩
        rw [g, hy.1]
        simp only [binOp, Op.equal, Op.maxDepth, Sem.run_bind, JcQ (P := P) (w := w) hun, Result.andThen_ok, Sem.run_pure]; try rfl
    · cases he
  | struct fds =>
    simp only [hu] at he
    have key : (eqP τ depth t (rd x) (rd y)).1 = true -> (∃ xs, a.eval x = .agg xs) /\ (∃ ys, a.eval y = .agg ys) := by
      intro hh
      simp only [depth, eqP, hu, Bool.and_eq_true] at hh
      rw [(VD hh.1.1.1).1] at hx; rw [(VD hh.1.1.2).1] at hy
      simp only [Jf] at hx hy
      obtain ⟨xs, h1, _⟩ := hx
      obtain ⟨ys, h2, _⟩ := hy
      exact ⟨⟨xs, h1⟩, ⟨ys, h2⟩⟩
    cases op <;> simp only [Option.some.injEq, Prod.mk.injEq, reduceCtorEq] at he
    case eql =>
      obtain ⟨h1, rfl⟩ := he
      obtain ⟨⟨xs, g1⟩, ⟨ys, g2⟩⟩ := key h1
      have := JdV ok (w := w) depth t (rd x) (rd y) _ _ hx hy h1 9988
      refine ⟨rfl, guard (fun m => .inl (by rw [g1]; simp)) (fun _ _ _ _ => by simp [Tab.agg, hu]), ?_⟩
      rw [g1, g2] at this ⊢
      rw [run_eql_struct, show (10000 : Nat) = depth + 9988 from rfl, this]; rfl
    case neq =>
      obtain ⟨h1, rfl⟩ := he
      obtain ⟨⟨xs, g1⟩, ⟨ys, g2⟩⟩ := key h1
      have := JdV ok (w := w) depth t (rd x) (rd y) _ _ hx hy h1 9988
      refine ⟨rfl, guard (fun m => .inl (by rw [g1]; simp)) (fun _ _ _ _ => by simp [Tab.agg, hu]), ?_⟩
      rw [g1, g2] at this ⊢
      rw [run_neq_struct, show (10000 : Nat) = depth + 9988 from rfl, this]; rfl
  | array n e =>
    simp only [hu] at he
    have key : (eqP τ depth t (rd x) (rd y)).1 = true -> (∃ xs, a.eval x = .agg xs) /\ (∃ ys, a.eval y = .agg ys) := by
      intro hh
      simp only [depth, eqP, hu] at hh
      cases hee : τ.und e with
      | none => simp [hee] at hh
      | some de =>
        cases de <;> simp only [hee, Bool.and_eq_true, Bool.false_eq_true] at hh
        rw [Jam hh.1.1.1.1.1] at hx; rw [Jam hh.1.1.1.1.2] at hy
        simp only [Jf] at hx hy
        obtain ⟨xs, _, _, h1, _⟩ := hx
        obtain ⟨ys, _, _, h2, _⟩ := hy
        exact ⟨⟨xs, h1⟩, ⟨ys, h2⟩⟩
    cases op <;> simp only [Option.some.injEq, Prod.mk.injEq, reduceCtorEq] at he
    case eql =>
      obtain ⟨h1, rfl⟩ := he
      obtain ⟨⟨xs, g1⟩, ⟨ys, g2⟩⟩ := key h1
      have := JdV ok (w := w) depth t (rd x) (rd y) _ _ hx hy h1 9988
      refine ⟨rfl, guard (fun m => .inl (by rw [g1]; simp)) (fun _ _ _ _ => by simp [Tab.agg, hu]), ?_⟩
      rw [g1, g2] at this ⊢
      rw [run_eql_struct, show (10000 : Nat) = depth + 9988 from rfl, this]; rfl
    case neq =>
      obtain ⟨h1, rfl⟩ := he
      obtain ⟨⟨xs, g1⟩, ⟨ys, g2⟩⟩ := key h1
      have := JdV ok (w := w) depth t (rd x) (rd y) _ _ hx hy h1 9988
      refine ⟨rfl, guard (fun m => .inl (by rw [g1]; simp)) (fun _ _ _ _ => by simp [Tab.agg, hu]), ?_⟩
      rw [g1, g2] at this ⊢
      rw [run_neq_struct, show (10000 : Nat) = depth + 9988 from rfl, this]; rfl
  | _ => simp [hu] at he
theorem JgS {op t x v c} (ho : o.op = .unOp op t x)
   (he : (op = .not /\ τ.und t = some .bool /\ (rd x).isBool = true /\ v = .bool (!(rd x).bool)) ∨ (∃ k, op = .neg /\ τ.und t = some (.int k) /\ (rd x).isInt k = true /\ v = .int k (k.wrap (0 - (rd x).int))) ∨ (∃ k, op = .xor /\ τ.und t = some (.int k) /\ (rd x).isInt k = true /\ v = .int k (JM .xor k (if k.signed then -1 else k.max) (rd x).int))) (hc : c = true) : JT τ P o rd h (.sc v) [] := by
 have _ := ok
 intro im ow a w hop hi
 have hx := hop x (by simp [ho, Op.operands])
 refine ⟨v, w, im, ow, .inl ?_, Good.refl hi rfl, ?_⟩
 · rcases he with ⟨rfl, _, h2, rfl⟩ | ⟨k, rfl, _, h2, rfl⟩ | ⟨k, rfl, _, h2, rfl⟩
   · rw [Wm h2] at hx; simp only [Jf] at hx
     simp [execOp, ho, hx.1, Op.unary]
   · rw [Qs h2] at hx; simp only [Jf] at hx
     simp [execOp, ho, hx.1, Op.unary, Op.intArith]
   · rw [Qs h2] at hx; simp only [Jf] at hx
     simp only [execOp, ho, hx.1, Op.unary, Op.intBits, JM]
     rfl
 · simp only [Jf]
   rcases he with ⟨rfl, _, h2, rfl⟩ | ⟨k, rfl, _, h2, rfl⟩ | ⟨k, rfl, _, h2, rfl⟩ <;> exact ⟨trivial, rfl⟩
end
end Go.Proofs.Ythpmachmnoljeaa.Rx
end

noncomputable section
namespace Go.Proofs.Ythpmachmnoljeaa.Rx
open Go
set_option linter.unusedVariables false

theorem JET (z : List Value) : ∀ n : Nat, ((List.range (n * z.length)).map fun i => z.getD (i % z.length) default) = (List.replicate n z).flatten
 | 0 => by simp
 | n + 1 => by
  rw [Nat.add_mul, Nat.one_mul, List.range_add, List.map_append, JET z n, List.replicate_succ', List.flatten_append]
  congr 1
  simp only [List.map_map, List.flatten_cons, List.flatten_nil, List.append_nil]
  apply List.ext_getElem?
  intro i
  by_cases hi : i < z.length
  · rw [List.getElem?_map, List.getElem?_range hi, Option.map_some, Function.comp_apply, Nat.mul_add_mod_self_right, Nat.mod_eq_of_lt hi, List.getD_eq_getElem?_getD, List.getElem?_eq_getElem hi]
    rfl
  · rw [List.getElem?_eq_none (by simpa using hi), List.getElem?_eq_none (by omega)]
theorem JcR (z : Array Value) (n : Nat) : ((Array.range (n * z.size)).map fun i => z[i % z.size]!).toList = (List.replicate n z.toList).flatten := by
 rw [← JET z.toList n, Array.toList_map, Array.toList_range]
 simp only [Array.length_toList]
 apply List.map_congr_left
 intro i _
 simp [Array.getElem!_eq_getD, List.getD_eq_getElem?_getD, Array.getD_eq_getD_getElem?]
theorem JdW : ∀ l : List PV, JY l = (l.map PV.int).map fun n => UInt8.ofNat n.toNat
 | [] => rfl
 | p :: ps => by simp [JY, JdW ps]

theorem JfW {n : Int} (h0 : 0 <= n) (h1 : n < 9223372036854775808) : IntKind.i64.wrap n = n := by
 have e1 : n % 18446744073709551616 = n := Int.emod_eq_of_lt h0 (by omega)
 have e2 : ¬ (9223372036854775808 <= n) := by omega
 simp [IntKind.wrap, IntKind.bits, IntKind.signed]
 omega
section
variable {τ : Tab} {P : Program} (ok : TabOk τ P) {im im' : Im} {ow ow' : Own} {h : Ents} {w w' : World} {o : Oper} {rd : Operand -> PV}
include ok
theorem Jm.repl {z : PV} {e : TypeId} {c : List Value} (hz : Rep τ im ow z e c) : ∀ n, Jm τ im ow (List.replicate n z) e (List.replicate n c).flatten
 | 0 => by have _ := ok; simp only [List.replicate_zero, List.flatten_nil, Jm]
 | n + 1 => by
  simp only [List.replicate_succ, List.flatten_cons, Jm]
  exact ⟨c, _, rfl, hz, Jm.repl hz n⟩
theorem JiY {e : TypeId} {k : IntKind} (he : τ.und e = some (.int k)) : ∀ {l : List PV} {cs : List Value}, Jm τ im ow l e cs -> Jl k l = true -> cs = (l.map PV.int).map (Value.int k)
 | [], cs, hl, _ => by have _ := ok; simp only [Jm] at hl; simp [hl]
 | p :: ps, cs, hl, ha => by
  simp only [Jm] at hl
  obtain ⟨c1, c2, rfl, h1, h2⟩ := hl
  simp only [Jl, Bool.and_eq_true] at ha
  rw [Qs ha.1] at h1
  simp only [Rep] at h1
  rw [JiY he h2 ha.2, h1.2.1]
  simp
theorem ZW {e : TypeId} (he : τ.und e = some (.int .u8)) (l : List UInt8) : Jm τ im ow (l.map fun b => PV.sc (.int .u8 b.toNat)) e (l.map fun b => Value.int .u8 b.toNat) := by
 have _ := ok
 induction l with
 | nil => simp only [List.map_nil, Jm]
 | cons b r ih =>
  simp only [List.map_cons, Jm]
  exact ⟨[_], _, rfl, by simp only [Rep]; exact ⟨by simp [Tab.agg, he], trivial, rfl⟩, ih⟩
theorem JnU (z : Array Value) (hz : ∀ v ∈ z.toList, v.oneCell' = true) (n : Nat) : ∀ v ∈ (Builtin.zeroCells z n).toList, v.oneCell' = true := by
 have _ := ok
 intro v hv
 have e : (Builtin.zeroCells z n).toList = (List.replicate n z.toList).flatten := JcR z n
 rw [e] at hv
 obtain ⟨l, hl, hv⟩ := List.mem_flatten.1 hv
 rw [List.eq_of_mem_replicate hl] at hv
 exact hz v hv
theorem VE {i : Nat} {e : TypeId} {d} {els : List PV} {cells : Array Value} {fr : Nat × Nat} {mid post : List Value} {nl : Bool} (hi : Inv τ im ow h w) (h1 : h i = none) (hd : τ.und e = some d)
  (hsz : w.heap.size <= w'.heap.size) (hold : ∀ b, b < w.heap.size -> w'.heap[b]? = w.heap[b]?) (hnew : w'.heap[w.heap.size]? = some (.cells cells e fr)) (hu : fr.1 = fr.2 ∨ (τ.und e = some (.int .u8) /\ cells.size <= fr.1)) (hc : cells.toList = mid ++ post) (hr : Jm τ im (vow τ e ow) els e mid) (hnl : nl = false) (hp : ∀ v ∈ post, v.oneCell' = true) (hrest : Rest w w' := by first | exact ⟨rfl, rfl, rfl⟩ | assumption) :
  Good τ im ow h w im (Xv ow i ⟨some w.heap.size, 0, .vec e els.length nl, cells.size⟩) (JV h i (.vec false e nl els)) w' := by
 subst hnl
 refine JdT ok hi h1 hsz hold ⟨_, J9 ok, rfl, ⟨d, hd⟩, .inr ⟨rfl, w.heap.size, cells, e, fr, [], mid, post, rfl, hnew, ⟨hu, fun v hv => by
  rw [hc] at hv
  rcases List.mem_append.1 hv with hv | hv
  · exact Jm.ones ok hr v hv
  · exact hp v hv⟩, hc, rfl, Jm.mono (fun _ _ h => h) (JdP (JdU ok hi h1)) _ _ _ hr, (fun hh => by cases hh), (fun _ => Jko ok hi), by simp⟩⟩
theorem JiZ {i : Nat} {e : TypeId} {d} {nl : Bool} (hi : Inv τ im ow h w) (h1 : h i = none) (hd : τ.und e = some d) (hw : w'.heap = w.heap) (hrest : Rest w w' := by first | exact ⟨rfl, rfl, rfl⟩ | assumption) :
  Good τ im ow h w im (Xv ow i ⟨none, 0, .vec e 0 nl, 0⟩) (JV h i (.vec false e nl [])) w' := by
 have _ := ok
 exact Good.fresh hi h1 (by rw [hw]; exact Nat.le_refl _) (fun b _ => by rw [hw]) (fun b hb => by cases hb) ⟨_, J9 ok, rfl, ⟨d, hd⟩, .inl ⟨rfl, rfl⟩⟩
theorem JgT {t l c e z a b} (ho : o.op = .makeSlice t l c) (hu : τ.und t = some (.slice e)) (hl : rd l = .sc (.int .i64 a)) (hc : rd c = .sc (.int .i64 b)) (hz : τ.zer e = some z) (h0 : 0 <= a) (h1 : a <= b) (h2 : b * τ.byt e <= 140737488355328) (hn : h (Qc o) = none) :
   JT τ P o rd h (.ow e (Qc o) [] 0 a.toNat (some b.toNat)) [(Qc o, .vec false e false (List.replicate b.toNat z))] := by
 intro im ow ac w hop hi
 have hl1 := hop l (by simp [ho, Op.operands])
 have hc1 := hop c (by simp [ho, Op.operands])
 rw [hl] at hl1; rw [hc] at hc1
 simp only [Jf] at hl1 hc1
 obtain ⟨d, v, hd, k1, k2, k3⟩ := Xk ok (w := w) hz
 obtain ⟨i, g1, g2, g3⟩ := ok.info e d hd
 have hpos := ok.pos e d hd
 have hvs : v.cells.size = τ.siz e := by
   have := Rep.len ok _ _ _ ⟨d, hd⟩ (k2 im JC); rwa [Array.length_toList] at this
 have hcells : ((Array.range (b.toNat * τ.siz e)).map fun i => v.cells[i % v.cells.size]!).toList = (List.replicate b.toNat v.cells.toList).flatten := by rw [← hvs]; exact JcR v.cells b.toNat
 have hty : (typeInfo e).run P w = .ok i w := by simp [typeInfo, g1]
 have hpb := (ok.posB e d hd).1
 have hb : b <= 140737488355328 := by
   rcases Int.lt_or_le 140737488355328 b with hlt | hle
   · exfalso
     have : b * 1 <= b * (τ.byt e : Int) := Int.mul_le_mul_of_nonneg_left (by omega) (by omega)
     omega
   · exact hle
 have wa := JfW h0 (by omega : a < 9223372036854775808)
 have wb := JfW (by omega : 0 <= b) (by omega : b < 9223372036854775808)
 have hnot : ¬ (b < 0 ∨ (τ.byt e : Int) * b > 2 ^ 48) := by
   rw [Int.mul_comm]; simp only [not_or]; constructor <;> omega
 have hrun : (Instr.makeSlice t (.int .i64 a) (.int .i64 b)).run P w = .ok (.slice (some ⟨w.heap.size, 0, none⟩) a.toNat b.toNat) (w.alloc (.cells ((Array.range (b.toNat * τ.siz e)).map fun i => v.cells[i % v.cells.size]!) e)) := by
   simp only [Instr.makeSlice, Sem.run_bind, Jv ok hu, Result.andThen_ok, asInt, asIntOf, Sem.run_pure, hty, g3, wa, wb]
   have hcond : ((b < 0 || (τ.byt e : Int) * b > 2 ^ 48) || decide (a < 0) || decide (a > b)) = false := by
     simp only [Bool.or_eq_false_iff, decide_eq_false_iff_not]
     refine ⟨⟨⟨by omega, ?_⟩, by omega⟩, by omega⟩
     rw [Int.mul_comm]; omega
   simp only [hcond, Bool.false_eq_true, if_false, Sem.run_bind, run_askRoom, Qd ok hd, Result.andThen_ok]
   by_cases hz0 : b.toNat * τ.siz e = 0
   · simp only [hz0, if_true, Sem.run_pure, Result.andThen_ok, newRow, Sem.run_bind, run_newObj]
     simp [Array.range]
   · simp only [hz0, if_false, Sem.run_bind, k1, Sem.run_pure, Result.andThen_ok, newRow, run_newObj]
     simp
 have G := VE ok (i := Qc o) (e := e) (d := d) (els := List.replicate b.toNat z) (cells := (Array.range (b.toNat * τ.siz e)).map fun i => v.cells[i % v.cells.size]!) (fr := (0, 0)) (w' := w.alloc (.cells ((Array.range (b.toNat * τ.siz e)).map fun i => v.cells[i % v.cells.size]!) e)) (mid := (List.replicate b.toNat v.cells.toList).flatten) (post := []) (nl := false) hi hn hd (by simp) (fun b hb => heap_alloc_old w _ b hb) (heap_alloc_new w _) (.inl rfl) (by rw [hcells]; simp) (Jm.repl ok (k2 im _) b.toNat) rfl (fun v hv => by cases hv)
 refine ⟨.slice (some ⟨w.heap.size, 0, none⟩) a.toNat b.toNat, w.alloc (.cells ((Array.range (b.toNat * τ.siz e)).map fun i => v.cells[i % v.cells.size]!) e), im, _, .inl ?_, G, ?_⟩
 · simp only [execOp, ho, hl1.1, hc1.1, Sem.run_bind, hrun, Result.andThen_ok, Sem.run_pure]
 simp only [Jf]
 refine ⟨_, J9 ok, .inr ⟨w.heap.size, _, b.toNat, 0, b.toNat, rfl, rfl, by omega, by simp [Root.rowAt], by omega, fun c' hc' => ?_, (fun hh => by cases hh), .inl ⟨by simp, (fun hh => by cases hh)⟩⟩⟩
 cases hc'; exact ⟨rfl, by omega⟩
theorem JkB {src dst x k k'} (ho : o.op = .convert src dst x) (h1 : τ.und src = some (.int k)) (h2 : τ.und dst = some (.int k')) (hx : (rd x).isInt k = true) : JT τ P o rd h (.sc (.int k' (k'.wrap (rd x).int))) [] := by
 intro im ow a w hop hi
 have hx1 := hop x (by simp [ho, Op.operands])
 rw [Qs hx] at hx1
 simp only [Jf] at hx1
 refine ⟨_, w, im, ow, .inl (by simp [execOp, ho, hx1.1, convert, Jv ok h1, Jv ok h2, Conv.intToInt]; rfl), Good.refl hi rfl, ?_⟩
 simp only [Jf]; exact ⟨trivial, rfl⟩
theorem JkC {src dst x k f} (ho : o.op = .convert src dst x) (h1 : τ.und src = some (.int k)) (h2 : τ.und dst = some (.float f)) (hx : (rd x).isInt k = true) : JT τ P o rd h (.sc (.float f (f.nearest (rd x).int))) [] := by
 intro im ow a w hop hi
 have hx1 := hop x (by simp [ho, Op.operands])
 rw [Qs hx] at hx1
 simp only [Jf] at hx1
 refine ⟨_, w, im, ow, .inl (by simp [execOp, ho, hx1.1, convert, Jv ok h1, Jv ok h2, Conv.intToFloat]; rfl), Good.refl hi rfl, ?_⟩
 simp only [Jf]; exact ⟨trivial, rfl⟩
theorem JkD {src dst x k f n} (ho : o.op = .convert src dst x) (h1 : τ.und src = some (.float f)) (h2 : τ.und dst = some (.int k)) (hx : (rd x).isFlo f = true) (hn : (f.decode (rd x).flo).toInt .zero = some n) (g1 : k.min <= n) (g2 : n <= k.max) : JT τ P o rd h (.sc (.int k n)) [] := by
 intro im ow a w hop hi
 have hx1 := hop x (by simp [ho, Op.operands])
 rw [Jal hx] at hx1
 simp only [Jf] at hx1
 refine ⟨.int k n, w, im, ow, .inl ?_, Good.refl hi rfl, ?_⟩
 · simp only [execOp, ho, hx1.1, convert, Sem.run_bind, Jv ok h1, Jv ok h2, Result.andThen_ok, Conv.floatToInt, hn, if_pos (And.intro g1 g2), Sem.run_pure]
 · simp only [Jf]; exact ⟨trivial, rfl⟩
theorem JkE {src dst x} (ho : o.op = .convert src dst x) (h1 : τ.und src = some .string) (h2 : τ.und dst = some .string) (hx : (rd x).isStr = true) : JT τ P o rd h (.sc (.string (rd x).str)) [] := by
 intro im ow a w hop hi
 have hx1 := hop x (by simp [ho, Op.operands])
 rw [QM hx] at hx1
 simp only [Jf] at hx1
 refine ⟨_, w, im, ow, .inl (by simp [execOp, ho, hx1.1, convert, Jv ok h1, Jv ok h2]; rfl), Good.refl hi rfl, ?_⟩
 simp only [Jf]; exact ⟨trivial, rfl⟩
theorem JkF {src dst x e} (ho : o.op = .convert src dst x) (h1 : τ.und src = some .string) (h2 : τ.und dst = some (.slice e)) (h3 : τ.und e = some (.int .u8)) (hx : (rd x).isStr = true) (hn : h (Qc o) = none) (hsz : (rd x).str.size <= 140737488355328) :
   JT τ P o rd h (.ow e (Qc o) [] 0 (rd x).str.size none) [(Qc o, .vec false e false (Ji (rd x).str))] := by
 intro im ow a w hop hi
 have hx1 := hop x (by simp [ho, Op.operands])
 rw [QM hx] at hx1
 simp only [Jf] at hx1
 generalize hs : (rd x).str = s at *
 have hcap : s.size <= grownCap w s.size 0 e := grownCap_ge w s.size 0 e
 have hcl : (Lib.bytesCells w e s).toList = (s.data.toList.map fun b => Value.int .u8 b.toNat) ++ List.replicate (grownCap w s.size 0 e - s.size) (.int .u8 0) := by simp [Lib.bytesCells]
 have hrow : Jm τ im (vow τ e ow) (Ji s) e (s.data.toList.map fun b => Value.int .u8 b.toNat) := by
   simp only [Ji]; exact ZW ok h3 _
 have hlen : (Ji s).length = s.size := by simp only [Ji, List.length_map, Array.length_toList]; rfl
 have G := VE ok (i := Qc o) (w' := Lib.bytesWorld w e s) (nl := false) (els := Ji s) hi hn h3 (by rw [Lib.bytesWorld_size]; omega) (fun b hb => Lib.bytesWorld_at_old w e s b hb) (Lib.bytesWorld_at_new w e s) (.inr ⟨h3, Nat.le_refl _⟩) hcl (Jm.mono (fun _ _ h => h) (fun _ _ h => h) _ _ _ hrow) rfl (fun v hv => by rw [List.eq_of_mem_replicate hv]; rfl)
 have hrun := Lib.run_convert_string_bytes (P := P) w src dst e s (ok.und _ _ h1) (ok.und _ _ h2) (ok.und _ _ h3)
 refine ⟨.slice (some ⟨w.heap.size, 0, none⟩) s.size (grownCap w s.size 0 e), Lib.bytesWorld w e s, im, _, .inl ?_, G, ?_⟩
 · simp only [execOp, ho, hx1.1, Sem.run_bind, hrun, Result.andThen_ok, Sem.run_pure]
 simp only [Jf]
 refine ⟨_, J9 ok, .inr ⟨w.heap.size, ⟨w.heap.size, 0, none⟩, grownCap w s.size 0 e, 0, (Ji s).length, rfl, rfl, hcap, rfl, by omega, (fun c' hc' => by cases hc'), (fun _ => by omega), .inl ⟨by simp, fun _ => ?_⟩⟩⟩
 have := congrArg List.length hcl
 simp only [Array.length_toList, List.length_append, List.length_map, List.length_replicate] at this
 have hss : s.data.size = s.size := rfl
 have h1 := ok.one e _ h3 (by simp [Tab.agg, h3])
 simp only [h1]
 omega
theorem JgU {src dst x e e' id off len cap e2 nl els} (ho : o.op = .convert src dst x) (hsd : src = dst) (h1 : τ.und src = some (.slice e)) (h3 : τ.und e = some (.int .u8)) (hx : rd x = .ow e' id [] off len cap) (hid : h id = some (.vec false e2 nl els)) (he2 : e2 = e) (hlen : 0 < len) :
   JT τ P o rd h (.ow e' id [] off len cap) [(id, .vec false e2 nl els)] := by
 intro im ow ac w hop hi
 subst hsd
 have hx1 := hop x (by simp [ho, Op.operands])
 rw [hx] at hx1
 have hv := hx1
 simp only [Jf] at hx1
 obtain ⟨loc, g1, ⟨_, _, _, hl0, _⟩ | ⟨b, a, c, o', n, a1, a2, a3, a4, a5, a6, a7, a8⟩⟩ := hx1
 · omega
 · rcases a8 with ⟨a8, _⟩ | a8
   · obtain ⟨loc', k1, k2, k3, k4⟩ := hi.ent id _ hid
     rw [g1] at k1; obtain rfl := Option.some.inj k1
     rcases k4 with ⟨k4, _⟩ | ⟨k4, b', cells, el, fr, pre, mid, post, m1, m2, m3, m4, m5, m6, m7, m8, m9⟩
     · rw [a1] at k4; cases k4
     · rw [a1] at m1; obtain rfl := Option.some.inj m1
       have hab : a.block = b := by rw [a8]
       have hrun : (convert src src (.slice (some a) len c)).run P w = .ok (.slice (some a) len c) (w.freeze ⟨b, cells.size, none⟩ 1) := by
         simp [convert, Jv ok h1, Jv ok h3, markStringish, World.shape?, hab, m2]
       have hset : HeapSet w b (.cells cells el (if fr.1 == fr.2 then (cells.size, cells.size + 1) else (min fr.1 cells.size, max fr.2 (cells.size + 1)))) (w.freeze ⟨b, cells.size, none⟩ 1) := by
         refine ⟨?_, fun b' hb' => ?_, ?_, ?_⟩
         · simp [World.freeze, Array.getElem?_modify, m2]
         · simp [World.freeze, Array.getElem?_modify, Ne.symm hb']
         · simp [World.freeze]
         · exact ⟨rfl, rfl, rfl⟩
       have G := Good.write (e' := .vec false e2 nl els) hi hid rfl g1 a1 hset ⟨loc, g1, k2, k3, .inr ⟨k4, b, cells, el, _, pre, mid, post, a1, hset.at_, ?_, m4, m5, m6, (fun hh => by cases hh), m8, m9⟩⟩ rfl
       · refine ⟨.slice (some a) len c, w.freeze ⟨b, cells.size, none⟩ 1, im, ow, .inl ?_, G, ?_⟩
         · simp only [execOp, ho, a2, Sem.run_bind, hrun, Result.andThen_ok, Sem.run_pure]
         · rw [a2] at hv; exact hv
       · refine ⟨?_, m3.2⟩
         have m3 := m3.1
         by_cases hf : fr.1 = fr.2
         · simp only [beq_iff_eq, hf, if_true]; exact .inr ⟨by rw [he2]; exact h3, Nat.le_refl _⟩
         · rcases m3 with m3 | m3
           · exact absurd m3 hf
           · simp only [beq_iff_eq, hf, if_false]; exact .inr ⟨by rw [he2]; exact h3, Nat.le_min.2 ⟨m3.2, Nat.le_refl _⟩⟩
   · omega
theorem JkG {src dst x e nl l} (ho : o.op = .convert src dst x) (h1 : τ.und src = some (.slice e)) (h2 : τ.und dst = some .string) (h3 : τ.und e = some (.int .u8)) (hx : Xu h e (rd x) = some (nl, l)) (ha : Jl .u8 l = true) :
   JT τ P o rd h (.sc (.string ⟨(JY l).toArray⟩)) [] := by
 intro im ow a w hop hi
 have hx1 := hop x (by simp [ho, Op.operands])
 obtain ⟨q1, _, _⟩ := Gl ok hi hx1 hx
 refine ⟨.string ⟨(JY l).toArray⟩, w, im, ow, .inl ?_, Good.refl hi rfl, ?_⟩
 · rcases q1 with ⟨rfl, q1 | ⟨ad, c, q1⟩⟩ | ⟨b, off, c, cells, el, fr, pre, mid, post, q1, q2, q3, q4, q5, q6⟩
   · simp [execOp, ho, q1, convert, Jv ok h1, Jv ok h2, Jv ok h3, Conv.bytesToString, JY]; rfl
   · simp [execOp, ho, q1, convert, Jv ok h1, Jv ok h2, Jv ok h3, Conv.bytesToString, JY, loadCells, loadCellsFrom]; rfl
   · have hm := JiY ok h3 q6 ha
     have hc := run_convert_bytes_arg (P := P) w src e (ok.und _ _ h1) (ok.und _ _ h3) b off l.length c (l.map PV.int) (by simp) (fun i hi => by
      refine Xd q3 q4 ?_ q5
      rw [hm]
      simp [List.getElem?_map, List.getElem?_eq_getElem hi, List.getD_eq_getElem?_getD]) dst (ok.und _ _ h2)
     simp only [execOp, ho, q1, Sem.run_bind, hc, Result.andThen_ok, Sem.run_pure]
     rw [JdW]; rfl
 · simp only [Jf]; exact ⟨trivial, rfl⟩
end
end Go.Proofs.Ythpmachmnoljeaa.Rx
end

noncomputable section
namespace Go.Proofs.Ythpmachmnoljeaa.Rx
open Go
set_option linter.unusedVariables false

theorem JdX : ∀ (vs : List Value) (off k : Nat) (cs : Array Value) (pre mid post : List Value), cs.toList = pre ++ mid ++ post -> pre.length = off + k -> mid.length = vs.length ->
  ((vs.zipIdx k).foldl (fun (cs : Array Value) (q : Value × Nat) => cs.setIfInBounds (off + q.2) q.1) cs).toList = pre ++ vs ++ post
 | [], off, k, cs, pre, mid, post, h1, h2, h3 => by
   obtain rfl := List.length_eq_zero_iff.1 h3
   simpa using h1
 | v :: vs, off, k, cs, pre, mid, post, h1, h2, h3 => by
   match mid, h3 with
   | m :: ms, h3 =>
    simp only [List.zipIdx_cons, List.foldl_cons]
    have hs : (cs.setIfInBounds (off + k) v).toList = (pre ++ [v]) ++ ms ++ post := by
     rw [Array.toList_setIfInBounds, h1, ← h2]
     simp
    rw [JdX vs off (k + 1) _ (pre ++ [v]) ms post hs (by simp; omega) (by simpa using h3)]
    simp
section
variable {τ : Tab} {P : Program} (ok : TabOk τ P) {im im' : Im} {ow ow' : Own} {h : Ents} {w w' : World} {o : Oper} {rd : Operand -> PV}
def Jb2 (τ : Tab) (im : Im) (ow : Own) : List (Nat × PV) -> List (Nat × Value) -> Prop
 | [], vs => vs = []
 | p :: ps, vs => ∃ u r, vs = (p.1, u) :: r /\ Jf τ im ow p.2 u /\ Jb2 τ im ow ps r
theorem Jb2.mono (him : ∀ b o, im b = some o -> im' b = some o) : ∀ {ps : List (Nat × PV)} {vs}, Jb2 τ im ow ps vs -> Jb2 τ im' ow ps vs
 | [], vs, h => h
 | p :: ps, vs, h => by
  obtain ⟨u, r, h1, h2, h3⟩ := h
  exact ⟨u, r, h1, Jf.mono him (fun _ _ h => h) _ _ h2, h3.mono him⟩
theorem WS (f : Operand -> Value) : ∀ {l : List (Nat × Operand)}, (∀ q ∈ l, Jf τ im ow (rd q.2) (f q.2)) -> Jb2 τ im ow (l.map fun p => (p.1, rd p.2)) (l.map fun p => (p.1, f p.2))
 | [], _ => rfl
 | q :: l, h => ⟨f q.2, _, rfl, h q (by simp), WS f fun x hx => h x (List.mem_cons_of_mem _ hx)⟩
def JkH (τ : Tab) (O : TypeId -> Own) (place : Nat -> Option (Nat × Nat)) (ty : Nat -> Option TypeId) (Rel : Im -> List PV -> List Value -> Prop) : Prop :=
 ∀ im l cs i t, Rel im l cs -> ty i = some t -> i < l.length -> ∃ pre mid post, cs = pre ++ mid ++ post /\ place i = some (pre.length, mid.length) /\ mid.length = τ.siz t /\ (∃ d, τ.und t = some d) /\
  ∀ y mid', Rep τ im (O t) y t mid' -> Rel im (l.set i y) (pre ++ mid' ++ post)
include ok
theorem Wn {O : TypeId -> Own} {place : Nat -> Option (Nat × Nat)} {ty : Nat -> Option TypeId} {Rel : Im -> List PV -> List Value -> Prop} {own : Bool} (hO : ∀ t, O t = if own then ow else vow τ t ow) (hP : JkH τ O place ty Rel)
  (hR : ∀ im im' l cs, (∀ b o, im b = some o -> im' b = some o) -> Rel im l cs -> Rel im' l cs) :
  ∀ (parts : List (Nat × PV)) (vals : List (Nat × Value)) (l l' : List PV) (U : Upd) (hc : Ents) (im : Im) (cells : Array Value), Frz h hc -> Inv τ im ow hc w -> J3 τ ty h own l parts = some (l', U) -> Jb2 τ im ow parts vals -> Rel im l cells.toList ->
  ∃ im' cells', Good τ im ow hc w im' ow (JJ hc U) w /\ Frz h (JJ hc U) /\ Instr.fill place cells vals = some cells' /\ Rel im' l' cells'.toList /\ l'.length = l.length
 | [], vals, l, l', U, hc, im, cells, hf, hi, hh, hp, hr => by
   simp only [J3, Option.some.injEq, Prod.mk.injEq] at hh
   obtain ⟨rfl, rfl⟩ := hh
   obtain rfl := hp
   exact ⟨im, cells, Good.refl hi rfl, hf, rfl, hr, rfl⟩
 | (i, p) :: r, vals, l, l', U, hc, im, cells, hf, hi, hh, hp, hr => by
   obtain ⟨u, rv, rfl, hu, hps⟩ := hp
   simp only [J3] at hh
   cases ht : ty i with
   | none => simp [ht] at hh
   | some t =>
    simp only [ht] at hh
    cases hfit : Xj τ t (J2 τ t p) with
    | false => simp [hfit] at hh
    | true =>
     cases hl : decide (i < l.length) with
     | false => simp [hfit, hl] at hh
     | true =>
      simp only [hfit, hl, Bool.and_self, cond_true] at hh
      have hl' : i < l.length := of_decide_eq_true hl
      obtain ⟨pre, mid, post, k1, k2, k3, ⟨d, k4⟩, k5⟩ := hP im l cells.toList i t hr ht hl'
      have hu' := XI ok (t := t) hu
      have hrep := XQ ok k4 hfit hu'
      have step : ∃ y U1 im1, (bif own then some (J2 τ t p, []) else JcF τ t h (J2 τ t p)) = some (y, U1) /\ Good τ im ow hc w im1 ow (JJ hc U1) w /\ Frz h (JJ hc U1) /\ Rep τ im1 (O t) y t u.cells.toList := by
       cases own with
       | true => exact ⟨_, _, im, rfl, Good.refl hi rfl, hf, by rw [hO]; simpa using hrep.1⟩
       | false =>
        cases he : JcF τ t h (J2 τ t p) with
        | none => simp [he] at hh
        | some a =>
         obtain ⟨im1, g1, g2, g3⟩ := JiT ok hf hi (p' := a.1) (U := a.2) he
         exact ⟨a.1, a.2, im1, rfl, g1, g2, by rw [hO]; simpa using (g3 u d k4 hu').1⟩
      obtain ⟨y, U1, im1, e1, g1, g2, g3⟩ := step
      rw [e1] at hh
      simp only at hh
      cases hs : J3 τ ty h own (l.set i y) r with
      | none => simp [hs] at hh
      | some b =>
       simp only [hs, Option.some.injEq, Prod.mk.injEq] at hh
       obtain ⟨rfl, rfl⟩ := hh
       obtain ⟨pre, mid, post, k1, k2, k3, _, k5⟩ := hP im1 l cells.toList i t (hR _ _ _ _ g1.imX hr) ht hl'
       have hsz : u.cells.size = mid.length := by rw [hrep.2.1, k3]
       have hbound : pre.length + u.cells.size <= cells.size := by
        have e := congrArg List.length k1
        simp only [List.length_append, Array.length_toList] at e
        omega
       have hset : (u.cells.zipIdx.foldl (fun (cs : Array Value) (q : Value × Nat) => cs.setIfInBounds (pre.length + q.2) q.1) cells).toList = pre ++ u.cells.toList ++ post := by
        rw [← Array.foldl_toList, Array.toList_zipIdx]
        exact JdX _ _ 0 _ pre mid post k1 rfl (by rw [← hsz]; simp)
       obtain ⟨im2, cells', m1, m2, m3, m4, m5⟩ := Wn hO hP hR r rv (l.set i y) b.1 b.2 (JJ hc U1) im1 _ g2 g1.inv hs (hps.mono g1.imX) (by rw [hset]; exact k5 y _ g3)
       refine ⟨im2, cells', by rw [WC]; exact g1.trans m1, by rw [WC]; exact m2, ?_, m4, by rw [m5]; simp⟩
       simp only [Instr.fill, k2]
       rw [if_neg (by simp [hsz]; rw [← hsz]; omega)]
       exact m3
theorem JcS : ∀ fs : List Field, (∀ f ∈ fs, ∃ d, τ.und f.type = some d) -> (fs.mapM fun f => (do pure (f.offset, ← sizeOf f.type) : Sem (Nat × Nat))).run P w = .ok (fs.map fun f => (f.offset, τ.siz f.type)) w
 | [], _ => by have _ := ok; simp
 | f :: fs, hf => by
  obtain ⟨d, hd⟩ := hf f (by simp)
  have ih := JcS fs fun x hx => hf x (List.mem_cons_of_mem _ hx)
  simp only [List.mapM_cons, Sem.run_bind, Qd ok hd, Result.andThen_ok, Sem.run_pure, ih, List.map_cons]
theorem JdY : ∀ (fds : List Field) (o n : Nat), FieldsOk τ o fds n -> ∀ f ∈ fds, ∃ d, τ.und f.type = some d
 | [], o, n, h, f, hf => by cases hf
 | g :: r, o, n, h, f, hf => by
  have _ := ok
  simp only [FieldsOk] at h
  rcases List.mem_cons.1 hf with rfl | hf
  · exact h.2.1
  · exact JdY r _ _ h.2.2 f hf
theorem Ji0 {t parts fds z l U} (ho : o.op = .build t parts) (hu : τ.und t = some (.struct fds)) (hz : τ.zer t = some (.st t z)) (hs : J3 τ (fun i => (fds.toList[i]?).map (·.type)) h true z (parts.toList.map fun p => (p.1, rd p.2)) = some (l, U)) :
   JT τ P o rd h (.st t l) U := by
 intro im ow a w hop hi
 obtain ⟨d, v, hd, h2, h3, h4⟩ := Xk ok (w := w) hz
 have hfo := (ok.str t fds hu).1
 have hops : ∀ q ∈ parts.toList, Jf τ im ow (rd q.2) (a.eval q.2) := fun q hq => hop q.2 (by simp only [ho, Op.operands]; simp; exact ⟨q.1, by simpa using hq⟩)
 have hz1 := h3 im ow
 simp only [Rep] at hz1
 have hz2 : JS τ im ow z (fds.toList.map (·.type)) v.cells.toList := by
   rcases hz1.2 with ⟨fds', k1, k2⟩ | ⟨n, e, k1, _⟩
   · rw [hu] at k1; cases k1; exact k2
   · rw [hu] at k1; cases k1
 have hP : JkH τ (fun _ => ow) (fun i => (fds.toList.map fun f => (f.offset, τ.siz f.type))[i]?) (fun i => (fds.toList[i]?).map (·.type)) (fun im l cs => JS τ im ow l (fds.toList.map (·.type)) cs) := by
   intro im l cs i t hr ht hl
   cases hf : fds.toList[i]? with
   | none => simp [hf] at ht
   | some f =>
     simp only [hf, Option.map_some, Option.some.injEq] at ht
     subst ht
     obtain ⟨pre, mid, post, q1, q2, q3, q4, q5, q6⟩ := JS.split ok l fds.toList 0 _ cs i f hfo hr hf
     have hml := Rep.len ok _ _ _ q3 q5
     exact ⟨pre, mid, post, q1, by simp [hf, ← q2, hml], hml, q3, q6⟩
 obtain ⟨im', cells', g1, g2, g3, g4, g5⟩ := Wn ok (w := w) (own := true) (by intro t; rfl) hP (fun im im' l cs him hr => JS.mono him (fun _ _ h => h) _ _ _ hr) _ _ z l U h im v.cells (Frz.refl h) hi hs (WS a.eval hops) hz2
 refine ⟨.agg cells', w, im', ow, .inl ?_, g1, ?_⟩
 · have hpl := JcS ok (w := w) fds.toList (JdY ok _ _ _ hfo)
   have hpa : (fds.mapM fun f => (do pure (f.offset, ← sizeOf f.type) : Sem (Nat × Nat))).run P w = .ok (fds.toList.map fun f => (f.offset, τ.siz f.type)).toArray w := by
     rw [Array.mapM_eq_mapM_toList]
     rw [← bind_pure_comp]
     simp only [Sem.run_bind, hpl, Result.andThen_ok, Sem.run_pure]
   simp only [execOp, ho, Sem.run_bind, Instr.build, h2, Result.andThen_ok, Jv ok hu, hpa]
   have hfun : (fun i : Nat => (fds.toList.map fun f => (f.offset, τ.siz f.type)).toArray[i]?) = (fun i : Nat => (fds.toList.map fun f => (f.offset, τ.siz f.type))[i]?) := by funext i; simp
   have hpt : (parts.map fun (i, x) => (i, a.eval x)).toList = parts.toList.map fun p => (p.1, a.eval p.2) := by simp
   rw [hfun, hpt, g3]
   simp only [Sem.run_pure, Result.andThen_ok]
 · simp only [Jf]
   exact ⟨cells', rfl, .inl ⟨fds, hu, g4⟩⟩
theorem Y4 {O : TypeId -> Own} {e : TypeId} (hd : ∃ d, τ.und e = some d) : JkH τ O (fun i => some (i * τ.siz e, τ.siz e)) (fun _ => some e) (fun im l cs => Jm τ im (O e) l e cs) := by
 intro im l cs i t hr ht hl
 simp only [Option.some.injEq] at ht
 subst ht
 obtain ⟨pre, mid, post, q1, q2, q3, q4⟩ := Jm.split ok l e cs i hd hr hl
 have hml := Rep.len ok _ _ _ hd q3
 exact ⟨pre, mid, post, q1, by rw [q2, hml], hml, hd, q4⟩
theorem Gd {t n e} {parts : Array (Nat × Operand)} {a : Act} {v : Value} {cells' : Array Value} (ho : o.op = .build t parts) (hu : τ.und t = some (.array n e)) (hd : ∃ d, τ.und e = some d) (h2 : (zeroValue t).run P w = .ok v w)
  (g3 : Instr.fill (fun i => some (i * τ.siz e, τ.siz e)) v.cells (parts.toList.map fun p => (p.1, a.eval p.2)) = some cells') : (execOp a.eval o).run P w = .ok (.value (.agg cells')) w := by
 obtain ⟨d, hd⟩ := hd
 have hpt : (parts.map fun (i, x) => (i, a.eval x)).toList = parts.toList.map fun p => (p.1, a.eval p.2) := by simp
 simp only [execOp, ho, Sem.run_bind, Instr.build, h2, Result.andThen_ok, Jv ok hu, Qd ok hd]
 rw [hpt, g3]
 simp only [Sem.run_pure, Result.andThen_ok]
theorem Ji1 {t parts n e z l U} (ho : o.op = .build t parts) (hu : τ.und t = some (.array n e)) (hz : τ.zer t = some (.st t z)) (hs : J3 τ (fun _ => some e) h true z (parts.toList.map fun p => (p.1, rd p.2)) = some (l, U)) :
  JT τ P o rd h (.st t l) U := by
 intro im ow a w hop hi
 obtain ⟨d, v, hd, h2, h3, h4⟩ := Xk ok (w := w) hz
 have hde := (ok.arr t n e hu).2
 have hops : ∀ q ∈ parts.toList, Jf τ im ow (rd q.2) (a.eval q.2) := fun q hq => hop q.2 (by simp only [ho, Op.operands]; simp; exact ⟨q.1, by simpa using hq⟩)
 have hz1 := h3 im ow
 simp only [Rep] at hz1
 have hz2 : z.length = n /\ Jm τ im ow z e v.cells.toList := by
  rcases hz1.2 with ⟨fds', k1, k2⟩ | ⟨n, e, k1, k2, k3⟩
  · rw [hu] at k1; cases k1
  · rw [hu] at k1; cases k1; exact ⟨k2, k3⟩
 obtain ⟨im', cells', g1, g2, g3, g4, g5⟩ := Wn ok (w := w) (own := true) (O := fun _ => ow) (by intro t; rfl) (Y4 ok hde) (fun im im' l cs him hr => Jm.mono him (fun _ _ h => h) _ _ _ hr) _ _ z l U h im v.cells (Frz.refl h) hi hs (WS a.eval hops) hz2.2
 refine ⟨.agg cells', w, im', ow, .inl (Gd ok ho hu hde h2 g3), g1, ?_⟩
 simp only [Jf]
 exact ⟨cells', rfl, .inr ⟨n, e, hu, by rw [g5, hz2.1], g4⟩⟩
theorem Ji2 {t parts n e z l U} (ho : o.op = .build t parts) (hu : τ.und t = some (.array n e)) (hz : τ.zer t = some (.ar t z)) (hs : J3 τ (fun _ => some e) h true z (parts.toList.map fun p => (p.1, rd p.2)) = some (l, U)) :
  JT τ P o rd h (.ar t l) U := by
 intro im ow a w hop hi
 obtain ⟨d, v, hd, h2, h3, h4⟩ := Xk ok (w := w) hz
 have hde := (ok.arr t n e hu).2
 have hops : ∀ q ∈ parts.toList, Jf τ im ow (rd q.2) (a.eval q.2) := fun q hq => hop q.2 (by simp only [ho, Op.operands]; simp; exact ⟨q.1, by simpa using hq⟩)
 have hz1 := h3 im ow
 simp only [Rep] at hz1
 obtain ⟨_, n', e', k1, k2, k3, k4⟩ := hz1
 rw [hu] at k1; cases k1
 obtain ⟨im', cells', g1, g2, g3, g4, g5⟩ := Wn ok (w := w) (own := true) (O := fun _ => ow) (by intro t; rfl) (Y4 ok hde) (fun im im' l cs him hr => Jm.mono him (fun _ _ h => h) _ _ _ hr) _ _ z l U h im v.cells (Frz.refl h) hi hs (WS a.eval hops) (QE.toL ok k2 k4)
 refine ⟨.agg cells', w, im', ow, .inl (Gd ok ho hu hde h2 g3), g1, ?_⟩
 simp only [Jf]
 exact ⟨cells', n, e, rfl, hu, k2, by rw [g5, k3], Jm.toA ok k2 g4⟩
theorem JfM {t parts len e z l U} (ho : o.op = .buildSlice t len parts) (hu : τ.und t = some (.slice e)) (hz : τ.zer e = some z) (hlen : len * τ.siz e <= 16777216) (hs : J3 τ (fun _ => some e) h false (List.replicate len z) (parts.toList.map fun p => (p.1, rd p.2)) = some (l, U)) (hn0 : h (Qc o) = none) :
   JT τ P o rd h (.ow e (Qc o) [] 0 len (Ju4 τ e len)) (U ++ [(Qc o, .vec false e false l)]) := by
 intro im ow a w hop hi
 obtain ⟨d, v, hd, h2, h3, h4⟩ := Xk ok (w := w) hz
 have hpos := ok.pos e d hd
 have hops : ∀ q ∈ parts.toList, Jf τ im ow (rd q.2) (a.eval q.2) := fun q hq => hop q.2 (by simp only [ho, Op.operands]; simp; exact ⟨q.1, by simpa using hq⟩)
 have hvs : v.cells.size = τ.siz e := by
   have := Rep.len ok _ _ _ ⟨d, hd⟩ (h3 im JC); rwa [Array.length_toList] at this
 have hcells : ((Array.range (len * τ.siz e)).map fun i => v.cells[i % v.cells.size]!).toList = (List.replicate len v.cells.toList).flatten := by rw [← hvs]; exact JcR v.cells len
 have hrow : Jm τ im (vow τ e ow) (List.replicate len z) e ((Array.range (len * τ.siz e)).map fun i => v.cells[i % v.cells.size]!).toList := by rw [hcells]; exact Jm.repl ok (h3 im _) len
 obtain ⟨im', cells', g1, g2, g3, g4, g5⟩ := Wn ok (w := w) (own := false) (O := fun t => vow τ t ow) (by intro t; rfl) (Y4 ok ⟨d, hd⟩) (fun im im' l cs him hr => Jm.mono him (fun _ _ h => h) _ _ _ hr) _ _ (List.replicate len z) l U h im _ (Frz.refl h) hi hs (WS a.eval hops) hrow
 have hll : l.length = len := by rw [g5]; simp
 have hn : JJ h U (Qc o) = none := by
   rcases g2 (Qc o) with k1 | ⟨e1, k1, _⟩
   · rw [k1, hn0]
   · rw [hn0] at k1; cases k1
 have hpt : (parts.map fun (i, x) => (i, a.eval x)).toList = parts.toList.map fun p => (p.1, a.eval p.2) := by simp
 have hrun : (Instr.buildSlice t len (parts.map fun (i, x) => (i, a.eval x))).run P w = .ok (.slice (some ⟨w.heap.size, 0, none⟩) len len) (w.alloc (.cells cells' e)) := by
   have hnot : ¬ (len * τ.siz e > 2 ^ 24) := by simp; omega
   simp only [Instr.buildSlice, Sem.run_bind, Jv ok hu, Result.andThen_ok, Qd ok hd, if_neg hnot]
   by_cases hz0 : len * τ.siz e = 0
   · have : ((Array.range (len * τ.siz e)).map fun i => v.cells[i % v.cells.size]!) = ((Array.range (len * τ.siz e)).map fun i => (#[] : Array Value)[i % (#[] : Array Value).size]!) := by rw [hz0]; simp [Array.range]
     rw [this] at g3
     simp only [if_pos hz0, Sem.run_bind, Sem.run_pure, Result.andThen_ok, hpt]
     rw [g3]
     simp only [newRow, Sem.run_bind, run_newObj, Result.andThen_ok, Sem.run_pure]
     rfl
   · simp only [if_neg hz0, Sem.run_bind, h2, Sem.run_pure, Result.andThen_ok, hpt]
     rw [g3]
     simp only [newRow, Sem.run_bind, run_newObj, Result.andThen_ok, Sem.run_pure]
     rfl
 have G := VE ok (i := Qc o) (e := e) (d := d) (els := l) (cells := cells') (fr := (0, 0)) (w' := w.alloc (.cells cells' e)) (mid := cells'.toList) (post := []) (nl := false) g1.inv hn hd (by simp) (fun b hb => heap_alloc_old w _ b hb) (heap_alloc_new w _) (.inl rfl) (by simp) (Jm.mono (fun _ _ h => h) (fun _ _ h => h) _ _ _ g4) rfl (fun v hv => by cases hv)
 refine ⟨.slice (some ⟨w.heap.size, 0, none⟩) len len, w.alloc (.cells cells' e), im', _, .inl ?_, by rw [WC]; exact g1.trans G, ?_⟩
 · simp only [execOp, ho, Sem.run_bind, hrun, Result.andThen_ok, Sem.run_pure]
 simp only [Jf]
 have hcs : cells'.size = len * τ.siz e := by
   have := Jm.len ok _ _ _ ⟨d, hd⟩ g4
   rw [← Array.length_toList, this, hll]
 have hcap : ∀ c', Ju4 τ e len = some c' -> c' = len := by
   intro c' hc'
   unfold Ju4 at hc'
   split at hc'
   · cases hb : Nat.blt 0 len with
     | true => rw [hb] at hc'; cases hc'
     | false => rw [hb] at hc'; cases hc'; rfl
   · cases hc'; rfl
 exact ⟨_, J9 ok, .inr ⟨w.heap.size, ⟨w.heap.size, 0, none⟩, len, 0, l.length, rfl, rfl, Nat.le_refl _, rfl, by omega, (fun c' hc' => by rw [hcap c' hc']; exact ⟨rfl, by omega⟩), (fun _ => by omega), .inl ⟨by simp, fun _ => by show 0 + (0 + len) * τ.siz e <= cells'.size; rw [hcs]; simp⟩⟩⟩
theorem JkI {t parts len e z l U} (ho : o.op = .buildSlice t len parts) (hu : τ.und t = some (.slice e)) (hz : τ.zer e = some z) (hlen : len * τ.siz e <= 16777216) (hs : J3 τ (fun _ => some e) h true (List.replicate len z) (parts.toList.map fun p => (p.1, rd p.2)) = some (l, U)) :
   JT τ P o rd h (.va e l) U := by
 intro im ow a w hop hi
 obtain ⟨d, v, hd, h2, h3, h4⟩ := Xk ok (w := w) hz
 have hpos := ok.pos e d hd
 have hops : ∀ q ∈ parts.toList, Jf τ im ow (rd q.2) (a.eval q.2) := fun q hq => hop q.2 (by simp only [ho, Op.operands]; simp; exact ⟨q.1, by simpa using hq⟩)
 have hvs : v.cells.size = τ.siz e := by
   have := Rep.len ok _ _ _ ⟨d, hd⟩ (h3 im JC); rwa [Array.length_toList] at this
 have hcells : ((Array.range (len * τ.siz e)).map fun i => v.cells[i % v.cells.size]!).toList = (List.replicate len v.cells.toList).flatten := by rw [← hvs]; exact JcR v.cells len
 have hrow : Jm τ im ow (List.replicate len z) e ((Array.range (len * τ.siz e)).map fun i => v.cells[i % v.cells.size]!).toList := by rw [hcells]; exact Jm.repl ok (h3 im _) len
 obtain ⟨im', cells', g1, g2, g3, g4, g5⟩ := Wn ok (w := w) (own := true) (O := fun _ => ow) (by intro t; rfl) (Y4 ok ⟨d, hd⟩) (fun im im' l cs him hr => Jm.mono him (fun _ _ h => h) _ _ _ hr) _ _ (List.replicate len z) l U h im _ (Frz.refl h) hi hs (WS a.eval hops) hrow
 have hll : l.length = len := by rw [g5]; simp
 have hpt : (parts.map fun (i, x) => (i, a.eval x)).toList = parts.toList.map fun p => (p.1, a.eval p.2) := by simp
 have hrun : (Instr.buildSlice t len (parts.map fun (i, x) => (i, a.eval x))).run P w = .ok (.slice (some ⟨w.heap.size, 0, none⟩) len len) (w.alloc (.cells cells' e)) := by
   have hnot : ¬ (len * τ.siz e > 2 ^ 24) := by simp; omega
   simp only [Instr.buildSlice, Sem.run_bind, Jv ok hu, Result.andThen_ok, Qd ok hd, if_neg hnot]
   by_cases hz0 : len * τ.siz e = 0
   · have : ((Array.range (len * τ.siz e)).map fun i => v.cells[i % v.cells.size]!) = ((Array.range (len * τ.siz e)).map fun i => (#[] : Array Value)[i % (#[] : Array Value).size]!) := by rw [hz0]; simp [Array.range]
     rw [this] at g3
     simp only [if_pos hz0, Sem.run_bind, Sem.run_pure, Result.andThen_ok, hpt]
     rw [g3]
     simp only [newRow, Sem.run_bind, run_newObj, Result.andThen_ok, Sem.run_pure]
     rfl
   · simp only [if_neg hz0, Sem.run_bind, h2, Sem.run_pure, Result.andThen_ok, hpt]
     rw [g3]
     simp only [newRow, Sem.run_bind, run_newObj, Result.andThen_ok, Sem.run_pure]
     rfl
 obtain ⟨im2, G, hnew⟩ := Good.iced (o := .cells cells' e) (w' := w.alloc (.cells cells' e)) g1.inv (fun b hb => heap_alloc_old w _ b hb) (heap_alloc_new w _)
 refine ⟨.slice (some ⟨w.heap.size, 0, none⟩) len len, w.alloc (.cells cells' e), im2, ow, .inl ?_, g1.trans G, ?_⟩
 · simp only [execOp, ho, Sem.run_bind, hrun, Result.andThen_ok, Sem.run_pure]
 simp only [Jf]
 refine .inr ⟨rfl, ⟨w.heap.size, 0, none⟩, len, by rw [hll], by rw [hll]; exact Nat.le_refl _, fun _ => hll.symm, .inr ⟨rfl, cells', e, (0, 0), [], cells'.toList, [], hnew, by simp, rfl, Jm.mono G.imX (fun _ _ h => h) _ _ _ g4⟩⟩
end
end Go.Proofs.Ythpmachmnoljeaa.Rx
end

noncomputable section
namespace Go.Proofs.Ythpmachmnoljeaa.Rx
open Go
set_option linter.unusedVariables false
set_option maxHeartbeats 1000000

theorem YM {P : Program} {w : World} (t tx ty e : TypeId) (i : TypeInfo) (ht : P.underlying t = some (.slice e)) (hi : P.info? e = some i) (x : Value) (c : Nat) (hs : Src P i.size tx x 0 [] w) :
  (Builtin.append_ #[t, tx] ty #[.slice none 0 c, x]).run P w = .ok (.slice none 0 c) w := by
 rcases hs.kind with ⟨e', hk⟩ | hk <;> simp [Builtin.append_, run_underlying ht, run_underlying hk, sizeOf, typeInfo, hi, hs.len, hs.cells]
theorem WT {P : Program} {w : World} (t tx ty e : TypeId) (i : TypeInfo) (ht : P.underlying t = some (.slice e)) (hi : P.info? e = some i) (a : Addr) (x : Value) (n c : Nat) (hc : n <= c) (hs : Src P i.size tx x 0 [] w) :
  (Builtin.append_ #[t, tx] ty #[.slice (some a) n c, x]).run P w = .ok (.slice (some a) n c) w := by
 rcases hs.kind with ⟨e', hk⟩ | hk <;> simp [Builtin.append_, run_underlying ht, run_underlying hk, sizeOf, typeInfo, hi, hs.len, hs.cells, hc, storeCells]
theorem Xs {P : Program} {w w' : World} (t tx ty e : TypeId) (i : TypeInfo) (ht : P.underlying t = some (.slice e)) (hi : P.info? e = some i) (b off sLen sCap : Nat) (x : Value) (n : Nat) (news : List Value) (hs : Src P i.size tx x n news w)
  (hroom : sLen + n <= sCap) (hst : (storeCells ⟨b, off + sLen * i.size, none⟩ news).run P w = .ok () w') :
  (Builtin.append_ #[t, tx] ty #[.slice (some ⟨b, off, none⟩) sLen sCap, x]).run P w = .ok (.slice (some ⟨b, off, none⟩) (sLen + n) sCap) w' := by
 rcases hs.kind with ⟨e', hk⟩ | hk <;> simp [Builtin.append_, run_underlying ht, run_underlying hk, sizeOf, typeInfo, hi, hs.len, hroom, hs.cells, Addr.add_lit, hst]

theorem Jap {P : Program} {w w' : World} (t t2 ty e : TypeId) (i : TypeInfo) (v : Value) (k : IntKind) (ht : P.underlying t = some (.slice e)) (hk : P.underlying t2 = some (.int k)) (hi : P.info? e = some i) (hz : i.zero = some v) (b off sLen sCap m : Nat) (h0 : 0 < m) (hs : 0 < i.size)
  (h63 : (m : Int) <= 9223372036854775807) (h48 : m * i.bytes <= 281474976710656) (hroom : sLen + m <= sCap) (hst : (storeCells ⟨b, off + sLen * i.size, none⟩ (Builtin.zeroCells v.cells m).toList).run P w = .ok () w') :
  (Builtin.append_ #[t, t2] ty #[.slice (some ⟨b, off, none⟩) sLen sCap, .int k m]).run P w = .ok (.slice (some ⟨b, off, none⟩) (sLen + m) sCap) w' := by
 have hk0 : m ≠ 0 := by omega
 have hw : IntKind.i64.wrap (m : Int) = m := by rw [IntKind.wrap_i64]; omega
 have h48i : ¬ (281474976710656 < (m : Int) * (i.bytes : Int)) := by
  rw [← Int.natCast_mul]
  omega
 have hneg : ¬ ((m : Int) < 0) := by omega
 have hns : ¬ (m * i.size = 0) := Nat.mul_ne_zero hk0 (by omega)
 simp [Builtin.append_, run_underlying ht, run_underlying hk, sizeOf, typeInfo, zeroValue, hi, hz, asInt, asIntOf, hw, hroom, hneg, hns, h48i, Addr.add_lit, hst]
theorem WU {P : Program} {w : World} (t t2 ty e : TypeId) (i : TypeInfo) (k : IntKind) (ht : P.underlying t = some (.slice e)) (hk : P.underlying t2 = some (.int k)) (hi : P.info? e = some i) (base : Option Addr) (n c : Nat) (hc : n <= c) :
  (Builtin.append_ #[t, t2] ty #[.slice base n c, .int k ((0 : Nat) : Int)]).run P w = .ok (.slice base n c) w := by
 cases base <;> simp [Builtin.append_, run_underlying ht, run_underlying hk, sizeOf, typeInfo, hi, asInt, asIntOf, IntKind.wrap, IntKind.bits, IntKind.signed, hc, storeCells]

section
variable {τ : Tab} {P : Program} (ok : TabOk τ P) {im im' : Im} {ow ow' : Own} {h : Ents} {w w' : World} {o : Oper} {rd : Operand -> PV}
include ok
theorem SlR.src {e tx e' : TypeId} {u : Value} {els : List PV} (hk : τ.und tx = some (.slice e')) (hd : ∃ d, τ.und e = some d) (hs : SlR τ im ow w e u els) : ∃ news, Src P (τ.siz e) tx u els.length news w /\ Jm τ im (vow τ e ow) els e news := by
 rcases hs with ⟨rfl, rfl | ⟨a, c, rfl⟩⟩ | ⟨b, off, c, cells, el, fr, pre, mid, post, rfl, q2, q3, q4, q5, q6⟩
 · exact ⟨[], Src.ofNil w (ok.und _ _ hk) 0, by simp only [Jm]⟩
 · exact ⟨[], Src.ofSlice w (ok.und _ _ hk) a 0 c [] (by simp) (fun j u hj => by simp at hj) (fun u hu => by cases hu), by simp only [Jm]⟩
 · refine ⟨mid, Src.ofSlice w (ok.und _ _ hk) _ _ c mid (Jm.len ok _ _ _ hd q6) (fun j u hj => ?_) (Jm.ones ok q6), q6⟩
   rw [Qr]; exact Xd q3 q4 hj q5
theorem Jp4 {e tx : TypeId} {x : PV} {u : Value} {c : Bool} {new : List PV} (hd : ∃ d, τ.und e = some d) (hi : Inv τ im ow h w) (hx : Jf τ im ow x u) (hs : ZM τ e h tx x = some (c, new)) (hc : c = true) : ∃ news, Src P (τ.siz e) tx u new.length news w /\ Jm τ im (vow τ e ow) new e news := by
 subst hc
 unfold ZM at hs
 cases hu : τ.und tx with
 | none => simp [hu] at hs
 | some d =>
  rw [hu] at hs
  cases d with
  | slice e' =>
   simp only at hs
   cases hr : Xu h e x with
   | none => simp [hr] at hs
   | some r =>
    simp only [hr, Option.map_some, Option.some.injEq, Prod.mk.injEq, true_and] at hs
    subst hs
    exact SlR.src ok hu hd (Gl ok hi hx (nl := r.1) (els := r.2) hr).1
  | string =>
   simp only at hs
   cases hk : τ.kind e == some .u8 with
   | false => simp [hk] at hs
   | true =>
    simp only [hk, cond_true, Option.some.injEq, Prod.mk.injEq] at hs
    obtain ⟨h1, rfl⟩ := hs
    have hk' : τ.und e = some (.int .u8) := by
      have := eq_of_beq hk
      unfold Tab.kind at this
      split at this
      · rename_i k hk2; cases this; exact hk2
      · cases this
    rw [QM h1] at hx
    simp only [Jf] at hx
    rw [hx.1]
    have e1 := ok.one e _ hk' (by simp [Tab.agg, hk'])
    have hl : (Ji x.str).length = x.str.size := by simp only [Ji, List.length_map, Array.length_toList]; rfl
    refine ⟨byteCells x.str, ?_, ?_⟩
    · rw [e1, hl]; exact Src.ofString w (ok.und _ _ hu) x.str
    · exact Jm.mono (fun _ _ h => h) (fun _ _ h => h) _ _ _ (ZW ok hk' x.str.data.toList)
  | _ => simp at hs
theorem Jaq {t tx ty e : TypeId} {base : Option Addr} {n c m nid : Nat} {l new : List PV} {olds news : List Value} {ux : Value} {z : PV} (hi : Inv τ im ow h w) (hu : τ.und t = some (.slice e)) (hz : τ.zer e = some z)
  (hold : (Builtin.firstCells (τ.siz e) n (.slice base n c)).run P w.drew = .ok olds.toArray w.drew) (hl : Jm τ im (vow τ e ow) l e olds) (hn : l.length = n) (hs : Src P (τ.siz e) tx ux m news w) (hnew : Jm τ im (vow τ e ow) new e news) (hm : new.length = m)
  (hg : c < n + m) (hb : (n + m) * τ.byt e <= 140737488355328) (hfr : h nid = none) :
  ∃ u w' ow', (Builtin.append_ #[t, tx] ty #[.slice base n c, ux]).run P w = .ok u w' /\ Good τ im ow h w im ow' (JV h nid (.vec false e false (l ++ new))) w' /\ OwV τ ow' e nid [] 0 (n + m) none u := by
 obtain ⟨⟨d, hd⟩, i, v, g1, g2, g3, g4, g5⟩ := ok.zer e z hz
 obtain ⟨i', k1, k2, k3⟩ := ok.info e d hd
 rw [g1] at k1; obtain rfl := Option.some.inj k1
 have hpb := (ok.posB e d hd).1
 have h63 : ((n + m : Nat) : Int) <= 9223372036854775807 := by
  have : n + m <= (n + m) * τ.byt e := Nat.le_mul_of_pos_right _ hpb
  omega
 have hvs : v.cells.size = τ.siz e := by
  have := Rep.len ok _ _ _ ⟨d, hd⟩ (g5 im JC); rwa [Array.length_toList] at this
 have hr := run_append_grow_src (P := P) w t tx ty e i v (ok.und _ _ hu) g1 g2 base n c olds (by rw [k2]; exact hold) ux m news (by rw [k2]; exact hs) hg h63 (by rw [k3]; exact growslice_fits hg hb)
 have hlo := Jm.len ok _ _ _ ⟨d, hd⟩ hl
 have hln := Jm.len ok _ _ _ ⟨d, hd⟩ hnew
 have hge := grownCap_ge w (n + m) c e
 have hnl : (l ++ new).length = n + m := by rw [List.length_append, hn, hm]
 have hsize : ((olds ++ news).toArray ++ Builtin.zeroCells v.cells (grownCap w (n + m) c e - (n + m))).size = grownCap w (n + m) c e * τ.siz e := by
  simp only [Array.size_append, List.size_toArray, List.length_append, size_zeroCells, hvs, hlo, hln, hn, hm, ← Nat.add_mul]
  congr 1; omega
 have G := VE ok (i := nid) (e := e) (d := d) (els := l ++ new) (cells := (olds ++ news).toArray ++ Builtin.zeroCells v.cells (grownCap w (n + m) c e - (n + m))) (fr := (0, 0)) (w' := w.drew.alloc (.cells ((olds ++ news).toArray ++ Builtin.zeroCells v.cells (grownCap w (n + m) c e - (n + m))) e))
  (mid := olds ++ news) (post := (Builtin.zeroCells v.cells (grownCap w (n + m) c e - (n + m))).toList) (nl := false) hi hfr hd (by simp) (fun b hb => heap_alloc_old w.drew _ b hb) (heap_alloc_new w.drew _) (.inl rfl) (by simp) (Jm.app ok hl hnew) rfl (JnU ok _ (Rep.ones ok (g5 im JC)) _)
 refine ⟨_, _, _, hr, G, _, J9 ok, .inr ⟨w.heap.size, _, grownCap w (n + m) c e, 0, (l ++ new).length, rfl, rfl, hge, rfl, by omega, (fun c' hc' => by cases hc'), (fun _ => by omega), .inl ⟨by simp, fun _ => ?_⟩⟩⟩
 simp only [hsize, Nat.zero_add]; exact Nat.le_refl _
theorem Gm {t t2 ty e : TypeId} {base : Option Addr} {n c m nid : Nat} {k : IntKind} {l : List PV} {olds : List Value} {z : PV} (hi : Inv τ im ow h w) (hu : τ.und t = some (.slice e)) (hk : τ.und t2 = some (.int k)) (hz : τ.zer e = some z)
  (hold : (Builtin.firstCells (τ.siz e) n (.slice base n c)).run P w.drew = .ok olds.toArray w.drew) (hl : Jm τ im (vow τ e ow) l e olds) (hn : l.length = n) (h0 : 0 < m)
  (hg : c < n + m) (hb : (n + m) * τ.byt e <= 140737488355328) (hfr : h nid = none) :
  ∃ u w' ow', (Builtin.append_ #[t, t2] ty #[.slice base n c, .int k m]).run P w = .ok u w' /\ Good τ im ow h w im ow' (JV h nid (.vec false e false (l ++ List.replicate m z))) w' /\ OwV τ ow' e nid [] 0 (n + m) none u := by
 obtain ⟨⟨d, hd⟩, i, v, g1, g2, g3, g4, g5⟩ := ok.zer e z hz
 obtain ⟨i', k1, k2, k3⟩ := ok.info e d hd
 rw [g1] at k1; obtain rfl := Option.some.inj k1
 have hpb := (ok.posB e d hd).1
 have h63 : ((n + m : Nat) : Int) <= 9223372036854775807 := by
  have : n + m <= (n + m) * τ.byt e := Nat.le_mul_of_pos_right _ hpb
  omega
 have hb2 : m * τ.byt e <= (n + m) * τ.byt e := Nat.mul_le_mul_right _ (by omega)
 have hvs : v.cells.size = τ.siz e := by
  have := Rep.len ok _ _ _ ⟨d, hd⟩ (g5 im JC); rwa [Array.length_toList] at this
 have hr := Lib.run_append_grow_zeros (P := P) w t t2 ty e i v k k (ok.und _ _ hu) (ok.und _ _ hk) g1 g2 base n c olds (by rw [k2]; exact hold) m h0 (by rw [k2]; exact ok.pos e d hd) hg h63 (by rw [k3]; omega) (by rw [k3]; exact growslice_fits hg hb)
 have hlo := Jm.len ok _ _ _ ⟨d, hd⟩ hl
 have hge := grownCap_ge w (n + m) c e
 have hnl : (l ++ List.replicate m z).length = n + m := by rw [List.length_append, hn, List.length_replicate]
 have hzc : (Builtin.zeroCells v.cells m).toList = (List.replicate m v.cells.toList).flatten := JcR v.cells m
 have hsize : (olds.toArray ++ Builtin.zeroCells v.cells m ++ Builtin.zeroCells v.cells (grownCap w (n + m) c e - (n + m))).size = grownCap w (n + m) c e * τ.siz e := by
  simp only [Array.size_append, List.size_toArray, size_zeroCells, hvs, hlo, hn, ← Nat.add_mul]
  congr 1; omega
 have G := VE ok (i := nid) (e := e) (d := d) (els := l ++ List.replicate m z) (cells := olds.toArray ++ Builtin.zeroCells v.cells m ++ Builtin.zeroCells v.cells (grownCap w (n + m) c e - (n + m))) (fr := (0, 0)) (w' := w.drew.alloc (.cells (olds.toArray ++ Builtin.zeroCells v.cells m ++ Builtin.zeroCells v.cells (grownCap w (n + m) c e - (n + m))) e))
  (mid := olds ++ (List.replicate m v.cells.toList).flatten) (post := (Builtin.zeroCells v.cells (grownCap w (n + m) c e - (n + m))).toList) (nl := false) hi hfr hd (by simp) (fun b hb => heap_alloc_old w.drew _ b hb) (heap_alloc_new w.drew _) (.inl rfl) (by simp [hzc]) (Jm.app ok hl (Jm.repl ok (g5 im _) m)) rfl (JnU ok _ (Rep.ones ok (g5 im JC)) _)
 refine ⟨_, _, _, hr, G, _, J9 ok, .inr ⟨w.heap.size, _, grownCap w (n + m) c e, 0, (l ++ List.replicate m z).length, rfl, rfl, hge, rfl, by omega, (fun c' hc' => by cases hc'), (fun _ => by omega), .inl ⟨by simp, fun _ => ?_⟩⟩⟩
 simp only [hsize, Nat.zero_add]; exact Nat.le_refl _
theorem Jp5 {e : TypeId} {id off len c : Nat} {nl : Bool} {l : List PV} {us : Value} (hi : Inv τ im ow h w) (hid : h id = some (.vec false e nl l)) (hs : OwV τ ow e id [] off len (some c) us) :
   ∃ base olds, us = .slice base len c /\ (Builtin.firstCells (τ.siz e) len (.slice base len c)).run P w.drew = .ok olds.toArray w.drew /\ Jm τ im (vow τ e ow) ((l.drop off).take len) e olds /\ ((l.drop off).take len).length = len := by
 have hent := hi.ent id _ hid
 obtain ⟨loc, g1, g2⟩ := hs
 rcases g2 with ⟨a1, _, rfl, rfl, a5, nl', a6, a7⟩ | ⟨b, a, c1, oo, n, a1, rfl, a3, a4, a5, a6, a7, a8⟩
 · have hc : c = 0 := by simpa using a5
   subst hc
   rcases a7 with ⟨_, rfl⟩ | ⟨_, a, rfl⟩
   · exact ⟨none, [], rfl, run_firstCells_none w.drew _ 0 0 0, by simp only [List.take_zero, Jm], by simp⟩
   · exact ⟨some a, [], rfl, run_firstCells_some w.drew _ 0 a 0 0 [] (by simp) (fun j u hj => by simp at hj), by simp only [List.take_zero, Jm], by simp⟩
 · obtain ⟨rfl, h6⟩ := a6 c rfl
   have hra := ZR ok hent g1 a1 (p := []) (l := l) rfl a4
   obtain ⟨rfl, ⟨d, hd⟩, hnl, cells, el, fr, pre, mid, post, m1, m2, m3, m4, m5, _⟩ := hra
   obtain rfl : oo = 0 := by
     obtain ⟨loc', q1, r1, _⟩ := hent
     rw [g1] at q1; obtain rfl := Option.some.inj q1
     rw [r1] at a4
     simp only [Root.rowAt, Option.some.injEq, Prod.mk.injEq] at a4
     exact a4.1.symm
   have hlen : ((l.drop off).take len).length = len := by simp; omega
   rcases a8 with ⟨rfl, _⟩ | rfl
   · obtain ⟨p1, md, p2, e1, e2, e3, _⟩ := Jm.sub ok ⟨d, hd⟩ off len a5 m5
     have e4 := Jm.len ok _ _ _ ⟨d, hd⟩ e3
     rw [hlen] at e4
     refine ⟨_, md, rfl, run_firstCells_some w.drew _ _ _ _ _ md e4 (fun j u hj => ?_), e3, hlen⟩
     rw [Qr]
     exact Xd (w := w.drew) (pre := pre ++ p1) (post := p2 ++ post) m1 (by rw [m3, e1]; simp) hj (by simp [m4, e2])
   · obtain rfl : len = 0 := by omega
     exact ⟨_, [], rfl, run_firstCells_some w.drew _ 0 a 0 0 [] (by simp) (fun j u hj => by simp at hj), by simp only [List.take_zero, Jm], by simp⟩
theorem XR {nid : Nat} {e d nl} {u : Value} (hi : Inv τ im ow h w) (hd : τ.und e = some d) (hfr : h nid = none) (hu : (nl = true /\ u = .slice none 0 0) ∨ (nl = false /\ ∃ a, u = .slice (some a) 0 0)) :
  ∃ ow', Good τ im ow h w im ow' (JV h nid (.vec false e nl [])) w /\ OwV τ ow' e nid [] 0 0 none u :=
 ⟨_, JiZ ok hi hfr hd rfl, _, J9 ok, .inl ⟨rfl, rfl, rfl, rfl, .inl rfl, nl, rfl, hu⟩⟩
theorem Jb3 {t ty e : TypeId} {ts : Array TypeId} {id nid off len c m b : Nat} {nl : Bool} {l new : List PV} {news : List Value} {ux : Value} {loc : Loc} (hi : Inv τ im ow h w) (h1 : h id = some (.vec false e nl l)) (hl : ow id = some loc) (hb : loc.blk = some b) (hu : τ.und t = some (.slice e))
   (hoff : off + len <= l.length) (hR : ∀ cells el fr, w.heap[b]? = some (.cells cells el fr) -> loc.base + (off + c) * τ.siz e <= cells.size)
   (hone : ∀ u ∈ news, u.oneCell' = true) (hrun : ∀ w', (storeCells ⟨b, loc.base + off * τ.siz e + len * τ.siz e, none⟩ news).run P w = .ok () w' -> (Builtin.append_ ts ty #[.slice (some ⟨b, loc.base + off * τ.siz e, none⟩) len c, ux]).run P w = .ok (.slice (some ⟨b, loc.base + off * τ.siz e, none⟩) (len + m) c) w') (hnew : Jm τ im (vow τ e ow) new e news) (hm : new.length = m) (hc : len + m <= c) (hln : l.length <= off + c ∨ True) (hfr : h nid = none) :
   ∃ w' ow', (Builtin.append_ ts ty #[.slice (some ⟨b, loc.base + off * τ.siz e, none⟩) len c, ux]).run P w = .ok (.slice (some ⟨b, loc.base + off * τ.siz e, none⟩) (len + m) c) w' /\
     Good τ im ow h w im ow' (JV (JV h id .dead) nid (.vec false e false ((l.drop off).take len ++ new))) w' /\ OwV τ ow' e nid [] 0 (len + m) none (.slice (some ⟨b, loc.base + off * τ.siz e, none⟩) (len + m) c) := by
 obtain ⟨loc', q1, q2⟩ := hi.ent id _ h1
 rw [hl] at q1; obtain rfl := Option.some.inj q1
 obtain ⟨r1, ⟨d, hd⟩, ⟨r2, _⟩ | ⟨r2, b', cells, el, fr, pre, mid, post, m1, m2, m3, m4, m5, m6, m7, m8, m9⟩⟩ := q2
 · rw [hb] at r2; cases r2
 rw [hb] at m1; obtain rfl := Option.some.inj m1
 obtain ⟨p1, md, p2, e1, e2, e3, _⟩ := Jm.sub ok ⟨d, hd⟩ off len hoff m6
 have e4 := Jm.len ok _ _ _ ⟨d, hd⟩ e3
 have e5 := Jm.len ok _ _ _ ⟨d, hd⟩ hnew
 have hlen : ((l.drop off).take len).length = len := by simp; omega
 rw [hlen] at e4
 rw [hm] at e5
 have hcs := hR _ _ _ m2
 have htot : cells.toList.length = cells.size := Array.length_toList
 rw [m4, e1] at htot
 simp only [List.length_append, m5, e2, e4] at htot
 have hmul : (len + m) * τ.siz e <= c * τ.siz e := Nat.mul_le_mul_right _ hc
 rw [Nat.add_mul] at hmul hcs
 have hrest : news.length <= (p2 ++ post).length := by rw [List.length_append, e5]; omega
 have hsplit : cells.toList = (pre ++ p1 ++ md) ++ (p2 ++ post).take news.length ++ (p2 ++ post).drop news.length := by
   rw [List.append_assoc (pre ++ p1 ++ md), List.take_append_drop, m4, e1]; simp
 obtain ⟨w', cells', s1, s2, s3⟩ := Qw ok news 0 w b (loc.base + off * τ.siz e + len * τ.siz e) cells el fr (pre ++ p1 ++ md) ((p2 ++ post).take news.length) ((p2 ++ post).drop news.length) m2 m3 hsplit (by simp; omega) (by simp only [List.length_append, m5, e2, e4]; omega) hone
 have hsz : cells'.size = cells.size := by
   rw [← Array.length_toList, ← Array.length_toList, s2, hsplit]; simp only [List.length_append, List.length_take]; omega
 have hrun := hrun w' s1
 have G := Good.swap (j := nid) (e' := .vec false e false ((l.drop off).take len ++ new)) (l' := ⟨some b, loc.base + off * τ.siz e, .vec e ((l.drop off).take len ++ new).length false, c * τ.siz e⟩) hi h1 (by simp [Ent.free]) hl hb hfr s3 rfl ?_ (by simp [Ent.free])
 · refine ⟨w', _, hrun, G, _, J9 ok, .inr ⟨b, _, c, 0, _, rfl, rfl, hc, rfl, ?_, (fun c' hc' => by cases hc'), fun _ => ?_, .inl ⟨by simp, fun _ => by simp⟩⟩⟩
   · simp only [List.length_append, hlen, hm]; omega
   · simp only [List.length_append, hlen, hm]; omega
 · have hno : ow nid = none := by
     cases ho : ow nid with
     | none => rfl
     | some l2 => obtain ⟨e2, g⟩ := hi.dom nid l2 ho; rw [hfr] at g; cases g
   have how := JdU ok (l := ⟨some b, loc.base + off * τ.siz e, .vec e ((l.drop off).take len ++ new).length false, c * τ.siz e⟩) hi hfr
   refine ⟨_, J9 ok, rfl, ⟨d, hd⟩, .inr ⟨rfl, b, cells', el, fr, pre ++ p1, md ++ news, (p2 ++ post).drop news.length, rfl, s3.at_, (m3.put hsplit s2 hsz hone), by rw [s2]; simp, by simp only [List.length_append, m5, e2], ?_, (fun hh => by cases hh), fun hf => m8 hf, ?_⟩⟩
   · exact Jm.mono (fun _ _ h => h) (JdP how) _ _ _ (Jm.app ok e3 hnew)
   · rw [hsz]; show loc.base + off * τ.siz e + c * τ.siz e <= cells.size; omega
theorem JqP {t tx ty e : TypeId} {id nid off len c m b : Nat} {nl : Bool} {l new : List PV} {news : List Value} {ux : Value} {loc : Loc} (hi : Inv τ im ow h w) (h1 : h id = some (.vec false e nl l)) (hl : ow id = some loc) (hb : loc.blk = some b) (hu : τ.und t = some (.slice e))
  (hoff : off + len <= l.length) (hR : ∀ cells el fr, w.heap[b]? = some (.cells cells el fr) -> loc.base + (off + c) * τ.siz e <= cells.size)
  (hs : Src P (τ.siz e) tx ux m news w) (hnew : Jm τ im (vow τ e ow) new e news) (hm : new.length = m) (hc : len + m <= c) (hln : l.length <= off + c ∨ True) (hfr : h nid = none) :
  ∃ w' ow', (Builtin.append_ #[t, tx] ty #[.slice (some ⟨b, loc.base + off * τ.siz e, none⟩) len c, ux]).run P w = .ok (.slice (some ⟨b, loc.base + off * τ.siz e, none⟩) (len + m) c) w' /\
   Good τ im ow h w im ow' (JV (JV h id .dead) nid (.vec false e false ((l.drop off).take len ++ new))) w' /\ OwV τ ow' e nid [] 0 (len + m) none (.slice (some ⟨b, loc.base + off * τ.siz e, none⟩) (len + m) c) := by
 obtain ⟨loc', q1, q2⟩ := hi.ent id _ h1
 have q2' := q2
 obtain ⟨r1, ⟨d, hd⟩, _⟩ := q2
 obtain ⟨i', k1, k2, k3⟩ := ok.info e d hd
 exact Jb3 ok (ts := #[t, tx]) hi h1 hl hb hu hoff hR hs.one (fun w' s1 => Xs (P := P) t tx ty e i' (ok.und _ _ hu) k1 b (loc.base + off * τ.siz e) len c ux m news (by rw [k2]; exact hs) hc (by rw [k2]; exact s1)) hnew hm hc hln hfr
theorem Jp6 {t tx ty e : TypeId} {id off len c m b : Nat} {nl : Bool} {l new : List PV} {news : List Value} {ux : Value} {loc : Loc} (hi : Inv τ im ow h w) (h1 : h id = some (.vec false e nl l)) (hl : ow id = some loc) (hb : loc.blk = some b) (hu : τ.und t = some (.slice e))
   (hoff : off + c <= l.length) (hs : Src P (τ.siz e) tx ux m news w) (hnew : Jm τ im (vow τ e ow) new e news) (hm : new.length = m) (hc : len + m <= c) :
   ∃ w', (Builtin.append_ #[t, tx] ty #[.slice (some ⟨b, loc.base + off * τ.siz e, none⟩) len c, ux]).run P w = .ok (.slice (some ⟨b, loc.base + off * τ.siz e, none⟩) (len + m) c) w' /\
    Good τ im ow h w im ow (JV h id (.vec false e nl (l.take (off + len) ++ new ++ l.drop (off + len + m)))) w' /\ loc.root = .vec e l.length nl := by
 obtain ⟨loc', q1, q2⟩ := hi.ent id _ h1
 rw [hl] at q1; obtain rfl := Option.some.inj q1
 obtain ⟨r1, ⟨d, hd⟩, ⟨r2, _⟩ | ⟨r2, b', cells, el, fr, pre, mid, post, m1, m2, m3, m4, m5, m6, m7, m8, m9⟩⟩ := q2
 · rw [hb] at r2; cases r2
 rw [hb] at m1; obtain rfl := Option.some.inj m1
 obtain ⟨i', k1, k2, k3⟩ := ok.info e d hd
 obtain ⟨p1, md, p2, e1, e2, e3, e6⟩ := Jm.sub ok ⟨d, hd⟩ (off + len) m (by omega) m6
 have e4 := Jm.len ok _ _ _ ⟨d, hd⟩ e3
 have e5 := Jm.len ok _ _ _ ⟨d, hd⟩ hnew
 have hlen : ((l.drop (off + len)).take m).length = m := by simp; omega
 rw [hlen] at e4
 rw [hm] at e5
 have hsplit : cells.toList = (pre ++ p1) ++ md ++ (p2 ++ post) := by rw [m4, e1]; simp
 obtain ⟨w', cells', s1, s2, s3⟩ := Qw ok news 0 w b (loc.base + off * τ.siz e + len * τ.siz e) cells el fr (pre ++ p1) md (p2 ++ post) m2 m3 hsplit (by rw [e4, e5]) (by simp only [List.length_append, m5, e2, Nat.add_mul]; omega) hs.one
 have hsz : cells'.size = cells.size := by
   rw [← Array.length_toList, ← Array.length_toList, s2, hsplit]; simp only [List.length_append, e4, e5]
 have hrun := Xs (P := P) t tx ty e i' (ok.und _ _ hu) k1 b (loc.base + off * τ.siz e) len c ux m news (by rw [k2]; exact hs) hc (by rw [k2]; exact s1)
 have hll : (l.take (off + len) ++ new ++ l.drop (off + len + m)).length = l.length := by simp only [List.length_append, List.length_take, List.length_drop]; omega
 refine ⟨w', hrun, Good.write (e' := .vec false e nl (l.take (off + len) ++ new ++ l.drop (off + len + m))) hi h1 (by simp [Ent.free]) hl hb s3 ?_ (by simp [Ent.free]), r1⟩
 exact ⟨loc, hl, by rw [r1, hll], ⟨d, hd⟩, .inr ⟨r2, b, cells', el, fr, pre, p1 ++ news ++ p2, post, hb, s3.at_, (m3.put hsplit s2 hsz hs.one), by rw [s2]; simp, m5, e6 new news hm hnew, (fun hh => by cases hh), m8, by rw [hsz]; exact m9⟩⟩
theorem JkJ {t t2 ty e : TypeId} {id nid off len m : Nat} {k : IntKind} {nl : Bool} {l : List PV} {z : PV} {us : Value} (hi : Inv τ im ow h w) (hu : τ.und t = some (.slice e)) (hk : τ.und t2 = some (.int k)) (hz : τ.zer e = some z) (hid : h id = some (.vec false e nl l)) (hs : OwV τ ow e id [] off len none us)
   (hb : (len + m) * τ.byt e <= 140737488355328) (hfr : h nid = none) :
   ∃ u w' ow', (Builtin.append_ #[t, t2] ty #[us, .int k m]).run P w = .ok u w' /\ Good τ im ow h w im ow' (JJ h [(id, .dead), (nid, .vec false e (nl && ((m : Int) == 0)) ((l.drop off).take len ++ List.replicate m z))]) w' /\ Jf τ im ow' (.ow e nid [] 0 (len + m) none) u := by
 obtain ⟨⟨d, hd⟩, i, v, z1, z2, z3, z4, z5⟩ := ok.zer e z hz
 obtain ⟨i', k1, k2, k3⟩ := ok.info e d hd
 rw [z1] at k1; obtain rfl := Option.some.inj k1
 have hne : nid ≠ id := by rintro rfl; rw [hfr] at hid; cases hid
 have hkf : JV h id .dead nid = none := by simp [JV, hne, hfr]
 have hpb := (ok.posB e d hd).1
 have hb2 : m * τ.byt e <= (len + m) * τ.byt e := Nat.mul_le_mul_right _ (by omega)
 have h63 : (m : Int) <= 9223372036854775807 := by
   have : m <= m * τ.byt e := Nat.le_mul_of_pos_right _ hpb
   omega
 obtain ⟨loc, g1, g2⟩ := hs
 have hent := hi.ent id _ hid
 have kill := Good.kill hi hid
 have fin : ∀ {u w' ow'} {e3 : Ent}, (Builtin.append_ #[t, t2] ty #[us, .int k m]).run P w = .ok u w' -> Good τ im ow (JV h id .dead) w im ow' (JV (JV h id .dead) nid e3) w' -> e3 = .vec false e (nl && ((m : Int) == 0)) ((l.drop off).take len ++ List.replicate m z) -> OwV τ ow' e nid [] 0 (len + m) none u ->
     ∃ u w' ow', (Builtin.append_ #[t, t2] ty #[us, .int k m]).run P w = .ok u w' /\ Good τ im ow h w im ow' (JJ h [(id, .dead), (nid, .vec false e (nl && ((m : Int) == 0)) ((l.drop off).take len ++ List.replicate m z))]) w' /\ Jf τ im ow' (.ow e nid [] 0 (len + m) none) u := by
   intro u w' ow' e3 f1 f2 f3 f4
   subst f3
   exact ⟨u, w', ow', f1, kill.trans f2, by simpa only [Jf] using f4⟩
 have hnz : ∀ j : Nat, (((j + 1 : Nat) : Int) == 0) = false := by intro j; simp; omega
 rcases g2 with ⟨a1, _, rfl, rfl, a5, nl', a6, a7⟩ | ⟨b, a, c, oo, n, a1, rfl, a3, a4, a5, a6, a7, a8⟩
 · obtain ⟨loc', q1, r1, _, r3⟩ := hent
   rw [g1] at q1; obtain rfl := Option.some.inj q1
   rw [a6] at r1
   simp only [Root.vec.injEq, true_and] at r1
   obtain ⟨r0, rfl⟩ := r1
   obtain rfl := List.length_eq_zero_iff.1 r0.symm
   cases m with
   | zero =>
     obtain ⟨ow', G, q2⟩ := XR ok (nid := nid) (nl := nl') (u := us) kill.inv hd hkf a7
     refine fin (e3 := .vec false e nl' []) (w' := w) (u := us) (ow' := ow') ?_ G (by simp) q2
     rcases a7 with ⟨_, rfl⟩ | ⟨_, a, rfl⟩ <;> exact WU t t2 ty e i k (ok.und _ _ hu) (ok.und _ _ hk) z1 _ 0 0 (Nat.le_refl _)
   | succ j =>
     obtain ⟨base, hub, hbr⟩ : ∃ base, us = .slice base 0 0 /\ (Builtin.firstCells (τ.siz e) 0 (.slice base 0 0)).run P w.drew = .ok ([] : List Value).toArray w.drew := by
      rcases a7 with ⟨_, rfl⟩ | ⟨_, a, rfl⟩
      · exact ⟨none, rfl, run_firstCells_none w.drew _ 0 0 0⟩
      · exact ⟨some a, rfl, run_firstCells_some w.drew _ 0 a 0 0 [] (by simp) (fun j u hj => by simp at hj)⟩
     subst hub
     obtain ⟨u, w', ow', f1, f2, f3⟩ := Gm ok (ty := ty) (base := base) (n := 0) (c := 0) (l := []) (olds := []) (nid := nid) (m := j + 1) kill.inv hu hk hz hbr (by simp only [Jm]) rfl (by omega) (by omega) hb hkf
     exact fin f1 f2 (by rw [hnz, Bool.and_false]; simp) f3
 · have hra := ZR ok hent g1 a1 (p := []) (l := l) rfl a4
   obtain ⟨rfl, _, hnl, cells, el, fr, pre, mid, post, m1, m2, m3, m4, m5, _⟩ := hra
   have hnl' : nl = false := hnl
   subst hnl'
   obtain rfl : oo = 0 := by
     obtain ⟨loc', q1, r1, _⟩ := hent
     rw [g1] at q1; obtain rfl := Option.some.inj q1
     rw [r1] at a4
     simp only [Root.rowAt, Option.some.injEq, Prod.mk.injEq] at a4
     exact a4.1.symm
   have hlen : ((l.drop off).take len).length = len := by simp; omega
   by_cases hg : c < len + m
   · have key : ∃ olds, (Builtin.firstCells (τ.siz e) len (.slice (some a) len c)).run P w.drew = .ok olds.toArray w.drew /\ Jm τ im (vow τ e ow) ((l.drop off).take len) e olds := by
      rcases a8 with ⟨rfl, _⟩ | rfl
      · obtain ⟨p1, md, p2, e1, e2, e3, _⟩ := Jm.sub ok ⟨d, hd⟩ off len a5 m5
        have e4 := Jm.len ok _ _ _ ⟨d, hd⟩ e3
        rw [hlen] at e4
        refine ⟨md, run_firstCells_some w.drew _ _ _ _ _ md e4 (fun j u hj => ?_), e3⟩
        rw [Qr]
        exact Xd (w := w.drew) (pre := pre ++ p1) (post := p2 ++ post) m1 (by rw [m3, e1]; simp) hj (by simp [m4, e2])
      · obtain rfl : len = 0 := by omega
        exact ⟨[], run_firstCells_some w.drew _ 0 a 0 0 [] (by simp) (fun j u hj => by simp at hj), by simp only [List.take_zero, Jm]⟩
     obtain ⟨olds, r1, r2⟩ := key
     obtain ⟨u, w', ow', f1, f2, f3⟩ := Gm ok (ty := ty) (nid := nid) kill.inv hu hk hz r1 r2 hlen (by omega) hg hb hkf
     exact fin f1 f2 (by simp) f3
   · cases m with
     | zero =>
      by_cases hc0 : c = 0
      · subst hc0
        obtain rfl : len = 0 := by omega
        obtain ⟨ow', G, q2⟩ := XR ok (nid := nid) (nl := false) (u := .slice (some a) 0 0) kill.inv hd hkf (.inr ⟨rfl, a, rfl⟩)
        exact fin (WU t t2 ty e i k (ok.und _ _ hu) (ok.und _ _ hk) z1 _ 0 0 (Nat.le_refl _)) G (by simp) q2
      · rcases a8 with ⟨rfl, a9⟩ | a8
        · simp only [Nat.add_zero] at *
          have hR : ∀ cells el fr, w.heap[b]? = some (.cells cells el fr) -> loc.base + (off + c) * τ.siz e <= cells.size := by
           intro cells2 el2 fr2 hb2
           rw [m1] at hb2; cases hb2
           obtain ⟨cells3, el3, fr3, s1, s2⟩ := JdR ok hent g1 a1 (p := []) (l := l) rfl
           rw [m1] at s1; cases s1
           have := a9 trivial
           omega
          obtain ⟨w', ow', f1, f2, f3⟩ := Jb3 ok (ts := #[t, t2]) (ty := ty) (nid := nid) (news := []) (new := []) (m := 0) (ux := .int k ((0 : Nat) : Int)) hi hid g1 a1 hu a5 hR (by simp) (fun w' s1 => by
           simp only [storeCells, Sem.run_pure, Result.ok.injEq, true_and] at s1
           subst s1
           exact WU t t2 ty e i k (ok.und _ _ hu) (ok.und _ _ hk) z1 _ len c (by omega)) (by simp only [Jm]) rfl (by omega) (.inr trivial) hfr
          exact ⟨_, w', ow', f1, by simpa [JJ] using f2, by simpa only [Jf, Nat.add_zero] using f3⟩
        · exact (hc0 a8).elim
     | succ j =>
      rcases a8 with ⟨rfl, a9⟩ | a8
      · simp only [Nat.add_zero] at *
        have hR : ∀ cells el fr, w.heap[b]? = some (.cells cells el fr) -> loc.base + (off + c) * τ.siz e <= cells.size := by
          intro cells2 el2 fr2 hb2
          rw [m1] at hb2; cases hb2
          obtain ⟨cells3, el3, fr3, s1, s2⟩ := JdR ok hent g1 a1 (p := []) (l := l) rfl
          rw [m1] at s1; cases s1
          have := a9 trivial
          omega
        have hzc : (Builtin.zeroCells v.cells (j + 1)).toList = (List.replicate (j + 1) v.cells.toList).flatten := JcR v.cells (j + 1)
        obtain ⟨w', ow', f1, f2, f3⟩ := Jb3 ok (ts := #[t, t2]) (ty := ty) (nid := nid) (news := (Builtin.zeroCells v.cells (j + 1)).toList) (new := List.replicate (j + 1) z) (m := j + 1) (ux := .int k ((j + 1 : Nat) : Int)) hi hid g1 a1 hu a5 hR (JnU ok _ (Rep.ones ok (z5 im JC)) _) (fun w' s1 =>
          Jap (P := P) t t2 ty e i v k (ok.und _ _ hu) (ok.und _ _ hk) z1 z2 b (loc.base + off * τ.siz e) len c (j + 1) (by omega) (by rw [k2]; exact ok.pos e d hd) h63 (by rw [k3]; omega) (by omega) (by rw [k2]; exact s1)) (by rw [hzc]; exact Jm.repl ok (z5 im _) (j + 1)) (by simp) (by omega) (.inr trivial) hfr
        exact ⟨_, w', ow', f1, by rw [hnz]; simpa [JJ] using f2, by simpa only [Jf] using f3⟩
      · omega
theorem JkK {t tx ty e : TypeId} {nid : Nat} {s v : PV} {new : List PV} {news : List Value} {us ux : Value} {z : PV} {U : Upd} (hi : Inv τ im ow h w) (hu : τ.und t = some (.slice e)) (hz : τ.zer e = some z) (hsv : Jf τ im ow s us)
   (hs : Src P (τ.siz e) tx ux new.length news w) (hnew : Jm τ im (vow τ e ow) new e news) (hfr : h nid = none) (hh : Jdi τ e h nid s new = some (true, v, U)) :
   ∃ u w' ow', (Builtin.append_ #[t, tx] ty #[us, ux]).run P w = .ok u w' /\ Good τ im ow h w im ow' (JJ h U) w' /\ Jf τ im ow' v u := by
 obtain ⟨d, hd⟩ := ok.sl t e hu
 obtain ⟨i', k1, k2, k3⟩ := ok.info e d hd
 have hs' : Src P i'.size tx ux new.length news w := by rw [k2]; exact hs
 have nil0 : new.length = 0 -> news = [] := fun h0 => by
   have := Jm.len ok _ _ _ ⟨d, hd⟩ hnew
   rw [h0, Nat.zero_mul] at this
   exact List.length_eq_zero_iff.1 this
 unfold Jdi at hh
 split at hh
 · rename_i e' fl l0
   cases he : (e' == e) with
   | false => simp [he] at hh
   | true =>
     simp only [he, cond_true, Option.some.injEq, Prod.mk.injEq] at hh
     obtain ⟨h1, rfl, rfl⟩ := hh
     simp only [Jf] at hsv
     rcases hsv with ⟨_, rfl, _⟩ | ⟨hf, _⟩
     · cases new with
       | nil =>
        obtain rfl := nil0 rfl
        obtain ⟨ow', G, g2⟩ := XR ok (nid := nid) (nl := true) (u := .slice none 0 0) hi hd hfr (.inl ⟨rfl, rfl⟩)
        exact ⟨_, w, ow', YM t tx ty e i' (ok.und _ _ hu) k1 ux 0 hs', G, by simpa only [Jf, List.length_nil] using g2⟩
       | cons x xs =>
        obtain ⟨u, w', ow', g1, g2, g3⟩ := Jaq ok (ty := ty) (base := none) (n := 0) (c := 0) (l := []) (olds := []) (nid := nid) hi hu hz (run_firstCells_none w.drew _ 0 0 0) (by simp only [Jm]) rfl hs hnew rfl (by simp) (by simpa [Je] using h1) hfr
        exact ⟨u, w', ow', g1, by simpa [JJ] using g2, by simpa only [Jf, Nat.zero_add] using g3⟩
     · cases hf
 · rename_i e' l
   cases he : (e' == e) with
   | false => simp [he] at hh
   | true =>
     obtain rfl : e' = e := by simpa using he
     simp only [he, cond_true, Option.some.injEq, Prod.mk.injEq, Bool.and_eq_true] at hh
     obtain ⟨⟨h1, h2⟩, rfl, rfl⟩ := hh
     obtain ⟨q1, _, _⟩ := SlR.of_ro ok hi (by simpa only [Jf] using hsv)
     simp only [Jf] at hsv
     rcases hsv with ⟨hf, _⟩ | ⟨_, a, c, rfl, q2, q3, q4⟩
     · cases hf
     · obtain rfl := q3 rfl
       cases new with
       | nil =>
        have hl0 : l = [] := by simpa using h2
        subst hl0
        obtain rfl := nil0 rfl
        obtain ⟨ow', G, g2⟩ := XR ok (nid := nid) (nl := false) (u := .slice (some a) 0 0) hi hd hfr (.inr ⟨rfl, a, rfl⟩)
        exact ⟨_, w, ow', WT t tx ty e' i' (ok.und _ _ hu) k1 a ux 0 0 (Nat.le_refl _) hs', G, by simpa only [Jf, List.length_nil, Nat.add_zero] using g2⟩
       | cons x xs =>
        have key : ∃ olds, (Builtin.firstCells (τ.siz e') l.length (.slice (some a) l.length l.length)).run P w.drew = .ok olds.toArray w.drew /\ Jm τ im (vow τ e' ow) l e' olds := by
          rcases q1 with ⟨rfl, _⟩ | ⟨b, off, c, cells, el, fr, pre, mid, post, r1, r2, r3, r4, r5, r6⟩
          · exact ⟨[], run_firstCells_some w.drew _ 0 a 0 0 [] (by simp) (fun j u hj => by simp at hj), by simp only [Jm]⟩
          · simp only [Value.slice.injEq, Option.some.injEq] at r1
            obtain ⟨rfl, _, rfl⟩ := r1
            refine ⟨mid, run_firstCells_some w.drew _ _ _ _ _ mid (Jm.len ok _ _ _ ⟨d, hd⟩ r6) (fun j u hj => ?_), r6⟩
            rw [Qr]; exact Xd (w := w.drew) r3 r4 hj r5
        obtain ⟨olds, r1, r2⟩ := key
        obtain ⟨u, w', ow', g1, g2, g3⟩ := Jaq ok (ty := ty) (nid := nid) hi hu hz r1 r2 rfl hs hnew rfl (by simp) (by simpa [Je] using h1) hfr
        exact ⟨u, w', ow', g1, g2, by simpa only [Jf] using g3⟩
 · rename_i e' id off len cap
   split at hh
   · rename_i e2 nl l hid
     cases he : (e' == e && e2 == e) with
     | false => simp [he] at hh
     | true =>
       have he2 : e' = e /\ e2 = e := by simpa using he
       obtain ⟨rfl, rfl⟩ := he2
       simp only [he, cond_true] at hh
       have hne : nid ≠ id := by rintro rfl; rw [hfr] at hid; cases hid
       have hkf : JV h id .dead nid = none := by simp [JV, hne, hfr]
       simp only [Jf] at hsv
       obtain ⟨loc, g1, g2⟩ := hsv
       have hent := hi.ent id _ hid
       cases hcap : (cap.isNone || cap == some len) with
       | true =>
        simp only [hcap, cond_true, Option.some.injEq, Prod.mk.injEq] at hh
        obtain ⟨h1, rfl, rfl⟩ := hh
        have kill := Good.kill hi hid
        have fin : ∀ {u w' ow'} {e3 : Ent}, (Builtin.append_ #[t, tx] ty #[us, ux]).run P w = .ok u w' -> Good τ im ow (JV h id .dead) w im ow' (JV (JV h id .dead) nid e3) w' -> e3 = .vec false e2 (nl && new.isEmpty) ((l.drop off).take len ++ new) -> OwV τ ow' e2 nid [] 0 (len + new.length) none u ->
            ∃ u w' ow', (Builtin.append_ #[t, tx] ty #[us, ux]).run P w = .ok u w' /\ Good τ im ow h w im ow' (JJ h [(id, .dead), (nid, .vec false e2 (nl && new.isEmpty) ((l.drop off).take len ++ new))]) w' /\ Jf τ im ow' (.ow e2 nid [] 0 (len + new.length) none) u := by
          intro u w' ow' e3 f1 f2 f3 f4
          subst f3
          exact ⟨u, w', ow', f1, kill.trans f2, by simpa only [Jf] using f4⟩
        rcases g2 with ⟨a1, _, rfl, rfl, a5, nl', a6, a7⟩ | ⟨b, a, c, oo, n, a1, rfl, a3, a4, a5, a6, a7, a8⟩
        · obtain ⟨loc', q1, r1, _, r3⟩ := hent
          rw [g1] at q1; obtain rfl := Option.some.inj q1
          rw [a6] at r1
          simp only [Root.vec.injEq, true_and] at r1
          obtain ⟨r0, rfl⟩ := r1
          obtain rfl := List.length_eq_zero_iff.1 r0.symm
          cases new with
          | nil =>
            obtain rfl := nil0 rfl
            obtain ⟨ow', G, q2⟩ := XR ok (nid := nid) (nl := nl') (u := us) kill.inv hd hkf a7
            refine fin (e3 := .vec false e2 nl' []) (w' := w) (u := us) (ow' := ow') ?_ G (by simp) q2
            rcases a7 with ⟨_, rfl⟩ | ⟨_, a, rfl⟩
            · exact YM t tx ty e2 i' (ok.und _ _ hu) k1 ux 0 hs'
            · exact WT t tx ty e2 i' (ok.und _ _ hu) k1 a ux 0 0 (Nat.le_refl _) hs'
          | cons x xs =>
            obtain ⟨base, hub, hbr⟩ : ∃ base, us = .slice base 0 0 /\ (Builtin.firstCells (τ.siz e2) 0 (.slice base 0 0)).run P w.drew = .ok ([] : List Value).toArray w.drew := by
              rcases a7 with ⟨_, rfl⟩ | ⟨_, a, rfl⟩
              · exact ⟨none, rfl, run_firstCells_none w.drew _ 0 0 0⟩
              · exact ⟨some a, rfl, run_firstCells_some w.drew _ 0 a 0 0 [] (by simp) (fun j u hj => by simp at hj)⟩
            subst hub
            obtain ⟨u, w', ow', f1, f2, f3⟩ := Jaq ok (ty := ty) (base := base) (n := 0) (c := 0) (l := []) (olds := []) (nid := nid) kill.inv hu hz hbr (by simp only [Jm]) rfl hs hnew rfl (by simp) (by simpa [Je] using h1) hkf
            exact fin f1 f2 (by simp) f3
        · have hra := ZR ok hent g1 a1 (p := []) (l := l) rfl a4
          obtain ⟨rfl, _, hnl, cells, el, fr, pre, mid, post, m1, m2, m3, m4, m5, _⟩ := hra
          have hnl' : nl = false := hnl
          subst hnl'
          obtain rfl : oo = 0 := by
            obtain ⟨loc', q1, r1, _⟩ := hent
            rw [g1] at q1; obtain rfl := Option.some.inj q1
            rw [r1] at a4
            simp only [Root.rowAt, Option.some.injEq, Prod.mk.injEq] at a4
            exact a4.1.symm
          have hlen : ((l.drop off).take len).length = len := by simp; omega
          by_cases hg : c < len + new.length
          · have key : ∃ olds, (Builtin.firstCells (τ.siz e2) len (.slice (some a) len c)).run P w.drew = .ok olds.toArray w.drew /\ Jm τ im (vow τ e2 ow) ((l.drop off).take len) e2 olds := by
              rcases a8 with ⟨rfl, _⟩ | rfl
              · obtain ⟨p1, md, p2, e1, e2, e3, _⟩ := Jm.sub ok ⟨d, hd⟩ off len a5 m5
                have e4 := Jm.len ok _ _ _ ⟨d, hd⟩ e3
                rw [hlen] at e4
                refine ⟨md, run_firstCells_some w.drew _ _ _ _ _ md e4 (fun j u hj => ?_), e3⟩
                rw [Qr]
                exact Xd (w := w.drew) (pre := pre ++ p1) (post := p2 ++ post) m1 (by rw [m3, e1]; simp) hj (by simp [m4, e2])
              · obtain rfl : len = 0 := by omega
                exact ⟨[], run_firstCells_some w.drew _ 0 a 0 0 [] (by simp) (fun j u hj => by simp at hj), by simp only [List.take_zero, Jm]⟩
            obtain ⟨olds, r1, r2⟩ := key
            obtain ⟨u, w', ow', f1, f2, f3⟩ := Jaq ok (ty := ty) (nid := nid) kill.inv hu hz r1 r2 hlen hs hnew rfl hg (by simpa [Je] using h1) hkf
            exact fin f1 f2 (by simp) f3
          · by_cases hc0 : c = 0
            · subst hc0
              obtain rfl : len = 0 := by omega
              have hn0 : new = [] := List.length_eq_zero_iff.1 (by omega)
              subst hn0
              obtain rfl := nil0 rfl
              obtain ⟨ow', G, q2⟩ := XR ok (nid := nid) (nl := false) (u := .slice (some a) 0 0) kill.inv hd hkf (.inr ⟨rfl, a, rfl⟩)
              exact fin (WT t tx ty e2 i' (ok.und _ _ hu) k1 a ux 0 0 (Nat.le_refl _) hs') G (by simp) q2
            · rcases a8 with ⟨rfl, a9⟩ | a8
              · simp only [Nat.add_zero] at *
                have hR : ∀ cells el fr, w.heap[b]? = some (.cells cells el fr) -> loc.base + (off + c) * τ.siz e2 <= cells.size := by
                 intro cells2 el2 fr2 hb2
                 rw [m1] at hb2; cases hb2
                 cases cap with
                 | none =>
                  obtain ⟨cells3, el3, fr3, s1, s2⟩ := JdR ok hent g1 a1 (p := []) (l := l) rfl
                  rw [m1] at s1; cases s1
                  have := a9 rfl
                  omega
                 | some c' =>
                  have h6 := a6 c' rfl
                  have e4 := Jm.len ok _ _ _ ⟨d, hd⟩ m5
                  have htot : cells.toList.length = cells.size := Array.length_toList
                  rw [m3] at htot
                  simp only [List.length_append, m4, e4] at htot
                  have hmul : (off + c) * τ.siz e2 <= l.length * τ.siz e2 := Nat.mul_le_mul_right _ (by omega)
                  omega
                obtain ⟨w', ow', f1, f2, f3⟩ := JqP ok (ty := ty) (nid := nid) hi hid g1 a1 hu a5 hR hs hnew rfl (by omega) (.inr trivial) hfr
                exact ⟨_, w', ow', f1, by simpa [JJ] using f2, by simpa only [Jf] using f3⟩
              · exact (hc0 a8).elim
       | false =>
        simp only [hcap, cond_false, Option.some.injEq, Prod.mk.injEq] at hh
        obtain ⟨h1, rfl, rfl⟩ := hh
        cases cap with
        | none => simp at hcap
        | some c' =>
          have hne2 : c' ≠ len := by simpa using hcap
          simp only [Option.getD_some, decide_eq_true_eq] at h1
          rcases g2 with ⟨a1, _, rfl, rfl, a5, nl', a6, a7⟩ | ⟨b, a, c, oo, n, a1, rfl, a3, a4, a5, a6, a7, a8⟩
          · simp at a5; omega
          · obtain ⟨rfl, h6⟩ := a6 c' rfl
            have hra := ZR ok hent g1 a1 (p := []) (l := l) rfl a4
            obtain ⟨hln, _⟩ := hra
            obtain rfl : oo = 0 := by
              obtain ⟨loc', q1, r1, _⟩ := hent
              rw [g1] at q1; obtain rfl := Option.some.inj q1
              rw [r1] at a4
              simp only [Root.rowAt, Option.some.injEq, Prod.mk.injEq] at a4
              exact a4.1.symm
            rcases a8 with ⟨rfl, a9⟩ | a8
            · simp only [Nat.add_zero] at *
              obtain ⟨w', f1, f2, f3⟩ := Jp6 ok (ty := ty) (off := off) (c := c) (len := len) hi hid g1 a1 hu (by rw [hln]; exact h6) hs hnew rfl h1
              refine ⟨_, w', ow, f1, by simpa [JJ] using f2, ?_⟩
              simp only [Jf]
              exact ⟨loc, g1, .inr ⟨b, _, c, 0, n, a1, rfl, h1, a4, by omega, fun c2 hc2 => by cases hc2; exact ⟨rfl, h6⟩, (fun hh => by cases hh), .inl ⟨by simp, fun hh => by cases hh⟩⟩⟩
            · omega
   · cases hh
 · cases hh
end
end Go.Proofs.Ythpmachmnoljeaa.Rx
end

noncomputable section
namespace Go.Proofs.Ythpmachmnoljeaa.Rx
open Go
set_option linter.unusedVariables false
set_option maxHeartbeats 1000000

section
variable {τ : Tab} {P : Program} (ok : TabOk τ P) {im im' : Im} {ow ow' : Own} {h : Ents} {w w' : World} {o : Oper} {rd : Operand -> PV}
include ok
theorem JfX {x : PV} {us : Array Value} (hs : JF τ im ow [x] us.toList) : ∃ u, us = #[u] /\ Jf τ im ow x u := by
 have _ := ok
 simp only [JF] at hs
 obtain ⟨u, r, h1, h2, rfl⟩ := hs
 exact ⟨u, by apply Array.ext'; simpa using h1, h2⟩
theorem Ji3 {x y : PV} {us : Array Value} (hs : JF τ im ow [x, y] us.toList) : ∃ u v, us = #[u, v] /\ Jf τ im ow x u /\ Jf τ im ow y v := by
 have _ := ok
 simp only [JF] at hs
 obtain ⟨u, r, h1, h2, v, r2, h3, h4, rfl⟩ := hs
 subst h3
 exact ⟨u, v, by apply Array.ext'; simpa using h1, h2, h4⟩
theorem JfY {e : TypeId} {id : Nat} {p : List Nat} {off len m : Nat} {cap : Option Nat} {u : Value} {x : Ent} {l new : List PV} {news : List Value} (hi : Inv τ im ow h w) (hx : h id = some x) (hf : x.free = true) (hl : x.row p = some l) (hr : OwV τ ow e id p off len cap u)
   (hnew : Jm τ im (vow τ e ow) new e news) (hm : new.length = m) (hle : m <= len) :
   ∃ base c w', u = .slice base len c /\ (match base with | some a => (storeCells a news).run P w = .ok () w' | none => w' = w) /\ Good τ im ow h w im ow (JV h id (x.setRow p (l.take off ++ new ++ l.drop (off + m)))) w' := by
 obtain ⟨q0, q1, _, _⟩ := SlR.of_ow ok hi hx hl hr
 obtain ⟨loc, g1, g2⟩ := hr
 rcases g2 with ⟨a1, rfl, rfl, rfl, a5, nl, a6, a7⟩ | ⟨b, a, c, o, n, a1, a2, a3, a4, a5, a6, a7, a8⟩
 · obtain rfl : m = 0 := by omega
   obtain rfl := List.length_eq_zero_iff.1 hm
   simp only [Jm] at hnew
   subst hnew
   have hsame : JV h id (x.setRow [] (l.take 0 ++ [] ++ l.drop (0 + 0))) = h := by
     funext j
     simp only [JV]; split
     · rename_i hj; subst hj; rw [hx]
       cases x with
       | dead => simp [Ent.row] at hl
       | vec fz t nl' els => simp only [Ent.row, Option.some.injEq] at hl; subst hl; simp [Ent.setRow]
       | box fz t v =>
        obtain ⟨loc', k1, k2, _⟩ := hi.ent j _ hx
        rw [g1] at k1; obtain rfl := Option.some.inj k1
        rw [a6] at k2; cases k2
     · rfl
   rw [hsame]
   rcases a7 with ⟨_, rfl⟩ | ⟨_, a, rfl⟩
   · exact ⟨none, 0, w, rfl, rfl, Good.refl hi rfl⟩
   · exact ⟨some a, 0, w, rfl, rfl, Good.refl hi rfl⟩
 · obtain ⟨k1, ⟨d, hd⟩, k3, cells, el, fr, pre, mid, post, m1, m2, m3, m4, m5, _, m7, m8⟩ := ZR ok (hi.ent id x hx) g1 a1 hl a4
   obtain ⟨p1, md, p2, e1, e2, e3, e6⟩ := Jm.sub ok ⟨d, hd⟩ off m (by omega) m5
   have e4 := Jm.len ok _ _ _ ⟨d, hd⟩ e3
   have e5 := Jm.len ok _ _ _ ⟨d, hd⟩ hnew
   have hlen : ((l.drop off).take m).length = m := by simp; omega
   rw [hlen] at e4
   rw [hm] at e5
   have hfree : (x.setRow p (l.take off ++ new ++ l.drop (off + m))).free = true := by
     cases x with
     | dead => simp [Ent.free] at hf
     | vec fz t nl els => cases p <;> simpa [Ent.setRow, Ent.free] using hf
     | box fz t v => cases p <;> (simp only [Ent.setRow]; split <;> simpa [Ent.free] using hf)
   have hll : (l.take off ++ new ++ l.drop (off + m)).length = n := by simp only [List.length_append, List.length_take, List.length_drop]; omega
   have hsplit : cells.toList = (pre ++ p1) ++ md ++ (p2 ++ post) := by rw [m3, e1]; simp
   have main : ∃ w', (storeCells a news).run P w = .ok () w' /\ ∃ cells', cells'.toList = pre ++ (p1 ++ news ++ p2) ++ post /\ HeapSet w b (.cells cells' el fr) w' := by
     rcases a8 with ⟨rfl, _⟩ | rfl
     · obtain ⟨w', cells', s1, s2, s3⟩ := Qw ok news 0 w b (loc.base + o + off * τ.siz e) cells el fr (pre ++ p1) md (p2 ++ post) m1 m2 hsplit (by rw [e4, e5]) (by simp only [List.length_append, m4, e2]; omega) (Jm.ones ok hnew)
       exact ⟨w', s1, cells', by rw [s2]; simp, s3⟩
     · obtain rfl : m = 0 := by omega
       have hn0 : news = [] := List.length_eq_zero_iff.1 (by rw [e5]; simp)
       have hd0 : md = [] := List.length_eq_zero_iff.1 (by rw [e4]; simp)
       subst hn0 hd0
       exact ⟨w, rfl, cells, by rw [m3, e1], { at_ := m1, other := fun _ _ => rfl, size := rfl, rest := Rest.refl _ }⟩
   obtain ⟨w', s1, cells', s2, s3⟩ := main
   exact ⟨some a, c, w', a2, s1, Good.write hi hx hf g1 a1 s3 (m8 _ _ cells' w' hll (e6 new news hm hnew) s2 s3.at_ hf) hfree⟩
theorem Ji4 {e tx : TypeId} {x : PV} {u : Value} {c : Bool} {new : List PV} (k : Nat) (hd : ∃ d, τ.und e = some d) (hi : Inv τ im ow h w) (hx : Jf τ im ow x u) (hs : ZM τ e h tx x = some (c, new)) (hc : c = true) (hk : k <= new.length) :
  ∃ news, (Builtin.lenOf u).run P w = .ok new.length w /\ (Builtin.firstCells (τ.siz e) k u).run P w = .ok news.toArray w /\ Jm τ im (vow τ e ow) (new.take k) e news := by
 subst hc
 unfold ZM at hs
 cases hu : τ.und tx with
 | none => simp [hu] at hs
 | some d =>
  rw [hu] at hs
  cases d with
  | slice e' =>
   simp only at hs
   cases hr : Xu h e x with
   | none => simp [hr] at hs
   | some r =>
    simp only [hr, Option.map_some, Option.some.injEq, Prod.mk.injEq, true_and] at hs
    subst hs
    rcases (Gl ok hi hx (nl := r.1) (els := r.2) hr).1 with ⟨h0, h1⟩ | ⟨b, off, c, cells, el, fr, pre, mid, post, rfl, q2, q3, q4, q5, q6⟩
    · rw [h0] at hk ⊢
      obtain rfl : k = 0 := by simpa using hk
      refine ⟨[], ?_, ?_, by simp only [List.take_nil, Jm]⟩
      · rcases h1 with rfl | ⟨a, c, rfl⟩ <;> rfl
      · rcases h1 with rfl | ⟨a, c, rfl⟩
        · exact run_firstCells_none w _ 0 0 0
        · exact run_firstCells_some w _ 0 a 0 c [] (by simp) (fun j u hj => by simp at hj)
    · obtain ⟨p1, md, p2, e1, e2, e3, _⟩ := Jm.sub ok hd 0 k (by omega) q6
      have e4 := Jm.len ok _ _ _ hd e3
      have hp1 : p1 = [] := List.length_eq_zero_iff.1 (by rw [e2]; simp)
      subst hp1
      simp only [List.drop_zero] at e3 e4
      have hlen : (r.2.take k).length = k := by simp; omega
      rw [hlen] at e4
      refine ⟨md, rfl, run_firstCells_some w _ k _ _ _ md e4 (fun j u hj => ?_), e3⟩
      rw [Qr]
      exact Xd (pre := pre) (post := p2 ++ post) q3 (by rw [q4, e1]; simp) hj q5
  | string =>
   simp only at hs
   cases hkd : τ.kind e == some .u8 with
   | false => simp [hkd] at hs
   | true =>
    simp only [hkd, cond_true, Option.some.injEq, Prod.mk.injEq] at hs
    obtain ⟨h1, rfl⟩ := hs
    have hk' : τ.und e = some (.int .u8) := by
      have := eq_of_beq hkd
      unfold Tab.kind at this
      split at this
      · rename_i k hk2; cases this; exact hk2
      · cases this
    rw [QM h1] at hx
    simp only [Jf] at hx
    rw [hx.1]
    generalize x.str = s at *
    have hl : (Ji s).length = s.size := by simp only [Ji, List.length_map, Array.length_toList]; rfl
    have hrow : Jm τ im (vow τ e ow) ((Ji s).take k) e ((s.data.toList.take k).map fun b => Value.int .u8 b.toNat) := by
      simp only [Ji, ← List.map_take]; exact ZW ok hk' _
    refine ⟨_, by rw [hl]; rfl, ?_, hrow⟩
    simp only [Builtin.firstCells, Sem.run_pure]
    congr 1
    apply Array.ext'
    simp
  | _ => simp at hs
end
end Go.Proofs.Ythpmachmnoljeaa.Rx
end

noncomputable section
namespace Go.Proofs.Ythpmachmnoljeaa.Rx
open Go
set_option linter.unusedVariables false
set_option maxHeartbeats 1000000

def YN (τ : Tab) (P : Program) (b : Builtin) (ts : Array TypeId) (xs : List PV) (h : Ents) (v : PV) (U : Upd) : Prop :=
 ∀ (im : Im) (ow : Own) (w : World) (us : Array Value) (ty : TypeId) (cs : Array Bool), JF τ im ow xs us.toList -> Inv τ im ow h w ->
  ∃ u w' im' ow', (builtin b ts ty cs us).run P w = .ok (.value u) w' /\ Good τ im ow h w im' ow' (JJ h U) w' /\ Jf τ im' ow' v u
section
variable {τ : Tab} {P : Program} (ok : TabOk τ P) {h : Ents} {ts : Array TypeId} {xs : List PV} {v : PV} {U : Upd} {nid : Nat}
include ok
theorem JAl {t x r} (hts : ts = #[t]) (hr : Ju5 τ t x = some (true, r)) : YN τ P .len ts [x] h (.sc (.int .i64 r)) [] := by
 intro im ow w us ty cs hs hi
 obtain ⟨u, rfl, hx⟩ := JfX ok hs
 subst hts
 refine ⟨.int .i64 r, w, im, ow, ?_, Good.refl hi rfl, by simp only [Jf]; exact ⟨trivial, rfl⟩⟩
 have key : (Builtin.len_ #[t] ty #[u]).run P w = .ok (.int .i64 r) w := by
  unfold Ju5 at hr
  cases hu : τ.und t with
  | none => simp [hu] at hr
  | some d =>
   rw [hu] at hr
   cases d with
   | string =>
    simp only [Option.some.injEq, Prod.mk.injEq] at hr
    rw [QM hr.1] at hx
    simp only [Jf] at hx
    simp [Builtin.len_, Jv ok hu, hx.1, goInt, hr.2]
   | array n e =>
    simp only [Option.some.injEq, Prod.mk.injEq, true_and] at hr
    simp [Builtin.len_, Jv ok hu, goInt, hr]
   | slice e =>
    cases x with
    | ro e' nl fl l =>
     cases he : e' == e with
     | false => simp [he] at hr
     | true =>
      simp only [he, cond_true, Option.some.injEq, Prod.mk.injEq, true_and] at hr
      simp only [Jf] at hx
      rcases hx with ⟨_, rfl, h0⟩ | ⟨_, a, c, rfl, _⟩
      · simp [Builtin.len_, Jv ok hu, goInt, ← hr, h0]
      · simp [Builtin.len_, Jv ok hu, goInt, ← hr]
    | ow e' id p off len cap =>
     cases he : e' == e with
     | false => simp [he] at hr
     | true =>
      simp only [he, cond_true, Option.some.injEq, Prod.mk.injEq, true_and] at hr
      simp only [Jf] at hx
      obtain ⟨loc, _, ⟨_, _, _, rfl, _, nl, _, ⟨_, rfl⟩ | ⟨_, a, rfl⟩⟩ | ⟨b, a, c, o, n, _, rfl, _⟩⟩ := hx
      · simp [Builtin.len_, Jv ok hu, goInt, ← hr]
      · simp [Builtin.len_, Jv ok hu, goInt, ← hr]
      · simp [Builtin.len_, Jv ok hu, goInt, ← hr]
    | _ => simp at hr
   | _ => simp at hr
 simp only [builtin, Sem.run_bind, key, Result.andThen_ok, Sem.run_pure]
theorem Jp7 {t e id p off len c} (hts : ts = #[t]) (hu : τ.und t = some (.slice e)) : YN τ P .cap ts [.ow e id p off len (some c)] h (.sc (.int .i64 (c : Int))) [] := by
 intro im ow w us ty cs hs hi
 obtain ⟨u, rfl, hx⟩ := JfX ok hs
 subst hts
 refine ⟨.int .i64 c, w, im, ow, ?_, Good.refl hi rfl, by simp only [Jf]; exact ⟨trivial, rfl⟩⟩
 simp only [Jf] at hx
 obtain ⟨loc, _, ⟨_, _, _, rfl, h5, nl, _, h6⟩ | ⟨b, a, c', o, n, _, rfl, _, _, _, h6, _⟩⟩ := hx
 · obtain rfl : c = 0 := by simpa using h5
   rcases h6 with ⟨_, rfl⟩ | ⟨_, a, rfl⟩ <;> simp [builtin, Builtin.cap_, Jv ok hu, goInt]
 · obtain ⟨rfl, _⟩ := h6 c rfl
   simp [builtin, Builtin.cap_, Jv ok hu, goInt]
theorem Jp8 {t e nl fl l} (hts : ts = #[t]) (hu : τ.und t = some (.slice e)) (hf : (nl || fl) = true) : YN τ P .cap ts [.ro e nl fl l] h (.sc (.int .i64 (l.length : Int))) [] := by
 intro im ow w us ty cs hs hi
 obtain ⟨u, rfl, hx⟩ := JfX ok hs
 subst hts
 refine ⟨.int .i64 l.length, w, im, ow, ?_, Good.refl hi rfl, by simp only [Jf]; exact ⟨trivial, rfl⟩⟩
 simp only [Jf] at hx
 rcases hx with ⟨_, rfl, h0⟩ | ⟨hn, a, c, rfl, _, h1, _⟩
 · simp [builtin, Builtin.cap_, Jv ok hu, goInt, h0]
 · have := h1 (by simpa [hn] using hf)
   subst this
   simp [builtin, Builtin.cap_, Jv ok hu, goInt]
theorem JAm {t t2 k x y} (hts : ts = #[t, t2]) : YN τ P .min ts [.sc (.int k x), .sc (.int k y)] h (.sc (.int k (Qh x y))) [] := by
 intro im ow w us ty cs hs hi
 obtain ⟨u, v, rfl, hx, hy⟩ := Ji3 ok hs
 simp only [Jf] at hx hy
 refine ⟨.int k (Qh x y), w, im, ow, ?_, Good.refl hi rfl, by simp only [Jf]; exact ⟨trivial, rfl⟩⟩
 simp [builtin, Builtin.min_, Builtin.min2, hx.1, hy.1, Qh]
theorem JAn {t t2 k x y} (hts : ts = #[t, t2]) : YN τ P .max ts [.sc (.int k x), .sc (.int k y)] h (.sc (.int k (V5 x y))) [] := by
 intro im ow w us ty cs hs hi
 obtain ⟨u, v, rfl, hx, hy⟩ := Ji3 ok hs
 simp only [Jf] at hx hy
 refine ⟨.int k (V5 x y), w, im, ow, ?_, Good.refl hi rfl, by simp only [Jf]; exact ⟨trivial, rfl⟩⟩
 simp [builtin, Builtin.max_, Builtin.max2, hx.1, hy.1, V5]
theorem JkL {k x y} : YN τ P .complex ts [.sc (.float k x), .sc (.float k y)] h (.sc (.complex k x y)) [] := by
 intro im ow w us ty cs hs hi
 obtain ⟨u, v, rfl, hx, hy⟩ := Ji3 ok hs
 simp only [Jf] at hx hy
 refine ⟨.complex k x y, w, im, ow, ?_, Good.refl hi rfl, by simp only [Jf]; exact ⟨trivial, rfl⟩⟩
 have e1 : Builtin.complex_ ts ty #[.float k x, .float k y] = pure (.complex k x y) := by
  show (if k = k then _ else _) = _
  rw [if_pos rfl]
 simp only [builtin, hx.1, hy.1, e1, Sem.run_bind, Sem.run_pure, Result.andThen_ok]
theorem Ju7 {k x y} : YN τ P .real ts [.sc (.complex k x y)] h (.sc (.float k x)) [] := by
 intro im ow w us ty cs hs hi
 obtain ⟨u, rfl, hx⟩ := JfX ok hs
 simp only [Jf] at hx
 refine ⟨.float k x, w, im, ow, ?_, Good.refl hi rfl, by simp only [Jf]; exact ⟨trivial, rfl⟩⟩
 have e1 : Builtin.real_ ts ty #[.complex k x y] = pure (.float k x) := rfl
 simp only [builtin, hx.1, e1, Sem.run_bind, Sem.run_pure, Result.andThen_ok]
theorem Ju8 {k x y} : YN τ P .imag ts [.sc (.complex k x y)] h (.sc (.float k y)) [] := by
 intro im ow w us ty cs hs hi
 obtain ⟨u, rfl, hx⟩ := JfX ok hs
 simp only [Jf] at hx
 refine ⟨.float k y, w, im, ow, ?_, Good.refl hi rfl, by simp only [Jf]; exact ⟨trivial, rfl⟩⟩
 have e1 : Builtin.imag_ ts ty #[.complex k x y] = pure (.float k y) := rfl
 simp only [builtin, hx.1, e1, Sem.run_bind, Sem.run_pure, Result.andThen_ok]
theorem Ju9 {t t2 e id p off len cap ent l x src} (hts : ts = #[t, t2]) (hu : τ.und t = some (.slice e)) (he : h id = some ent) (hl : ent.row p = some l) (hf : ent.free = true) (hs : ZM τ e h t2 x = some (true, src)) :
  YN τ P .copy ts [.ow e id p off len cap, x] h (.sc (.int .i64 ((min src.length len : Nat) : Int))) [(id, ent.setRow p (l.take off ++ src.take len ++ l.drop (off + min src.length len)))] := by
 intro im ow w us ty cs hsv hi
 obtain ⟨u, v, rfl, hx, hy⟩ := Ji3 ok hsv
 subst hts
 simp only [Jf] at hx
 obtain ⟨d, hd⟩ := ok.sl t e hu
 obtain ⟨news, s1, s2, s3⟩ := Ji4 ok (min src.length len) ⟨d, hd⟩ hi hy hs rfl (Nat.min_le_left _ _)
 have hlen : (src.take (min src.length len)).length = min src.length len := by simp
 obtain ⟨base, c, w', rfl, r2, r3⟩ := JfY ok hi he hf hl hx s3 hlen (Nat.min_le_right _ _)
 have htk : src.take (min src.length len) = src.take len := by
  rcases Nat.le_total src.length len with hle | hle
  · rw [Nat.min_eq_left hle, List.take_of_length_le (Nat.le_refl _), List.take_of_length_le hle]
  · rw [Nat.min_eq_right hle]
 rw [htk] at r3
 refine ⟨.int .i64 ((min src.length len : Nat) : Int), w', im, ow, ?_, by simpa [JJ] using r3, by simp only [Jf]; exact ⟨trivial, rfl⟩⟩
 have s2' : (Builtin.firstCells (τ.siz e) (Nat.min src.length len) v).run P w = .ok news.toArray w := s2
 cases base with
 | none =>
  simp only at r2
  subst r2
  simp [builtin, Builtin.copy_, Jv ok hu, s1, s2', Qd ok hd, goInt]
 | some a =>
  simp only at r2
  simp [builtin, Builtin.copy_, Jv ok hu, s1, s2', Qd ok hd, goInt, r2]
theorem JqQ {t e id p off len cap ent l z} (hts : ts = #[t]) (hu : τ.und t = some (.slice e)) (he : h id = some ent) (hl : ent.row p = some l) (hf : ent.free = true) (hz : τ.zer e = some z) :
  YN τ P .clear ts [.ow e id p off len cap] h .top [(id, ent.setRow p (l.take off ++ List.replicate len z ++ l.drop (off + len)))] := by
 intro im ow w us ty cs hsv hi
 obtain ⟨u, rfl, hx⟩ := JfX ok hsv
 subst hts
 simp only [Jf] at hx
 obtain ⟨d, v, hd, h2, h3, h4⟩ := Xk ok (w := w) hz
 have hvs : v.cells.size = τ.siz e := by
  have := Rep.len ok _ _ _ ⟨d, hd⟩ (h3 im JC); rwa [Array.length_toList] at this
 obtain ⟨base, c, w', rfl, r2, r3⟩ := JfY ok hi he hf hl hx (Jm.repl ok (h3 im (vow τ e ow)) len) (by simp) (Nat.le_refl len)
 refine ⟨.tuple #[], w', im, ow, ?_, by simpa [JJ] using r3, by simp only [Jf]⟩
 have hzc : (Builtin.zeroCells v.cells len).toList = (List.replicate len v.cells.toList).flatten := JcR v.cells len
 cases base with
 | none =>
  simp only at r2
  subst r2
  simp [builtin, Builtin.clear_, Jv ok hu]
 | some a =>
  simp only at r2
  cases len with
  | zero =>
   simp only [List.replicate_zero, List.flatten_nil, storeCells, Sem.run_pure, Result.ok.injEq, true_and] at r2
   subst r2
   simp [builtin, Builtin.clear_, Jv ok hu]
  | succ n =>
   simp only [builtin, Builtin.clear_, Sem.run_bind, Jv ok hu, Result.andThen_ok, List.getElem?_toArray, List.getElem?_cons_zero, h2, hzc, r2, Sem.run_pure]
theorem Jp9 {t t2 s x} (hts : ts = #[t, t2]) (hh : JgH τ nid h t t2 s x = some (true, v, U)) (hfr : h nid = none) : YN τ P .append ts [s, x] h v U := by
 intro im ow w us ty cs hsv hi
 obtain ⟨us, ux, rfl, hs, hx⟩ := Ji3 ok hsv
 subst hts
 have key : ∃ u w' ow', (Builtin.append_ #[t, t2] ty #[us, ux]).run P w = .ok u w' /\ Good τ im ow h w im ow' (JJ h U) w' /\ Jf τ im ow' v u := by
  unfold JgH at hh
  split at hh
  · rename_i e hu
    obtain ⟨d, hd⟩ := ok.sl t e hu
    split at hh
    · rename_i z hz
      split at hh
      · rename_i k hk
        cases hn : JgG e s with
        | false =>
         simp only [hn, cond_false] at hh
         split at hh
         · rename_i e' id off len c
           split at hh
           · rename_i e2 nl l hid
             cases he : (e' == e && e2 == e) with
             | false => simp [he] at hh
             | true =>
               have he2 : e' = e /\ e2 = e := by simpa using he
               obtain ⟨rfl, rfl⟩ := he2
               simp only [he, cond_true, Option.some.injEq, Prod.mk.injEq, Bool.and_eq_true, decide_eq_true_eq] at hh
               obtain ⟨⟨⟨⟨h1, h2⟩, h3⟩, h4⟩, rfl, rfl⟩ := hh
               rw [Qs h1] at hx
               simp only [Jf] at hx hs
               rw [hx.1]
               obtain ⟨n, hxn⟩ := Int.eq_ofNat_of_zero_le h2
               rw [hxn] at h3 h4 ⊢
               simp only [Int.toNat_natCast] at h3 h4 ⊢
               obtain ⟨base, olds, rfl, q1, q2, q3⟩ := Jp5 (P := P) ok hi hid hs
               have hlc : len <= c := by
                obtain ⟨loc, g1, g2⟩ := hs
                rcases g2 with ⟨_, _, _, rfl, _⟩ | ⟨_, _, _, _, _, _, hv, a3, _⟩
                · omega
                · simp only [Value.slice.injEq] at hv; omega
               obtain ⟨u, w', ow', f1, f2, f3⟩ := Gm ok (ty := ty) (nid := nid) (m := n) hi hu hk hz q1 q2 q3 (by omega) h3 (by simpa [Je] using h4) hfr
               exact ⟨u, w', ow', f1, by simpa [JJ] using f2, by simpa only [Jf] using f3⟩
           · cases hh
         · rename_i e' id off len
           split at hh
           · rename_i e2 nl l hid
             cases he : (e' == e && e2 == e) with
             | false => simp [he] at hh
             | true =>
               have he2 : e' = e /\ e2 = e := by simpa using he
               obtain ⟨rfl, rfl⟩ := he2
               simp only [he, cond_true, Option.some.injEq, Prod.mk.injEq, Bool.and_eq_true, decide_eq_true_eq] at hh
               obtain ⟨⟨⟨h1, h2⟩, h4⟩, rfl, rfl⟩ := hh
               rw [Qs h1] at hx
               simp only [Jf] at hx hs
               rw [hx.1]
               obtain ⟨n, hxn⟩ := Int.eq_ofNat_of_zero_le h2
               rw [hxn] at h4 ⊢
               simp only [Int.toNat_natCast] at h4 ⊢
               exact JkJ ok (ty := ty) (nid := nid) (m := n) hi hu hk hz hid hs (by simpa [Je] using h4) hfr
           · cases hh
         · cases hh
        | true =>
         simp only [hn, cond_true, Option.some.injEq, Prod.mk.injEq, Bool.and_eq_true, decide_eq_true_eq] at hh
         obtain ⟨⟨⟨h1, h2⟩, h3⟩, rfl, rfl⟩ := hh
         have hus : us = .slice none 0 0 := by
           unfold JgG at hn
           split at hn
           · simp only [Jf] at hs
             rcases hs with ⟨_, rfl, _⟩ | ⟨hf, _⟩
             · rfl
             · cases hf
           · cases hn
         subst hus
         rw [Qs h1] at hx
         simp only [Jf] at hx
         rw [hx.1]
         obtain ⟨n, hxn⟩ := Int.eq_ofNat_of_zero_le h2
         rw [hxn] at h3 ⊢
         simp only [Int.toNat_natCast] at h3 ⊢
         obtain ⟨⟨_, _⟩, i, vz, g1, g2, g3, g4, g5⟩ := ok.zer e z hz
         obtain ⟨i', k1, k2, k3⟩ := ok.info e d hd
         rw [g1] at k1; obtain rfl := Option.some.inj k1
         have hpb := (ok.posB e d hd).1
         have hb : n * τ.byt e <= 140737488355328 := by simpa [Je] using h3
         have hn63 : (n : Int) <= 9223372036854775807 := by
           have : n <= n * τ.byt e := Nat.le_mul_of_pos_right _ hpb
           omega
         cases n with
         | zero =>
           obtain ⟨ow', G, q2⟩ := XR ok (nid := nid) (nl := true) (u := .slice none 0 0) hi hd hfr (.inl ⟨rfl, rfl⟩)
           refine ⟨.slice none 0 0, w, ow', ?_, by simpa [JJ] using G, by simpa only [Jf] using q2⟩
           simp [Builtin.append_, Jv ok hu, Jv ok hk, sizeOf, typeInfo, g1, asInt, asIntOf, IntKind.wrap, IntKind.bits, IntKind.signed]
         | succ m =>
           have hr := Lib.run_append_nil_zeros (P := P) w t t2 ty e i vz k k (ok.und _ _ hu) (ok.und _ _ hk) g1 g2 (m + 1) (by omega) (by rw [k2]; exact ok.pos e d hd) hn63 (by rw [k3]; omega)
           have hvs : vz.cells.size = τ.siz e := by
             have := Rep.len ok _ _ _ ⟨d, hd⟩ (g5 im JC); rwa [Array.length_toList] at this
           have hzc : (Builtin.zeroCells vz.cells (m + 1)).toList = (List.replicate (m + 1) vz.cells.toList).flatten := JcR vz.cells (m + 1)
           have hge := grownCap_ge w (m + 1) 0 e
           have hsize : (Builtin.zeroCells vz.cells (m + 1) ++ Builtin.zeroCells vz.cells (grownCap w (m + 1) 0 e - (m + 1))).size = grownCap w (m + 1) 0 e * τ.siz e := by
             simp only [Array.size_append, size_zeroCells, hvs, ← Nat.add_mul]
             congr 1; omega
           have G := VE ok (i := nid) (e := e) (d := d) (els := List.replicate (m + 1) z) (cells := Builtin.zeroCells vz.cells (m + 1) ++ Builtin.zeroCells vz.cells (grownCap w (m + 1) 0 e - (m + 1))) (fr := (0, 0)) (w' := w.drew.alloc (.cells (Builtin.zeroCells vz.cells (m + 1) ++ Builtin.zeroCells vz.cells (grownCap w (m + 1) 0 e - (m + 1))) e))
             (mid := (List.replicate (m + 1) vz.cells.toList).flatten) (post := (Builtin.zeroCells vz.cells (grownCap w (m + 1) 0 e - (m + 1))).toList) (nl := false) hi hfr hd (by simp) (fun b hb => heap_alloc_old w.drew _ b hb) (heap_alloc_new w.drew _) (.inl rfl) (by simp [hzc]) (Jm.repl ok (g5 im _) (m + 1)) rfl (JnU ok _ (Rep.ones ok (g5 im JC)) _)
           have hb0 : (((m : Int) + 1) == 0) = false := by simp; omega
           refine ⟨_, _, _, hr, by simpa [JJ, hb0] using G, ?_⟩
           simp only [Jf]
           refine ⟨_, J9 ok, .inr ⟨w.heap.size, ⟨w.heap.size, 0, none⟩, grownCap w (m + 1) 0 e, 0, (List.replicate (m + 1) z).length, rfl, rfl, hge, by simp [Root.rowAt], by simp, (fun c' hc' => by cases hc'), (fun _ => by simp; omega), .inl ⟨by simp, fun _ => ?_⟩⟩⟩
           rw [Array.size_append] at hsize
           simp only [Nat.zero_add]; omega
      · cases hs2 : ZM τ e h t2 x with
        | none => simp [hs2] at hh
        | some r =>
         obtain ⟨c, new⟩ := r
         simp only [hs2] at hh
         cases ha : Jdi τ e h nid s new with
         | none => simp [ha] at hh
         | some q =>
           obtain ⟨c2, v2, U2⟩ := q
           simp only [ha, Option.map_some, Option.some.injEq, Prod.mk.injEq, Bool.and_eq_true] at hh
           obtain ⟨⟨hc, rfl⟩, rfl, rfl⟩ := hh
           obtain ⟨news, q1, q2⟩ := Jp4 ok ⟨d, hd⟩ hi hx hs2 hc
           exact JkK ok hi hu hz hs q1 q2 hfr ha
    · cases hh
  · cases hh
 obtain ⟨u, w', ow', g1, g2, g3⟩ := key
 exact ⟨u, w', im, ow', by simp only [builtin, Sem.run_bind, g1, Result.andThen_ok, Sem.run_pure], g2, g3⟩
end
end Go.Proofs.Ythpmachmnoljeaa.Rx
end

