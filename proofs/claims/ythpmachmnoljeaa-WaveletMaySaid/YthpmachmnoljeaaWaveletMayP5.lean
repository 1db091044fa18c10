/- What the functions of this law compute, and their plain laws. Conditions: none. -/
import Derived.Test.YthpmachmnoljeaaWaveletMayP4
namespace Go.Proofs.Ythpmachmnoljeaa.Rx
noncomputable section
open Go
set_option linter.unusedVariables false
set_option linter.unusedSimpArgs false
set_option maxRecDepth 100000
set_option maxHeartbeats 0
def F14 : Fns := JG 41 Jx1 (JG 40 JAu (JG 39 Jz7 (JG 38 s38 (JG 37 JyW (JG 36 Juc (F0))))))
theorem Jvg : Jy tau Try.prog F14 := ((((((JE).add JrW Jyu).add JyX JCG).add JDc JDb).add Jz8 JDn).add JAv JDG).add Jx2 JCd
def JqJ : An := (.seq .leaf (.seq .leaf (.seq (.seq .leaf (.cond (.seq .leaf .leaf) .leaf)) (.seq .leaf (.seq (.block none (.seq .leaf (.cond (.seq .leaf .leaf) (.seq .leaf (.cond (.seq .leaf .leaf) .leaf))))) (.seq (.seq .leaf (.seq .leaf (.cond (.seq .leaf .leaf) .leaf))) (.seq (.seq .leaf (.cond (.seq .leaf .leaf) .leaf)) (.seq .leaf (.seq .leaf (.seq .leaf .leaf))))))))))
def g14 (f : Nat) (y0 y1 : Int) (y2 : ByteArray) (y3 y4 : Bool) (y5 : List PV) (y6 : Int) (y7 : List PV) (y8 y9 : Bool) (y10 y11 : List PV) (e_At : Int) (y12 y13 : Bool) (e_Op y14 y15 : List PV) (k : Res -> Option Res) : Option Res := bif slB y8 y10 && byB y10 then bif dE y10 != 0 then bif y3 then k (Res.mk (.tup [.st 39 [.st 34 [.sc (.int .i64 y0), .sc (.int .i64 y1)], .sc (.string y2), .ro 42 true true [], .sc (.int .i64 y6), .ar 37 y7], .sc (.int .i64 (dE y10))]) [] []) else bif Jf (0 + y5.length) 16 && true then k (Res.mk (.tup [.st 39 [.st 34 [.sc (.int .i64 y0), .sc (.int .i64 y1)], .sc (.string y2), .ro 42 false false (List.take (0 + y5.length) y5), .sc (.int .i64 y6), .ar 37 y7], .sc (.int .i64 (dE y10))]) [] []) else none else bif y3 then bif e_At != y6 then bif y3 then k (Res.mk (.tup [.st 39 [.st 34 [.sc (.int .i64 y0), .sc (.int .i64 y1)], .sc (.string y2), .ro 42 true true [], .sc (.int .i64 y6), .ar 37 y7], .sc (.int .i64 15)]) [] []) else bif Jf (0 + y5.length) 16 && true then k (Res.mk (.tup [.st 39 [.st 34 [.sc (.int .i64 y0), .sc (.int .i64 y1)], .sc (.string y2), .ro 42 false false (List.take (0 + y5.length) y5), .sc (.int .i64 y6), .ar 37 y7], .sc (.int .i64 15)]) [] []) else none else bif decide (dF 3 y10 > y6) then bif y3 then k (Res.mk (.tup [.st 39 [.st 34 [.sc (.int .i64 y0), .sc (.int .i64 y1)], .sc (.string y2), .ro 42 true true [], .sc (.int .i64 y6), .ar 37 y7], .sc (.int .i64 15)]) [] []) else bif Jf (0 + y5.length) 16 && true then k (Res.mk (.tup [.st 39 [.st 34 [.sc (.int .i64 y0), .sc (.int .i64 y1)], .sc (.string y2), .ro 42 false false (List.take (0 + y5.length) y5), .sc (.int .i64 y6), .ar 37 y7], .sc (.int .i64 15)]) [] []) else none else bif pOk y5 then bif !hasP (PH.mk y5 (AV.mk (dF 0 y10) (dF 1 y10))) then bif y3 then k (Res.mk (.tup [.st 39 [.st 34 [.sc (.int .i64 y0), .sc (.int .i64 y1)], .sc (.string y2), .ro 42 true true [], .sc (.int .i64 y6), .ar 37 y7], .sc (.int .i64 13)]) [] []) else bif Jf (0 + y5.length) 16 && true then k (Res.mk (.tup [.st 39 [.st 34 [.sc (.int .i64 y0), .sc (.int .i64 y1)], .sc (.string y2), .ro 42 false false (List.take (0 + y5.length) y5), .sc (.int .i64 y6), .ar 37 y7], .sc (.int .i64 13)]) [] []) else none else bif cOk e_Op && (decide (y2.size <= 10000) && (pOk [] && zOk true [])) then bif ccE (CX.mk (dF 4 y10) (AV.mk (dF 5 y10) (dF 6 y10)) y2 [] e_Op) != 0 then bif y3 then k (Res.mk (.tup [.st 39 [.st 34 [.sc (.int .i64 y0), .sc (.int .i64 y1)], .sc (.string y2), .ro 42 true true [], .sc (.int .i64 y6), .ar 37 y7], .sc (.int .i64 (ccE (CX.mk (dF 4 y10) (AV.mk (dF 5 y10) (dF 6 y10)) y2 [] e_Op)))]) [] []) else bif Jf (0 + y5.length) 16 && true then k (Res.mk (.tup [.st 39 [.st 34 [.sc (.int .i64 y0), .sc (.int .i64 y1)], .sc (.string y2), .ro 42 false false (List.take (0 + y5.length) y5), .sc (.int .i64 y6), .ar 37 y7], .sc (.int .i64 (ccE (CX.mk (dF 4 y10) (AV.mk (dF 5 y10) (dF 6 y10)) y2 [] e_Op)))]) [] []) else none else bif eOk (EV.mk y10 y11 e_At e_Op) then bif Jl IntKind.u8 (Jw [.ro 5 false false (List.take 32 y7), .ro 5 false false (pu IntKind.u8 (Jt (EV.mk y10 y11 e_At e_Op)))]) && decide ((Jw [.ro 5 false false (List.take 32 y7), .ro 5 false false (pu IntKind.u8 (Jt (EV.mk y10 y11 e_At e_Op)))]).length <= 140737488355000) then bif decide (y14.length = 32) && decide ((pu IntKind.u8 (JL (Ju (Jw [.ro 5 false false (List.take 32 y7), .ro 5 false false (pu IntKind.u8 (Jt (EV.mk y10 y11 e_At e_Op)))])))).length = 32) && Jl IntKind.u8 y14 && Jl IntKind.u8 (pu IntKind.u8 (JL (Ju (Jw [.ro 5 false false (List.take 32 y7), .ro 5 false false (pu IntKind.u8 (Jt (EV.mk y10 y11 e_At e_Op)))])))) && true then bif !Qs y14 (pu IntKind.u8 (JL (Ju (Jw [.ro 5 false false (List.take 32 y7), .ro 5 false false (pu IntKind.u8 (Jt (EV.mk y10 y11 e_At e_Op)))])))) then bif y3 then k (Res.mk (.tup [.st 39 [.st 34 [.sc (.int .i64 y0), .sc (.int .i64 y1)], .sc (.string y2), .ro 42 true true [], .sc (.int .i64 y6), .ar 37 y7], .sc (.int .i64 16)]) [] []) else bif Jf (0 + y5.length) 16 && true then k (Res.mk (.tup [.st 39 [.st 34 [.sc (.int .i64 y0), .sc (.int .i64 y1)], .sc (.string y2), .ro 42 false false (List.take (0 + y5.length) y5), .sc (.int .i64 y6), .ar 37 y7], .sc (.int .i64 16)]) [] []) else none else bif ccZ (CX.mk (dF 4 y10) (AV.mk (dF 5 y10) (dF 6 y10)) y2 [] e_Op) true then k (Res.mk (.tup [.st 39 [.st 34 [.sc (.int .i64 y0), .sc (.int .i64 y1)], .sc (.string (ccD (CX.mk (dF 4 y10) (AV.mk (dF 5 y10) (dF 6 y10)) y2 [] e_Op))), .ro 42 true true [], .sc (.int .i64 (IntKind.i64.wrap (y6 + 1))), .ar 37 y14], .sc (.int .i64 0)]) [] []) else bif Jf (0 + (ccL (CX.mk (dF 4 y10) (AV.mk (dF 5 y10) (dF 6 y10)) y2 [] e_Op)).length) 16 && true then k (Res.mk (.tup [.st 39 [.st 34 [.sc (.int .i64 y0), .sc (.int .i64 y1)], .sc (.string (ccD (CX.mk (dF 4 y10) (AV.mk (dF 5 y10) (dF 6 y10)) y2 [] e_Op))), .ro 42 false false (List.take (0 + (ccL (CX.mk (dF 4 y10) (AV.mk (dF 5 y10) (dF 6 y10)) y2 [] e_Op)).length) (ccL (CX.mk (dF 4 y10) (AV.mk (dF 5 y10) (dF 6 y10)) y2 [] e_Op))), .sc (.int .i64 (IntKind.i64.wrap (y6 + 1))), .ar 37 y14], .sc (.int .i64 0)]) [] []) else none else none else none else none else none else none else bif Jf (0 + y5.length) 16 && true then bif e_At != y6 then bif y3 then k (Res.mk (.tup [.st 39 [.st 34 [.sc (.int .i64 y0), .sc (.int .i64 y1)], .sc (.string y2), .ro 42 true true [], .sc (.int .i64 y6), .ar 37 y7], .sc (.int .i64 15)]) [] []) else bif Jf (0 + y5.length) 16 && true then k (Res.mk (.tup [.st 39 [.st 34 [.sc (.int .i64 y0), .sc (.int .i64 y1)], .sc (.string y2), .ro 42 false false (List.take (0 + y5.length) y5), .sc (.int .i64 y6), .ar 37 y7], .sc (.int .i64 15)]) [] []) else none else bif decide (dF 3 y10 > y6) then bif y3 then k (Res.mk (.tup [.st 39 [.st 34 [.sc (.int .i64 y0), .sc (.int .i64 y1)], .sc (.string y2), .ro 42 true true [], .sc (.int .i64 y6), .ar 37 y7], .sc (.int .i64 15)]) [] []) else bif Jf (0 + y5.length) 16 && true then k (Res.mk (.tup [.st 39 [.st 34 [.sc (.int .i64 y0), .sc (.int .i64 y1)], .sc (.string y2), .ro 42 false false (List.take (0 + y5.length) y5), .sc (.int .i64 y6), .ar 37 y7], .sc (.int .i64 15)]) [] []) else none else bif pOk y5 then bif !hasP (PH.mk y5 (AV.mk (dF 0 y10) (dF 1 y10))) then bif y3 then k (Res.mk (.tup [.st 39 [.st 34 [.sc (.int .i64 y0), .sc (.int .i64 y1)], .sc (.string y2), .ro 42 true true [], .sc (.int .i64 y6), .ar 37 y7], .sc (.int .i64 13)]) [] []) else bif Jf (0 + y5.length) 16 && true then k (Res.mk (.tup [.st 39 [.st 34 [.sc (.int .i64 y0), .sc (.int .i64 y1)], .sc (.string y2), .ro 42 false false (List.take (0 + y5.length) y5), .sc (.int .i64 y6), .ar 37 y7], .sc (.int .i64 13)]) [] []) else none else bif cOk e_Op && (decide (y2.size <= 10000) && (pOk (List.take (0 + y5.length) y5) && zOk false (List.take (0 + y5.length) y5))) then bif ccE (CX.mk (dF 4 y10) (AV.mk (dF 5 y10) (dF 6 y10)) y2 (List.take (0 + y5.length) y5) e_Op) != 0 then bif y3 then k (Res.mk (.tup [.st 39 [.st 34 [.sc (.int .i64 y0), .sc (.int .i64 y1)], .sc (.string y2), .ro 42 true true [], .sc (.int .i64 y6), .ar 37 y7], .sc (.int .i64 (ccE (CX.mk (dF 4 y10) (AV.mk (dF 5 y10) (dF 6 y10)) y2 (List.take (0 + y5.length) y5) e_Op)))]) [] []) else bif Jf (0 + y5.length) 16 && true then k (Res.mk (.tup [.st 39 [.st 34 [.sc (.int .i64 y0), .sc (.int .i64 y1)], .sc (.string y2), .ro 42 false false (List.take (0 + y5.length) y5), .sc (.int .i64 y6), .ar 37 y7], .sc (.int .i64 (ccE (CX.mk (dF 4 y10) (AV.mk (dF 5 y10) (dF 6 y10)) y2 (List.take (0 + y5.length) y5) e_Op)))]) [] []) else none else bif eOk (EV.mk y10 y11 e_At e_Op) then bif Jl IntKind.u8 (Jw [.ro 5 false false (List.take 32 y7), .ro 5 false false (pu IntKind.u8 (Jt (EV.mk y10 y11 e_At e_Op)))]) && decide ((Jw [.ro 5 false false (List.take 32 y7), .ro 5 false false (pu IntKind.u8 (Jt (EV.mk y10 y11 e_At e_Op)))]).length <= 140737488355000) then bif decide (y14.length = 32) && decide ((pu IntKind.u8 (JL (Ju (Jw [.ro 5 false false (List.take 32 y7), .ro 5 false false (pu IntKind.u8 (Jt (EV.mk y10 y11 e_At e_Op)))])))).length = 32) && Jl IntKind.u8 y14 && Jl IntKind.u8 (pu IntKind.u8 (JL (Ju (Jw [.ro 5 false false (List.take 32 y7), .ro 5 false false (pu IntKind.u8 (Jt (EV.mk y10 y11 e_At e_Op)))])))) && true then bif !Qs y14 (pu IntKind.u8 (JL (Ju (Jw [.ro 5 false false (List.take 32 y7), .ro 5 false false (pu IntKind.u8 (Jt (EV.mk y10 y11 e_At e_Op)))])))) then bif y3 then k (Res.mk (.tup [.st 39 [.st 34 [.sc (.int .i64 y0), .sc (.int .i64 y1)], .sc (.string y2), .ro 42 true true [], .sc (.int .i64 y6), .ar 37 y7], .sc (.int .i64 16)]) [] []) else bif Jf (0 + y5.length) 16 && true then k (Res.mk (.tup [.st 39 [.st 34 [.sc (.int .i64 y0), .sc (.int .i64 y1)], .sc (.string y2), .ro 42 false false (List.take (0 + y5.length) y5), .sc (.int .i64 y6), .ar 37 y7], .sc (.int .i64 16)]) [] []) else none else bif ccZ (CX.mk (dF 4 y10) (AV.mk (dF 5 y10) (dF 6 y10)) y2 (List.take (0 + y5.length) y5) e_Op) false then k (Res.mk (.tup [.st 39 [.st 34 [.sc (.int .i64 y0), .sc (.int .i64 y1)], .sc (.string (ccD (CX.mk (dF 4 y10) (AV.mk (dF 5 y10) (dF 6 y10)) y2 (List.take (0 + y5.length) y5) e_Op))), .ro 42 true true [], .sc (.int .i64 (IntKind.i64.wrap (y6 + 1))), .ar 37 y14], .sc (.int .i64 0)]) [] []) else bif Jf (0 + (ccL (CX.mk (dF 4 y10) (AV.mk (dF 5 y10) (dF 6 y10)) y2 (List.take (0 + y5.length) y5) e_Op)).length) 16 && true then k (Res.mk (.tup [.st 39 [.st 34 [.sc (.int .i64 y0), .sc (.int .i64 y1)], .sc (.string (ccD (CX.mk (dF 4 y10) (AV.mk (dF 5 y10) (dF 6 y10)) y2 (List.take (0 + y5.length) y5) e_Op))), .ro 42 false false (List.take (0 + (ccL (CX.mk (dF 4 y10) (AV.mk (dF 5 y10) (dF 6 y10)) y2 (List.take (0 + y5.length) y5) e_Op)).length) (ccL (CX.mk (dF 4 y10) (AV.mk (dF 5 y10) (dF 6 y10)) y2 (List.take (0 + y5.length) y5) e_Op))), .sc (.int .i64 (IntKind.i64.wrap (y6 + 1))), .ar 37 y14], .sc (.int .i64 0)]) [] []) else none else none else none else none else none else none else none else none
theorem e14 (f : Nat) (y0 y1 : Int) (y2 : ByteArray) (y3 y4 : Bool) (y5 : List PV) (y6 : Int) (y7 : List PV) (y8 y9 : Bool) (y10 y11 : List PV) (e_At : Int) (y12 y13 : Bool) (e_Op y14 y15 : List PV) (k : Res -> Option Res) : JM tau F14 Try.f14 (Try.f14.body.get!) JqJ [.ro, .ro] 0 [.st 39 [.st 34 [.sc (.int .i64 y0), .sc (.int .i64 y1)], .sc (.string y2), .ro 42 y3 y4 y5, .sc (.int .i64 y6), .ar 37 y7], .st 51 [.st 47 [.ro 5 y8 y9 y10, .ar 37 y11], .sc (.int .i64 e_At), .ro 113 y12 y13 e_Op, .ar 37 y14, .ar 37 y15]] [] k = g14 f y0 y1 y2 y3 y4 y5 y6 y7 y8 y9 y10 y11 e_At y12 y13 e_Op y14 y15 k := by kernel_rfl
theorem JDH (f : Nat) : Je (Try.f14.body.get!) JqJ = [] := by kernel_rfl
theorem JDI (f : Nat) : ∀ q ∈ Je (Try.f14.body.get!) JqJ, q.Ok tau Try.prog 0 := by
 rw [JDH f]; intro q hq; cases hq
theorem JAw : Try.prog.funcs[14]? = some Try.f14 := by kernel_rfl
theorem JAx : Try.f14.body = some (Try.f14.body.get!) := by kernel_rfl
theorem JDJ : Enters Try.prog 14 := enters_of JAw (by kernel_rfl) JAx
-- FN wavelet.Do
def cxO (x : DX) : CX := ⟨dF 4 x.e.b, whA x.e.b, x.s.doc, x.s.l, x.e.o⟩
theorem JAy (x : DX) : ccE (cxO x) = chE x := by
 rw [Jnv]
 unfold JqF chE cxO
 cases dF 4 x.e.b == 1 with
 | false => rfl
 | true => simp only [cond_true, bne]; cases ckO x.e.o == 0 <;> rfl
theorem JAz {x : DX} (h : chE x = 0) : ccD (cxO x) = chD x := by
 rw [Jnw]
 unfold JqG chD cxO
 unfold chE at h
 cases h1 : dF 4 x.e.b == 1 with
 | false => rfl
 | true =>
  rw [h1] at h
  simp only [cond_true, bne] at h ⊢
  cases h2 : ckO x.e.o == 0 with
  | true => rfl
  | false => rw [h2] at h; simp only [cond_false] at h; rw [h] at h2; exact absurd h2 (by decide)
theorem Jnz {x : DX} (h : chE x = 0) : decide (zi x.e.o.length > 0) = true -> (dF 4 x.e.b == 1) = true := by
 intro g
 unfold chE at h
 cases h1 : dF 4 x.e.b == 1 with
 | true => rfl
 | false => rw [h1, g] at h; exact absurd (show (1 : Int) = 0 from h) (by decide)
theorem JAA {x : DX} (h : chE x = 0) : ccL (cxO x) = chL x := by
 rw [Jnx]
 have g := Jnz h
 unfold JqH chL cxO
 cases h1 : dF 4 x.e.b == 1 with
 | true => rfl
 | false =>
  simp only [cond_false]
  cases h2 : decide (zi x.e.o.length > 0) with
  | false => rfl
  | true => rw [g h2] at h1; cases h1
theorem JAB {x : DX} (h : chE x = 0) (z : Bool) : ccZ (cxO x) z = chZ x z := by
 rw [Jny]
 have g := Jnz h
 unfold JqI chZ cxO
 cases h1 : dF 4 x.e.b == 1 with
 | true => rfl
 | false =>
  simp only [cond_false]
  cases h2 : decide (zi x.e.o.length > 0) with
  | false => rfl
  | true => rw [g h2] at h1; cases h1
theorem JiC {x : DX} {z : Bool} (hz : z = true -> x.s.l = []) : chZ x z = true -> chL x = [] := by
 unfold chZ chL
 cases dF 4 x.e.b == 1 with
 | true => exact hz
 | false =>
  simp only [cond_false]
  cases dF 4 x.e.b == 2 with
  | true =>
   simp only [cond_true, JmO, Jac]
   cases VG ⟨x.s.l, whA x.e.b⟩ == 0 with
   | true => intro h; cases h
   | false => exact hz
  | false =>
   simp only [cond_false, JmQ, Jad]
   cases hasL x.s.l (whA x.e.b) with
   | true => exact fun h => List.isEmpty_iff.1 h
   | false => exact hz
theorem JgC {x : DX} (h : pOk x.s.l = true) : (chL x).length <= 9 := by
 have h3 : x.s.l.length <= 8 := (Q1.1 h).2.2
 unfold chL
 cases dF 4 x.e.b == 1 with
 | true => show x.s.l.length <= 9; omega
 | false =>
  simp only [cond_false]
  cases dF 4 x.e.b == 2 with
  | true =>
   simp only [cond_true, Jac]
   cases VG ⟨x.s.l, whA x.e.b⟩ == 0 with
   | true => show (Z4 x.s.l _).length <= 9; rw [ZE]; omega
   | false => show x.s.l.length <= 9; omega
  | false =>
   simp only [cond_false, Jad]
   cases hasL x.s.l (whA x.e.b) with
   | true => show (List.filter _ x.s.l).length <= 9; have := List.length_filter_le (fun p => !eqA (av p) (whA x.e.b)) x.s.l; exact Nat.le_trans this (by omega)
   | false => show x.s.l.length <= 9; omega
def wsP (s : SV) (z f : Bool) : PV := .st 39 [.st 34 [.sc (.int .i64 s.ih), .sc (.int .i64 s.iN)], .sc (.string s.doc), .ro 42 z f s.l, .sc (.int .i64 s.ver), .ar 37 s.hash]
def dwP (x : DX) (z : Bool) : PV := .tup [wsP (dsS x) (dsZ x z) (dsZ x z), .sc (.int .i64 (dsE x))]
theorem Je4 {x : DX} {e : Int} (h : dsE0 x = e) (h0 : (e == 0) = false) (z : Bool) : dwP x z = .tup [wsP x.s z z, .sc (.int .i64 e)] := by
 have h1 : (dsE0 x == 0) = false := by rw [h]; exact h0
 unfold dwP; rw [JjS h1, Jio, JeS, h, h0]; rfl
theorem JnA {x : DX} (h : dsE0 x = 0) (z : Bool) : dwP x z = .tup [wsP ⟨x.s.ih, x.s.iN, chD x, chL x, x.s.ver + 1, x.e.h⟩ (chZ x z) (chZ x z), .sc (.int .i64 0)] := by
 unfold dwP dsS; rw [JeT, Jcj, VI, Jae, Jio, JeS, h]; rfl
theorem cl3 {z : Bool} {l : List PV} (hz : z = true -> l = []) (hl : l.length <= 1000) (K : Bool -> Bool -> List PV -> Option Res) : (bif z then K true true [] else bif Jf l.length 16 && true then K false false l else none) = K z z l := by
 cases z with
 | true => rw [hz rfl]; rfl
 | false => exact (Jj rfl).trans (Ja (by simp [Jf]; omega))
theorem Jvh (ih iN : Int) (doc : ByteArray) (z f : Bool) (l : List PV) (ver : Int) (hash : List PV) (bz bf : Bool) (b m : List PV) (at1 : Int) (oz of : Bool) (o h mc : List PV)
  (hs : sOk ⟨ih, iN, doc, l, ver, hash⟩ = true) (he : eD ⟨b, m, at1, o, h, mc⟩ = true) (hzk : zOk z l = true) (hsl : slB bz b = true) (k : Res -> Option Res) :
  g14 0 ih iN doc z f l ver hash bz bf b m at1 oz of o h mc k = k ⟨dwP ⟨⟨ih, iN, doc, l, ver, hash⟩, ⟨b, m, at1, o, h, mc⟩⟩ z, [], []⟩ := by
 obtain ⟨s1, s2, s3, s4, s5, s6⟩ := WN.1 hs
 obtain ⟨e1, e2, e3, e4⟩ := Jaf.1 he
 simp only at s1 s2 s3 s4 s5 e1 e3 e4
 have e2 : eOk ⟨b, m, at1, o⟩ = true := e2
 obtain ⟨hh1, hh2⟩ := h32_iff.1 e4
 obtain ⟨ha1, ha2⟩ := h32_iff.1 s2
 have hz := Jbi.1 hzk
 have hl8 : l.length <= 8 := (Q1.1 s1).2.2
 have w1 : IntKind.i64.wrap (ver + 1) = ver + 1 := wrap_i64 (by omega) (by omega)
 have hnl : (pu .u8 (nxP ⟨hash, ⟨b, m, at1, o⟩⟩)).length = 32 := by rw [JD]; exact YA _
 have htk : List.take 32 hash = hash := by rw [← ha2]; exact List.take_length
 have hfl : Jw [.ro 5 false false (List.take 32 hash), .ro 5 false false (pu .u8 (Jt ⟨b, m, at1, o⟩))] = hash ++ pu .u8 (Jt ⟨b, m, at1, o⟩) := by rw [htk]; simp [PV.els]
 have hnx : JL (Ju (hash ++ pu .u8 (Jt ⟨b, m, at1, o⟩))) = nxP ⟨hash, ⟨b, m, at1, o⟩⟩ := by
  rw [JeN, Jgm, Q0]
 have hcl := WL e2
 obtain ⟨q1, q2, q3, q4, q5, q6⟩ := WK.1 e2
 have hfa : (Jl .u8 (hash ++ pu .u8 (Jt ⟨b, m, at1, o⟩)) && decide ((hash ++ pu .u8 (Jt ⟨b, m, at1, o⟩)).length <= 140737488355000)) = true := by
  rw [QF, ha1, JN, List.length_append, JD, hcl, ha2]
  simp only at q2 q6 ⊢
  exact decide_eq_true (by omega)
 unfold g14
 simp only [Nat.zero_add, List.take_length, w1]
 refine (Ja (by rw [hsl, e1]; rfl)).trans ?_
 cases h1 : (dE b != 0) with
 | true =>
  refine (Ja rfl).trans ?_
  rw [Je4 (x := ⟨⟨ih, iN, doc, l, ver, hash⟩, ⟨b, m, at1, o, h, mc⟩⟩) (e := dE b) (Ja h1) (by simpa [bne] using h1)]
  exact cl3 hz (by omega) (fun a c q => k ⟨.tup [wsP ⟨ih, iN, doc, q, ver, hash⟩ a c, .sc (.int .i64 (dE b))], [], []⟩)
 | false =>
 refine (Jj rfl).trans ?_
 cases z with
 | true =>
  obtain rfl : l = [] := hz rfl
  refine (Ja rfl).trans ?_
  have hau : AV.mk (dF 0 b) (dF 1 b) = auA b := rfl
  have hcx : CX.mk (dF 4 b) (AV.mk (dF 5 b) (dF 6 b)) doc [] o = cxO ⟨⟨ih, iN, doc, [], ver, hash⟩, ⟨b, m, at1, o, h, mc⟩⟩ := rfl
  simp only [hau, hcx, hfl, hnx, JAy]
  have BAD : ∀ (e : Int), dsE0 ⟨⟨ih, iN, doc, [], ver, hash⟩, ⟨b, m, at1, o, h, mc⟩⟩ = e -> (e == 0) = false -> (bif true then k ⟨.tup [wsP ⟨ih, iN, doc, [], ver, hash⟩ true true, .sc (.int .i64 e)], [], []⟩ else bif Jf ([] : List PV).length 16 && true then k ⟨.tup [wsP ⟨ih, iN, doc, [], ver, hash⟩ false false, .sc (.int .i64 e)], [], []⟩ else none) = k ⟨dwP ⟨⟨ih, iN, doc, [], ver, hash⟩, ⟨b, m, at1, o, h, mc⟩⟩ true, [], []⟩ := fun e h1 h0 => by
   rw [Je4 h1 h0]
   exact cl3 (z := true) (l := []) (by intro _; rfl) (by exact Nat.zero_le _) (fun a c q => k ⟨.tup [wsP ⟨ih, iN, doc, q, ver, hash⟩ a c, .sc (.int .i64 e)], [], []⟩)
  cases h2 : (at1 != ver) with
  | true => exact (Ja rfl).trans (BAD 15 ((Jj h1).trans (Ja h2)) rfl)
  | false =>
  refine (Jj rfl).trans ?_
  cases h3 : decide (dF 3 b > ver) with
  | true => exact (Ja rfl).trans (BAD 15 ((Jj h1).trans ((Jj h2).trans (Ja h3))) rfl)
  | false =>
  refine (Jj rfl).trans ((Ja s1).trans ?_)
  cases h4 : (!hasP ⟨[], auA b⟩) with
  | true => exact (Ja rfl).trans (BAD 13 ((Jj h1).trans ((Jj h2).trans ((Jj h3).trans (Ja h4)))) rfl)
  | false =>
  refine (Jj rfl).trans ((Ja (by rw [e3, decide_eq_true (show doc.size <= 10000 by omega), s1, hzk]; rfl)).trans ?_)
  cases h5 : (chE ⟨⟨ih, iN, doc, [], ver, hash⟩, ⟨b, m, at1, o, h, mc⟩⟩ != 0) with
  | true => exact (Ja rfl).trans (BAD _ ((Jj h1).trans ((Jj h2).trans ((Jj h3).trans ((Jj h4).trans (Ja h5))))) (by simpa [bne] using h5))
  | false =>
  have hc0 : chE ⟨⟨ih, iN, doc, [], ver, hash⟩, ⟨b, m, at1, o, h, mc⟩⟩ = 0 := by simpa [bne] using h5
  refine (Jj rfl).trans ((Ja e2).trans ((Ja hfa).trans ((Ja (by rw [hh2, hnl, hh1, JN]; rfl)).trans ?_)))
  cases h6 : (!Qs h (pu .u8 (nxP ⟨hash, ⟨b, m, at1, o⟩⟩))) with
  | true => exact (Ja rfl).trans (BAD 16 ((Jj h1).trans ((Jj h2).trans ((Jj h3).trans ((Jj h4).trans ((Jj h5).trans (Ja h6)))))) rfl)
  | false =>
  refine (Jj rfl).trans ?_
  rw [JAB hc0, JAz hc0, JAA hc0, JnA (x := ⟨⟨ih, iN, doc, [], ver, hash⟩, ⟨b, m, at1, o, h, mc⟩⟩) ((Jj h1).trans ((Jj h2).trans ((Jj h3).trans ((Jj h4).trans ((Jj h5).trans (Jj h6))))))]
  have hsm := JgC (x := ⟨⟨ih, iN, doc, [], ver, hash⟩, ⟨b, m, at1, o, h, mc⟩⟩) s1
  exact cl3 (JiC (x := ⟨⟨ih, iN, doc, [], ver, hash⟩, ⟨b, m, at1, o, h, mc⟩⟩) (z := true) (by intro _; rfl)) (by omega) (fun a c q => k ⟨.tup [wsP ⟨ih, iN, chD ⟨⟨ih, iN, doc, [], ver, hash⟩, ⟨b, m, at1, o, h, mc⟩⟩, q, ver + 1, h⟩ a c, .sc (.int .i64 0)], [], []⟩)
 | false =>
  refine (Jj rfl).trans ((Ja (by simp [Jf]; omega)).trans ?_)
  have hau : AV.mk (dF 0 b) (dF 1 b) = auA b := rfl
  have hcx : CX.mk (dF 4 b) (AV.mk (dF 5 b) (dF 6 b)) doc l o = cxO ⟨⟨ih, iN, doc, l, ver, hash⟩, ⟨b, m, at1, o, h, mc⟩⟩ := rfl
  simp only [hau, hcx, hfl, hnx, JAy]
  have BAD : ∀ (e : Int), dsE0 ⟨⟨ih, iN, doc, l, ver, hash⟩, ⟨b, m, at1, o, h, mc⟩⟩ = e -> (e == 0) = false -> (bif false then k ⟨.tup [wsP ⟨ih, iN, doc, [], ver, hash⟩ true true, .sc (.int .i64 e)], [], []⟩ else bif Jf (l : List PV).length 16 && true then k ⟨.tup [wsP ⟨ih, iN, doc, l, ver, hash⟩ false false, .sc (.int .i64 e)], [], []⟩ else none) = k ⟨dwP ⟨⟨ih, iN, doc, l, ver, hash⟩, ⟨b, m, at1, o, h, mc⟩⟩ false, [], []⟩ := fun e h1 h0 => by
   rw [Je4 h1 h0]
   exact cl3 (z := false) (l := l) (by intro q; cases q) (by omega) (fun a c q => k ⟨.tup [wsP ⟨ih, iN, doc, q, ver, hash⟩ a c, .sc (.int .i64 e)], [], []⟩)
  cases h2 : (at1 != ver) with
  | true => exact (Ja rfl).trans (BAD 15 ((Jj h1).trans (Ja h2)) rfl)
  | false =>
  refine (Jj rfl).trans ?_
  cases h3 : decide (dF 3 b > ver) with
  | true => exact (Ja rfl).trans (BAD 15 ((Jj h1).trans ((Jj h2).trans (Ja h3))) rfl)
  | false =>
  refine (Jj rfl).trans ((Ja s1).trans ?_)
  cases h4 : (!hasP ⟨l, auA b⟩) with
  | true => exact (Ja rfl).trans (BAD 13 ((Jj h1).trans ((Jj h2).trans ((Jj h3).trans (Ja h4)))) rfl)
  | false =>
  refine (Jj rfl).trans ((Ja (by rw [e3, decide_eq_true (show doc.size <= 10000 by omega), s1, hzk]; rfl)).trans ?_)
  cases h5 : (chE ⟨⟨ih, iN, doc, l, ver, hash⟩, ⟨b, m, at1, o, h, mc⟩⟩ != 0) with
  | true => exact (Ja rfl).trans (BAD _ ((Jj h1).trans ((Jj h2).trans ((Jj h3).trans ((Jj h4).trans (Ja h5))))) (by simpa [bne] using h5))
  | false =>
  have hc0 : chE ⟨⟨ih, iN, doc, l, ver, hash⟩, ⟨b, m, at1, o, h, mc⟩⟩ = 0 := by simpa [bne] using h5
  refine (Jj rfl).trans ((Ja e2).trans ((Ja hfa).trans ((Ja (by rw [hh2, hnl, hh1, JN]; rfl)).trans ?_)))
  cases h6 : (!Qs h (pu .u8 (nxP ⟨hash, ⟨b, m, at1, o⟩⟩))) with
  | true => exact (Ja rfl).trans (BAD 16 ((Jj h1).trans ((Jj h2).trans ((Jj h3).trans ((Jj h4).trans ((Jj h5).trans (Ja h6)))))) rfl)
  | false =>
  refine (Jj rfl).trans ?_
  rw [JAB hc0, JAz hc0, JAA hc0, JnA (x := ⟨⟨ih, iN, doc, l, ver, hash⟩, ⟨b, m, at1, o, h, mc⟩⟩) ((Jj h1).trans ((Jj h2).trans ((Jj h3).trans ((Jj h4).trans ((Jj h5).trans (Jj h6))))))]
  have hsm := JgC (x := ⟨⟨ih, iN, doc, l, ver, hash⟩, ⟨b, m, at1, o, h, mc⟩⟩) s1
  exact cl3 (JiC (x := ⟨⟨ih, iN, doc, l, ver, hash⟩, ⟨b, m, at1, o, h, mc⟩⟩) (z := false) (by intro q; cases q)) (by omega) (fun a c q => k ⟨.tup [wsP ⟨ih, iN, chD ⟨⟨ih, iN, doc, l, ver, hash⟩, ⟨b, m, at1, o, h, mc⟩⟩, q, ver + 1, h⟩ a c, .sc (.int .i64 0)], [], []⟩)
def JiD : List PV -> List Ent -> (Res -> Option Res) -> Option Res
 | [.st 39 [.st 34 [.sc (.int .i64 ih), .sc (.int .i64 iN)], .sc (.string doc), .ro 42 z f l, .sc (.int .i64 ver), .ar 37 hash], .st 51 [.st 47 [.ro 5 bz bf b, .ar 37 m], .sc (.int .i64 at1), .ro 113 oz of o, .ar 37 h, .ar 37 mc]], [], k =>
  bif sOk ⟨ih, iN, doc, l, ver, hash⟩ && eD ⟨b, m, at1, o, h, mc⟩ && (zOk z l && slB bz b) then k ⟨.tup [.st 39 [.st 34 [.sc (.int .i64 ih), .sc (.int .i64 iN)], .sc (.string (dsD ⟨⟨ih, iN, doc, l, ver, hash⟩, ⟨b, m, at1, o, h, mc⟩⟩)), .ro 42 (dsZ ⟨⟨ih, iN, doc, l, ver, hash⟩, ⟨b, m, at1, o, h, mc⟩⟩ z) (dsZ ⟨⟨ih, iN, doc, l, ver, hash⟩, ⟨b, m, at1, o, h, mc⟩⟩ z) (dsL ⟨⟨ih, iN, doc, l, ver, hash⟩, ⟨b, m, at1, o, h, mc⟩⟩), .sc (.int .i64 (dsV ⟨⟨ih, iN, doc, l, ver, hash⟩, ⟨b, m, at1, o, h, mc⟩⟩)), .ar 37 (dsH ⟨⟨ih, iN, doc, l, ver, hash⟩, ⟨b, m, at1, o, h, mc⟩⟩)], .sc (.int .i64 (dsE ⟨⟨ih, iN, doc, l, ver, hash⟩, ⟨b, m, at1, o, h, mc⟩⟩))], [], []⟩ else none
 | _, _, _ => none
def JAC : Sig := { own := [], run := JiD }
theorem JAD : Jh tau Try.prog 14 JAC := Jh.mk' fun xs es k res hl hr => by
 change JiD xs es k = some res at hr
 unfold JiD at hr
 split at hr
 · rename_i ih iN doc z f l ver hash bz bf b m at1 oz of o h mc
   obtain ⟨hc, hr⟩ := JI hr
   simp only [Bool.and_eq_true] at hc
   obtain ⟨⟨c1, c2⟩, c3, c4⟩ := hc
   exact Qk Jr Jvg Js JAw JAx JqJ [.ro, .ro] 0 0 (JDI 0) hl rfl ((e14 0 ih iN doc z f l ver hash bz bf b m at1 oz of o h mc k).trans ((Jvh ih iN doc z f l ver hash bz bf b m at1 oz of o h mc c1 c2 c3 c4 k).trans hr))
 · cases hr
def F17 : Fns := JG 53 Jo8 (JG 51 JpP (F0))
theorem Jvi : Jy tau Try.prog F17 := ((JE).add Jmt JuA).add Jl8 JoX
def JqK : An := (.seq .leaf (.seq .leaf (.seq .leaf (.seq .leaf .leaf))))
def g17 (f : Nat) (y0 id_N y1 y2 : Int) (k : Res -> Option Res) : Option Res := bif okL (apI [] y0).length (apI [] y0) then bif okL (apI (apI [] y0) id_N).length (apI (apI [] y0) id_N) then bif okL (apI (apI (apI [] y0) id_N) y1).length (apI (apI (apI [] y0) id_N) y1) then bif Jl IntKind.u8 (List.take (apI (apI (apI (apI [] y0) id_N) y1) y2).length (apI (apI (apI (apI [] y0) id_N) y1) y2)) && decide ((List.take (apI (apI (apI (apI [] y0) id_N) y1) y2).length (apI (apI (apI (apI [] y0) id_N) y1) y2)).length <= 140737488355000) then k (Res.mk (.st 58 [.st 34 [.sc (.int .i64 y0), .sc (.int .i64 id_N)], .sc (.string (ByteArray.mk #[])), .ro 42 false false [.st 42 [.sc (.int .i64 y1), .sc (.int .i64 y2)]], .sc (.int .i64 0), .ar 37 (pu IntKind.u8 (JL (Ju (List.take (apI (apI (apI (apI [] y0) id_N) y1) y2).length (apI (apI (apI (apI [] y0) id_N) y1) y2)))))]) [] []) else none else none else none else none
theorem e17 (f : Nat) (y0 id_N y1 y2 : Int) (k : Res -> Option Res) : JM tau F17 Try.f17 (Try.f17.body.get!) JqK [.ro] 0 [.st 34 [.sc (.int .i64 y0), .sc (.int .i64 id_N)], .st 42 [.sc (.int .i64 y1), .sc (.int .i64 y2)]] [] k = g17 f y0 id_N y1 y2 k := by kernel_rfl
theorem JDK (f : Nat) : Je (Try.f17.body.get!) JqK = [] := by kernel_rfl
theorem JDL (f : Nat) : ∀ q ∈ Je (Try.f17.body.get!) JqK, q.Ok tau Try.prog 0 := by
 rw [JDK f]; intro q hq; cases hq
theorem JAE : Try.prog.funcs[17]? = some Try.f17 := by kernel_rfl
theorem JAF : Try.f17.body = some (Try.f17.body.get!) := by kernel_rfl
theorem JDM : Enters Try.prog 17 := enters_of JAE (by kernel_rfl) JAF
def JnB : List PV -> List Ent -> (Res -> Option Res) -> Option Res
 | [.st 34 [.sc (.int .i64 y0), .sc (.int .i64 id_N)], .st 42 [.sc (.int .i64 y1), .sc (.int .i64 y2)]], [], k => g17 0 y0 id_N y1 y2 k
 | _, _, _ => none
def s17 : Sig := { own := [], run := JnB }
theorem JDN : Jh tau Try.prog 17 s17 := JW Jr Jvi Js JAE JAF JqK [.ro] 0 [] JnB (JDL 0) fun xs es k res hr => by
 unfold JnB at hr
 split at hr
 · exact ⟨rfl, 0, (e17 0 _ _ _ _  _).trans hr⟩
 · cases hr
def F18 : Fns := F0
theorem Jvj : Jy tau Try.prog F18 := JE
def JqL : An := (.seq .leaf (.seq .leaf (.seq (.seq .leaf (.cond .leaf .leaf)) (.seq .leaf .leaf))))
def g18 (f : Nat) (at1 n : Int) (k : Res -> Option Res) : Option Res := bif !decide (n = 0) && true then bif decide (at1.tmod n < 0) then k (Res.mk (.sc (.int .i64 (IntKind.i64.wrap (at1.tmod n + n)))) [] []) else k (Res.mk (.sc (.int .i64 (at1.tmod n))) [] []) else none
theorem e18 (f : Nat) (at1 n : Int) (k : Res -> Option Res) : JM tau F18 Try.f18 (Try.f18.body.get!) JqL [.ro] 0 [.sc (.int .i64 at1), .sc (.int .i64 n)] [] k = g18 f at1 n k := by kernel_rfl
theorem JDO (f : Nat) : Je (Try.f18.body.get!) JqL = [] := by kernel_rfl
theorem JDP (f : Nat) : ∀ q ∈ Je (Try.f18.body.get!) JqL, q.Ok tau Try.prog 0 := by
 rw [JDO f]; intro q hq; cases hq
theorem JAG : Try.prog.funcs[18]? = some Try.f18 := by kernel_rfl
theorem JAH : Try.f18.body = some (Try.f18.body.get!) := by kernel_rfl
theorem JDQ : Enters Try.prog 18 := enters_of JAG (by kernel_rfl) JAH
def JnC : List PV -> List Ent -> (Res -> Option Res) -> Option Res
 | [.sc (.int .i64 at1), .sc (.int .i64 n)], [], k => g18 0 at1 n k
 | _, _, _ => none
def s18 : Sig := { own := [], run := JnC }
theorem JDR : Jh tau Try.prog 18 s18 := JW Jr Jvj Js JAG JAH JqL [.ro] 0 [] JnC (JDP 0) fun xs es k res hr => by
 unfold JnC at hr
 split at hr
 · exact ⟨rfl, 0, (e18 0 _ _  _).trans hr⟩
 · cases hr
-- FN law13.within
def JiE : List PV -> List Ent -> (Res -> Option Res) -> Option Res
 | [.sc (.int .i64 a), .sc (.int .i64 n)], [], k => bif okW n then k ⟨.sc (.int .i64 (a % n)), [], []⟩ else none
 | _, _, _ => none
def JAI : Sig := { own := [], run := JiE }
theorem Jvk (a n : Int) (h : 0 < n) (h2 : n < 1000000000000) (k : Res -> Option Res) : g18 0 a n k = k ⟨.sc (.int .i64 (a % n)), [], []⟩ := by
 have hn : (n == 0) = false := by simp; omega
 have e := Int.tmod_eq_emod (a := a) (b := n)
 have e0 := Int.emod_nonneg a (show n ≠ 0 by omega)
 have e1 := Int.emod_lt_of_pos a h
 have hna : (n.natAbs : Int) = n := by omega
 unfold g18
 refine (Ja (by simp; omega)).trans ?_
 by_cases hc : a.tmod n < 0
 · refine (Ja (by simpa using hc)).trans ?_
   have : IntKind.i64.wrap (a.tmod n + n) = a % n := by
    split at e <;> (rw [wrap_i64 (by omega) (by omega)]; omega)
   rw [this]
 · refine (Jj (by simpa using hc)).trans ?_
   have : a.tmod n = a % n := by split at e <;> omega
   rw [this]
theorem JAJ : Jh tau Try.prog 18 JAI := JDR.of fun xs es k res hr => by
 change JiE xs es k = some res at hr
 unfold JiE at hr
 split at hr
 · obtain ⟨hc, hr⟩ := JI hr
   simp only [JmF, Bool.and_eq_true, decide_eq_true_eq] at hc
   exact (Jvk _ _ hc.1 hc.2 _).trans hr
 · cases hr
def F19 : Fns := JG 55 Jzq (JG 54 Jzs (F0))
theorem Jvl : Jy tau Try.prog F19 := ((JE).add Jzt JCZ).add Jzr JCR
def JqM : An := (.seq .leaf (.seq .leaf (.seq .leaf (.mid [(0, .any), (1, .any), (2, .any), (3, .any), (4, .any), (5, .any), (6, .any), (7, .any), (8, .any), (9, .any), (10, .any), (11, .bx (.st [.any, .any, .any, .any, .any, .ro, .any])), (12, .ro)] (.seq .leaf (.cond (.seq .leaf (.seq (.seq .leaf (.cond .leaf .leaf)) .leaf)) .leaf)) (.seq .leaf .leaf)))))
def g19 (f : Nat) (k0_z k0_f : Bool) (k0 : List PV) (k1_z k1_f : Bool) (k1 : List PV) (k2_z k2_f : Bool) (k2 : List PV) (y0 y1 : Int) (y2 : ByteArray) (y3 y4 : Bool) (y5 : List PV) (y6 : Int) (y7 : List PV) (a_D a_U kind y8 y9 : Int) (k : Res -> Option Res) : Option Res := bif kind == 1 then bif decide (zi y2.size > 0) then bif dOk (DV.mk a_D a_U y6 y6 y7 kind [.st 113 [.sc (.int .i64 2), .sc (.int .i64 0), .sc (.string (ByteArray.mk (Array.mk (u8l [120]))))], .st 113 [.sc (.int .i64 1), .sc (.int .i64 (zi y2.size)), .sc (.string (ByteArray.mk #[]))]] 0 0) && (kO3 [.ro 5 k0_z k0_f k0, .ro 5 k1_z k1_f k1, .ro 5 k2_z k2_f k2] && kIn a_D) then bif kIn y0 && eOk (EV.mk (pu IntKind.u8 (dlB (DV.mk a_D a_U y6 y6 y7 kind [.st 113 [.sc (.int .i64 2), .sc (.int .i64 0), .sc (.string (ByteArray.mk (Array.mk (u8l [120]))))], .st 113 [.sc (.int .i64 1), .sc (.int .i64 (zi y2.size)), .sc (.string (ByteArray.mk #[]))]] 0 0))) (pu IntKind.u8 (mcK (MK.mk [.ro 5 k0_z k0_f k0, .ro 5 k1_z k1_f k1, .ro 5 k2_z k2_f k2] a_D (dlB (DV.mk a_D a_U y6 y6 y7 kind [.st 113 [.sc (.int .i64 2), .sc (.int .i64 0), .sc (.string (ByteArray.mk (Array.mk (u8l [120]))))], .st 113 [.sc (.int .i64 1), .sc (.int .i64 (zi y2.size)), .sc (.string (ByteArray.mk #[]))]] 0 0))))) y6 [.st 113 [.sc (.int .i64 2), .sc (.int .i64 0), .sc (.string (ByteArray.mk (Array.mk (u8l [120]))))], .st 113 [.sc (.int .i64 1), .sc (.int .i64 (zi y2.size)), .sc (.string (ByteArray.mk #[]))]]) && (h32 y7 && kO3 [.ro 5 k0_z k0_f k0, .ro 5 k1_z k1_f k1, .ro 5 k2_z k2_f k2]) then k (Res.mk (.st 51 [.st 47 [.ro 5 false false (pu IntKind.u8 (dlB (DV.mk a_D a_U y6 y6 y7 kind [.st 113 [.sc (.int .i64 2), .sc (.int .i64 0), .sc (.string (ByteArray.mk (Array.mk (u8l [120]))))], .st 113 [.sc (.int .i64 1), .sc (.int .i64 (zi y2.size)), .sc (.string (ByteArray.mk #[]))]] 0 0))), .ar 37 (pu IntKind.u8 (mcK (MK.mk [.ro 5 k0_z k0_f k0, .ro 5 k1_z k1_f k1, .ro 5 k2_z k2_f k2] a_D (dlB (DV.mk a_D a_U y6 y6 y7 kind [.st 113 [.sc (.int .i64 2), .sc (.int .i64 0), .sc (.string (ByteArray.mk (Array.mk (u8l [120]))))], .st 113 [.sc (.int .i64 1), .sc (.int .i64 (zi y2.size)), .sc (.string (ByteArray.mk #[]))]] 0 0)))))], .sc (.int .i64 y6), .ro 113 false false [.st 113 [.sc (.int .i64 2), .sc (.int .i64 0), .sc (.string (ByteArray.mk (Array.mk (u8l [120]))))], .st 113 [.sc (.int .i64 1), .sc (.int .i64 (zi y2.size)), .sc (.string (ByteArray.mk #[]))]], .ar 37 (pu IntKind.u8 (nxP (NX.mk y7 (EV.mk (pu IntKind.u8 (dlB (DV.mk a_D a_U y6 y6 y7 kind [.st 113 [.sc (.int .i64 2), .sc (.int .i64 0), .sc (.string (ByteArray.mk (Array.mk (u8l [120]))))], .st 113 [.sc (.int .i64 1), .sc (.int .i64 (zi y2.size)), .sc (.string (ByteArray.mk #[]))]] 0 0))) (pu IntKind.u8 (mcK (MK.mk [.ro 5 k0_z k0_f k0, .ro 5 k1_z k1_f k1, .ro 5 k2_z k2_f k2] a_D (dlB (DV.mk a_D a_U y6 y6 y7 kind [.st 113 [.sc (.int .i64 2), .sc (.int .i64 0), .sc (.string (ByteArray.mk (Array.mk (u8l [120]))))], .st 113 [.sc (.int .i64 1), .sc (.int .i64 (zi y2.size)), .sc (.string (ByteArray.mk #[]))]] 0 0))))) y6 [.st 113 [.sc (.int .i64 2), .sc (.int .i64 0), .sc (.string (ByteArray.mk (Array.mk (u8l [120]))))], .st 113 [.sc (.int .i64 1), .sc (.int .i64 (zi y2.size)), .sc (.string (ByteArray.mk #[]))]])))), .ar 37 (pu IntKind.u8 (emP (EM.mk [.ro 5 k0_z k0_f k0, .ro 5 k1_z k1_f k1, .ro 5 k2_z k2_f k2] y0 (EV.mk (pu IntKind.u8 (dlB (DV.mk a_D a_U y6 y6 y7 kind [.st 113 [.sc (.int .i64 2), .sc (.int .i64 0), .sc (.string (ByteArray.mk (Array.mk (u8l [120]))))], .st 113 [.sc (.int .i64 1), .sc (.int .i64 (zi y2.size)), .sc (.string (ByteArray.mk #[]))]] 0 0))) (pu IntKind.u8 (mcK (MK.mk [.ro 5 k0_z k0_f k0, .ro 5 k1_z k1_f k1, .ro 5 k2_z k2_f k2] a_D (dlB (DV.mk a_D a_U y6 y6 y7 kind [.st 113 [.sc (.int .i64 2), .sc (.int .i64 0), .sc (.string (ByteArray.mk (Array.mk (u8l [120]))))], .st 113 [.sc (.int .i64 1), .sc (.int .i64 (zi y2.size)), .sc (.string (ByteArray.mk #[]))]] 0 0))))) y6 [.st 113 [.sc (.int .i64 2), .sc (.int .i64 0), .sc (.string (ByteArray.mk (Array.mk (u8l [120]))))], .st 113 [.sc (.int .i64 1), .sc (.int .i64 (zi y2.size)), .sc (.string (ByteArray.mk #[]))]]) (pu IntKind.u8 (nxP (NX.mk y7 (EV.mk (pu IntKind.u8 (dlB (DV.mk a_D a_U y6 y6 y7 kind [.st 113 [.sc (.int .i64 2), .sc (.int .i64 0), .sc (.string (ByteArray.mk (Array.mk (u8l [120]))))], .st 113 [.sc (.int .i64 1), .sc (.int .i64 (zi y2.size)), .sc (.string (ByteArray.mk #[]))]] 0 0))) (pu IntKind.u8 (mcK (MK.mk [.ro 5 k0_z k0_f k0, .ro 5 k1_z k1_f k1, .ro 5 k2_z k2_f k2] a_D (dlB (DV.mk a_D a_U y6 y6 y7 kind [.st 113 [.sc (.int .i64 2), .sc (.int .i64 0), .sc (.string (ByteArray.mk (Array.mk (u8l [120]))))], .st 113 [.sc (.int .i64 1), .sc (.int .i64 (zi y2.size)), .sc (.string (ByteArray.mk #[]))]] 0 0))))) y6 [.st 113 [.sc (.int .i64 2), .sc (.int .i64 0), .sc (.string (ByteArray.mk (Array.mk (u8l [120]))))], .st 113 [.sc (.int .i64 1), .sc (.int .i64 (zi y2.size)), .sc (.string (ByteArray.mk #[]))]])))))))]) [] []) else none else none else bif dOk (DV.mk a_D a_U y6 y6 y7 kind [.st 113 [.sc (.int .i64 2), .sc (.int .i64 0), .sc (.string (ByteArray.mk (Array.mk (u8l [120]))))]] 0 0) && (kO3 [.ro 5 k0_z k0_f k0, .ro 5 k1_z k1_f k1, .ro 5 k2_z k2_f k2] && kIn a_D) then bif kIn y0 && eOk (EV.mk (pu IntKind.u8 (dlB (DV.mk a_D a_U y6 y6 y7 kind [.st 113 [.sc (.int .i64 2), .sc (.int .i64 0), .sc (.string (ByteArray.mk (Array.mk (u8l [120]))))]] 0 0))) (pu IntKind.u8 (mcK (MK.mk [.ro 5 k0_z k0_f k0, .ro 5 k1_z k1_f k1, .ro 5 k2_z k2_f k2] a_D (dlB (DV.mk a_D a_U y6 y6 y7 kind [.st 113 [.sc (.int .i64 2), .sc (.int .i64 0), .sc (.string (ByteArray.mk (Array.mk (u8l [120]))))]] 0 0))))) y6 [.st 113 [.sc (.int .i64 2), .sc (.int .i64 0), .sc (.string (ByteArray.mk (Array.mk (u8l [120]))))]]) && (h32 y7 && kO3 [.ro 5 k0_z k0_f k0, .ro 5 k1_z k1_f k1, .ro 5 k2_z k2_f k2]) then k (Res.mk (.st 51 [.st 47 [.ro 5 false false (pu IntKind.u8 (dlB (DV.mk a_D a_U y6 y6 y7 kind [.st 113 [.sc (.int .i64 2), .sc (.int .i64 0), .sc (.string (ByteArray.mk (Array.mk (u8l [120]))))]] 0 0))), .ar 37 (pu IntKind.u8 (mcK (MK.mk [.ro 5 k0_z k0_f k0, .ro 5 k1_z k1_f k1, .ro 5 k2_z k2_f k2] a_D (dlB (DV.mk a_D a_U y6 y6 y7 kind [.st 113 [.sc (.int .i64 2), .sc (.int .i64 0), .sc (.string (ByteArray.mk (Array.mk (u8l [120]))))]] 0 0)))))], .sc (.int .i64 y6), .ro 113 false false [.st 113 [.sc (.int .i64 2), .sc (.int .i64 0), .sc (.string (ByteArray.mk (Array.mk (u8l [120]))))]], .ar 37 (pu IntKind.u8 (nxP (NX.mk y7 (EV.mk (pu IntKind.u8 (dlB (DV.mk a_D a_U y6 y6 y7 kind [.st 113 [.sc (.int .i64 2), .sc (.int .i64 0), .sc (.string (ByteArray.mk (Array.mk (u8l [120]))))]] 0 0))) (pu IntKind.u8 (mcK (MK.mk [.ro 5 k0_z k0_f k0, .ro 5 k1_z k1_f k1, .ro 5 k2_z k2_f k2] a_D (dlB (DV.mk a_D a_U y6 y6 y7 kind [.st 113 [.sc (.int .i64 2), .sc (.int .i64 0), .sc (.string (ByteArray.mk (Array.mk (u8l [120]))))]] 0 0))))) y6 [.st 113 [.sc (.int .i64 2), .sc (.int .i64 0), .sc (.string (ByteArray.mk (Array.mk (u8l [120]))))]])))), .ar 37 (pu IntKind.u8 (emP (EM.mk [.ro 5 k0_z k0_f k0, .ro 5 k1_z k1_f k1, .ro 5 k2_z k2_f k2] y0 (EV.mk (pu IntKind.u8 (dlB (DV.mk a_D a_U y6 y6 y7 kind [.st 113 [.sc (.int .i64 2), .sc (.int .i64 0), .sc (.string (ByteArray.mk (Array.mk (u8l [120]))))]] 0 0))) (pu IntKind.u8 (mcK (MK.mk [.ro 5 k0_z k0_f k0, .ro 5 k1_z k1_f k1, .ro 5 k2_z k2_f k2] a_D (dlB (DV.mk a_D a_U y6 y6 y7 kind [.st 113 [.sc (.int .i64 2), .sc (.int .i64 0), .sc (.string (ByteArray.mk (Array.mk (u8l [120]))))]] 0 0))))) y6 [.st 113 [.sc (.int .i64 2), .sc (.int .i64 0), .sc (.string (ByteArray.mk (Array.mk (u8l [120]))))]]) (pu IntKind.u8 (nxP (NX.mk y7 (EV.mk (pu IntKind.u8 (dlB (DV.mk a_D a_U y6 y6 y7 kind [.st 113 [.sc (.int .i64 2), .sc (.int .i64 0), .sc (.string (ByteArray.mk (Array.mk (u8l [120]))))]] 0 0))) (pu IntKind.u8 (mcK (MK.mk [.ro 5 k0_z k0_f k0, .ro 5 k1_z k1_f k1, .ro 5 k2_z k2_f k2] a_D (dlB (DV.mk a_D a_U y6 y6 y7 kind [.st 113 [.sc (.int .i64 2), .sc (.int .i64 0), .sc (.string (ByteArray.mk (Array.mk (u8l [120]))))]] 0 0))))) y6 [.st 113 [.sc (.int .i64 2), .sc (.int .i64 0), .sc (.string (ByteArray.mk (Array.mk (u8l [120]))))]])))))))]) [] []) else none else none else bif dOk (DV.mk a_D a_U y6 y6 y7 kind [] y8 y9) && (kO3 [.ro 5 k0_z k0_f k0, .ro 5 k1_z k1_f k1, .ro 5 k2_z k2_f k2] && kIn a_D) then bif kIn y0 && eOk (EV.mk (pu IntKind.u8 (dlB (DV.mk a_D a_U y6 y6 y7 kind [] y8 y9))) (pu IntKind.u8 (mcK (MK.mk [.ro 5 k0_z k0_f k0, .ro 5 k1_z k1_f k1, .ro 5 k2_z k2_f k2] a_D (dlB (DV.mk a_D a_U y6 y6 y7 kind [] y8 y9))))) y6 []) && (h32 y7 && kO3 [.ro 5 k0_z k0_f k0, .ro 5 k1_z k1_f k1, .ro 5 k2_z k2_f k2]) then k (Res.mk (.st 51 [.st 47 [.ro 5 false false (pu IntKind.u8 (dlB (DV.mk a_D a_U y6 y6 y7 kind [] y8 y9))), .ar 37 (pu IntKind.u8 (mcK (MK.mk [.ro 5 k0_z k0_f k0, .ro 5 k1_z k1_f k1, .ro 5 k2_z k2_f k2] a_D (dlB (DV.mk a_D a_U y6 y6 y7 kind [] y8 y9)))))], .sc (.int .i64 y6), .ro 113 false false [], .ar 37 (pu IntKind.u8 (nxP (NX.mk y7 (EV.mk (pu IntKind.u8 (dlB (DV.mk a_D a_U y6 y6 y7 kind [] y8 y9))) (pu IntKind.u8 (mcK (MK.mk [.ro 5 k0_z k0_f k0, .ro 5 k1_z k1_f k1, .ro 5 k2_z k2_f k2] a_D (dlB (DV.mk a_D a_U y6 y6 y7 kind [] y8 y9))))) y6 [])))), .ar 37 (pu IntKind.u8 (emP (EM.mk [.ro 5 k0_z k0_f k0, .ro 5 k1_z k1_f k1, .ro 5 k2_z k2_f k2] y0 (EV.mk (pu IntKind.u8 (dlB (DV.mk a_D a_U y6 y6 y7 kind [] y8 y9))) (pu IntKind.u8 (mcK (MK.mk [.ro 5 k0_z k0_f k0, .ro 5 k1_z k1_f k1, .ro 5 k2_z k2_f k2] a_D (dlB (DV.mk a_D a_U y6 y6 y7 kind [] y8 y9))))) y6 []) (pu IntKind.u8 (nxP (NX.mk y7 (EV.mk (pu IntKind.u8 (dlB (DV.mk a_D a_U y6 y6 y7 kind [] y8 y9))) (pu IntKind.u8 (mcK (MK.mk [.ro 5 k0_z k0_f k0, .ro 5 k1_z k1_f k1, .ro 5 k2_z k2_f k2] a_D (dlB (DV.mk a_D a_U y6 y6 y7 kind [] y8 y9))))) y6 [])))))))]) [] []) else none else none
theorem e19 (f : Nat) (k0_z k0_f : Bool) (k0 : List PV) (k1_z k1_f : Bool) (k1 : List PV) (k2_z k2_f : Bool) (k2 : List PV) (y0 y1 : Int) (y2 : ByteArray) (y3 y4 : Bool) (y5 : List PV) (y6 : Int) (y7 : List PV) (a_D a_U kind y8 y9 : Int) (k : Res -> Option Res) : JM tau F19 Try.f19 (Try.f19.body.get!) JqM [.ro] 0 [.st 31 [.ro 5 k0_z k0_f k0, .ro 5 k1_z k1_f k1, .ro 5 k2_z k2_f k2], .st 58 [.st 34 [.sc (.int .i64 y0), .sc (.int .i64 y1)], .sc (.string y2), .ro 42 y3 y4 y5, .sc (.int .i64 y6), .ar 37 y7], .st 42 [.sc (.int .i64 a_D), .sc (.int .i64 a_U)], .sc (.int .i64 kind), .st 42 [.sc (.int .i64 y8), .sc (.int .i64 y9)]] [] k = g19 f k0_z k0_f k0 k1_z k1_f k1 k2_z k2_f k2 y0 y1 y2 y3 y4 y5 y6 y7 a_D a_U kind y8 y9 k := by kernel_rfl
theorem JDS (f : Nat) : Je (Try.f19.body.get!) JqM = [] := by kernel_rfl
theorem JDT (f : Nat) : ∀ q ∈ Je (Try.f19.body.get!) JqM, q.Ok tau Try.prog 0 := by
 rw [JDS f]; intro q hq; cases hq
theorem JAK : Try.prog.funcs[19]? = some Try.f19 := by kernel_rfl
theorem JAL : Try.f19.body = some (Try.f19.body.get!) := by kernel_rfl
theorem JDU : Enters Try.prog 19 := enters_of JAK (by kernel_rfl) JAL
def JnD : List PV -> List Ent -> (Res -> Option Res) -> Option Res
 | [.st 31 [.ro 5 k0_z k0_f k0, .ro 5 k1_z k1_f k1, .ro 5 k2_z k2_f k2], .st 58 [.st 34 [.sc (.int .i64 y0), .sc (.int .i64 y1)], .sc (.string y2), .ro 42 y3 y4 y5, .sc (.int .i64 y6), .ar 37 y7], .st 42 [.sc (.int .i64 a_D), .sc (.int .i64 a_U)], .sc (.int .i64 kind), .st 42 [.sc (.int .i64 y8), .sc (.int .i64 y9)]], [], k => g19 0 k0_z k0_f k0 k1_z k1_f k1 k2_z k2_f k2 y0 y1 y2 y3 y4 y5 y6 y7 a_D a_U kind y8 y9 k
 | _, _, _ => none
def s19 : Sig := { own := [], run := JnD }
theorem JDV : Jh tau Try.prog 19 s19 := JW Jr Jvl Js JAK JAL JqM [.ro] 0 [] JnD (JDT 0) fun xs es k res hr => by
 unfold JnD at hr
 split at hr
 · exact ⟨rfl, 0, (e19 0 _ _ _ _ _ _ _ _ _ _ _ _ _ _ _ _ _ _ _ _ _ _  _).trans hr⟩
 · cases hr


-- FN law4.within

-- FN law4.Make

-- FN
theorem JnE {c : CV} (h : ckC c = 0) : 1 <= c.kd /\ c.kd <= 3 /\ 0 <= c.n /\ c.n <= 120 /\ c.s.size <= 120 := by
 rw [Y2] at h
 unfold JfL at h
 cases h1 : (c.kd == 1 || c.kd == 3) with
 | true =>
  rw [h1, cond_true] at h
  cases h2 : (decide (c.n < 1) || (decide (c.n > 120) || !(c.s.size == 0))) with
  | true => rw [h2, cond_true] at h; exact absurd h (by decide)
  | false =>
   simp only [Bool.or_eq_false_iff, decide_eq_false_iff_not, Bool.not_eq_false', beq_iff_eq] at h2
   simp only [Bool.or_eq_true, beq_iff_eq] at h1
   omega
 | false =>
  rw [h1, cond_false] at h
  cases h3 : (c.kd == 2) with
  | false => rw [h3, cond_false] at h; exact absurd h (by decide)
  | true =>
   rw [h3, cond_true] at h
   cases h2 : (!(c.n == 0) || c.s.size == 0) with
   | true => rw [h2, cond_true] at h; exact absurd h (by decide)
   | false =>
    rw [h2, cond_false] at h
    cases h4 : decide (zi c.s.size > 120) with
    | true => rw [h4, cond_true] at h; exact absurd h (by decide)
    | false =>
     simp only [Bool.or_eq_false_iff, Bool.not_eq_false', beq_iff_eq] at h2
     simp only [zi, decide_eq_false_iff_not] at h4
     simp only [beq_iff_eq] at h3
     omega
theorem JgD : ∀ {l : List PV}, ckL l = 0 -> ∀ p ∈ l, ckC (cv p) = 0
 | [], _, p, hp => by cases hp
 | q :: r, h, p, hp => by
  simp only [ckL] at h
  cases hq : (ckC (cv q) == 0) with
  | false => rw [hq, cond_false] at h; rw [h] at hq; exact absurd hq (by decide)
  | true =>
   rw [hq, cond_true] at h
   rcases List.mem_cons.1 hp with rfl | hp
   · simpa using hq
   · exact JgD h p hp
theorem JnF {l : List PV} (h : ckO l = 0) : l.length <= 40 /\ ∀ p ∈ l, ckC (cv p) = 0 := by
 rw [GZ] at h
 unfold Jhr at h
 cases hc : decide (zi l.length > 40) with
 | true => rw [hc, cond_true] at h; exact absurd h (by decide)
 | false =>
  rw [hc, cond_false] at h
  simp only [zi, decide_eq_false_iff_not] at hc
  exact ⟨by omega, JgD h⟩
theorem QP {n : Int} (h : -1000000000000 <= n) (h2 : n <= 1000000000000) : i64B n = true := by
 unfold i64B; simp only [Bool.and_eq_true, decide_eq_true_eq]; omega
theorem Jcv {n : Int} (h : 0 <= n) (h2 : n < 256) : IntKind.u8.wrap n = n := by
 have := W9 n; omega
theorem JqN {p : PV} (h : isCp p = true) (hc : ckC (cv p) = 0) (r : List PV) : cpV ⟨pu .u8 (Ze (cv p)) ++ r, 0⟩ = p /\ cpN ⟨pu .u8 (Ze (cv p)) ++ r, 0⟩ = ⟨r, 0⟩ := by
 obtain ⟨kd, n, s, rfl⟩ := JbP.1 h
 have hz := JnE hc
 have hcv : cv (.st 113 [.sc (.int .i64 kd), .sc (.int .i64 n), .sc (.string s)]) = ⟨kd, n, s⟩ := rfl
 rw [hcv] at hz ⊢
 simp only at hz
 have e1 : pu .u8 (Ze ⟨kd, n, s⟩) ++ r = pu .u8 [IntKind.u8.wrap kd] ++ (pu .u8 (JT n) ++ (pu .u8 (Qn s) ++ r)) := by
  simp only [Ze, JQ, List.append_assoc]
 obtain ⟨t1, t2⟩ := JjR (t := s) (by omega) r
 rw [e1]
 unfold cpV cpN
 rw [Jci, ZZ, YD (QP (by omega) (by omega)), QG, t1, t2, Jcv (by omega) (by omega)]
 exact ⟨rfl, rfl⟩
theorem JgE : ∀ (l : List PV) (r : List PV), l.all isCp = true -> (∀ p ∈ l, ckC (cv p) = 0) -> cpL l.length ⟨pu .u8 (Qb l) ++ r, 0⟩ = l /\ cpR l.length ⟨pu .u8 (Qb l) ++ r, 0⟩ = ⟨r, 0⟩
 | [], r, _, _ => ⟨rfl, by simp [Qb, cpR]⟩
 | p :: l, r, h, hc => by
  rw [List.all_cons, Bool.and_eq_true] at h
  have e : pu .u8 (Qb (p :: l)) ++ r = pu .u8 (Ze (cv p)) ++ (pu .u8 (Qb l) ++ r) := by
   simp only [Qb, List.flatMap_cons, JQ, List.append_assoc]
  obtain ⟨a, b⟩ := JqN h.1 (hc p List.mem_cons_self) (pu .u8 (Qb l) ++ r)
  obtain ⟨c, d⟩ := JgE l r h.2 fun q hq => hc q (List.mem_cons_of_mem _ hq)
  rw [e, List.length_cons, cpL, cpR, a, b, c, d]
  exact ⟨rfl, rfl⟩
theorem JqO {l : List PV} (h : l.all isCp = true) (hc : ckO l = 0) : opE (pu .u8 (opB l)) = 0 /\ opL (pu .u8 (opB l)) = l := by
 obtain ⟨h1, h2⟩ := JnF hc
 have e : pu .u8 (opB l) = pu .u8 [IntKind.u8.wrap (zi l.length)] ++ (pu .u8 (Qb l) ++ []) := by
  rw [G9, JhR]; simp only [JQ, List.append_nil]
 have hw : IntKind.u8.wrap (zi l.length) = (l.length : Int) := Jcv (by simp only [zi]; omega) (by simp only [zi]; omega)
 have hn : JB 1 ⟨pu .u8 (opB l), 0⟩ = (l.length : Int) := by rw [e, Jci, hw]
 have hs : Jb 1 ⟨pu .u8 (opB l), 0⟩ = ⟨pu .u8 (Qb l) ++ [], 0⟩ := by rw [e, ZZ]
 have hd : decide ((l.length : Int) > 40) = false := by simp; omega
 have hN : opN (pu .u8 (opB l)) = l.length := by unfold opN; rw [hn, hd, cond_false, Int.toNat_natCast]
 have hS : opS (pu .u8 (opB l)) = ⟨pu .u8 (Qb l) ++ [], 0⟩ := by unfold opS; rw [hn, hd, cond_false, hs]
 obtain ⟨a, b⟩ := JgE l [] h h2
 have hE : Gp (pu .u8 (opB l)) = 0 := by unfold Gp; rw [hN, hS, a, b, hc]; rfl
 rw [Jh8, JeJ, hE, hN, hS, a]
 exact ⟨rfl, rfl⟩
theorem JnG {d : DV} (h : dCk d = 0) : (0 <= d.ad /\ d.ad <= 2) /\ (0 <= d.au /\ d.au <= 7) /\ (0 <= d.id /\ d.id <= 1073741824) /\ (0 <= d.ve /\ d.ve <= 1048576) /\ (1 <= d.kd /\ d.kd <= 3) /\ ckO d.o = 0 /\ (0 <= d.wd /\ d.wd <= 2) /\ (0 <= d.wu /\ d.wu <= 7) := by
 have hnil : ckO [] = 0 := by rw [GZ]; rfl
 rw [JeI] at h
 unfold JkI at h
 cases h1 : (inZ d.ad 2 && (inZ d.au 7 && (inZ d.id 1073741824 && inZ d.ve 1048576))) with
 | false => rw [h1, cond_false] at h; exact absurd h (by decide)
 | true =>
  rw [h1, cond_true] at h
  simp only [Xt, Bool.and_eq_true, decide_eq_true_eq] at h1
  cases hk : (d.kd == 1) with
  | true =>
   rw [hk, cond_true] at h
   cases hc : (ckO d.o == 0) with
   | false => rw [hc, cond_false] at h; rw [h] at hc; exact absurd hc (by decide)
   | true =>
    rw [hc, cond_true] at h
    cases hw : (d.wd == 0 && d.wu == 0) with
    | false => rw [hw, cond_false] at h; exact absurd h (by decide)
    | true =>
     simp only [Bool.and_eq_true, beq_iff_eq] at hw hk hc
     refine ⟨by omega, by omega, by omega, by omega, by omega, hc, by omega, by omega⟩
  | false =>
   rw [hk, cond_false] at h
   cases hk2 : (d.kd == 2 || d.kd == 3) with
   | false => rw [hk2, cond_false] at h; exact absurd h (by decide)
   | true =>
    rw [hk2, cond_true] at h
    cases hw : (d.o.isEmpty && (inZ d.wd 2 && inZ d.wu 7)) with
    | false => rw [hw, cond_false] at h; exact absurd h (by decide)
    | true =>
     simp only [Bool.and_eq_true, Bool.or_eq_true, beq_iff_eq, Xt, decide_eq_true_eq, List.isEmpty_iff] at hw hk2
     refine ⟨by omega, by omega, by omega, by omega, by omega, by rw [hw.1]; exact hnil, by omega, by omega⟩
theorem JnH {d : DV} (ho : dOk d = true) (hb : byB d.h = true) (hc : dCk d = 0) :
  dE (pu .u8 (dlB d)) = 0 /\ dv (pu .u8 (dlB d)) = d := by
 obtain ⟨o1, o2, o3, o4⟩ := Wi.1 ho
 obtain ⟨c1, c2, c3, c4, c5, c6, c7, c8⟩ := JnG hc
 have hcp : d.o.all isCp = true := (ZV.1 o3).1
 obtain ⟨q1, q2⟩ := JqO hcp c6
 have hbI : ∀ x ∈ Ju d.h, 0 <= x /\ x < 256 := (Wy.1 hb).2
 have hl : (Ju d.h).length = 32 := by rw [QT]; exact o2
 have e : pu .u8 (dlB d) = pu .u8 (JT d.ad) ++ (pu .u8 (JT d.au) ++ (pu .u8 (JT d.id) ++ (pu .u8 (JT d.ve) ++ (pu .u8 (Ju d.h) ++ (pu .u8 [IntKind.u8.wrap d.kd] ++ (pu .u8 (Qn (tx (pu .u8 (opB d.o)))) ++ (pu .u8 (JT d.wd) ++ (pu .u8 (JT d.wu) ++ [])))))))) := by
  rw [JeH, JkH]; simp only [JQ, List.append_assoc, List.append_nil]
 generalize hB : pu .u8 (dlB d) = B at *
 have n1 : JB 8 ⟨B, 0⟩ = d.ad := by rw [e]; exact YD (QP (by omega) (by omega)) _
 have s1 : Jb 8 ⟨B, 0⟩ = ⟨pu .u8 (JT d.au) ++ (pu .u8 (JT d.id) ++ (pu .u8 (JT d.ve) ++ (pu .u8 (Ju d.h) ++ (pu .u8 [IntKind.u8.wrap d.kd] ++ (pu .u8 (Qn (tx (pu .u8 (opB d.o)))) ++ (pu .u8 (JT d.wd) ++ (pu .u8 (JT d.wu) ++ []))))))), 0⟩ := by rw [e]; exact QG _ _
 obtain ⟨r1, r2⟩ := JmU (Ju d.h) (pu .u8 [IntKind.u8.wrap d.kd] ++ (pu .u8 (Qn (tx (pu .u8 (opB d.o)))) ++ (pu .u8 (JT d.wd) ++ (pu .u8 (JT d.wu) ++ [])))) hbI
 rw [hl] at r1 r2
 have hd4 : d4 B = ⟨pu .u8 (Ju d.h) ++ (pu .u8 [IntKind.u8.wrap d.kd] ++ (pu .u8 (Qn (tx (pu .u8 (opB d.o)))) ++ (pu .u8 (JT d.wd) ++ (pu .u8 (JT d.wu) ++ [])))), 0⟩ := by
  unfold d4; rw [s1, QG, QG, QG]
 have hd5 : d5 B = ⟨pu .u8 [IntKind.u8.wrap d.kd] ++ (pu .u8 (Qn (tx (pu .u8 (opB d.o)))) ++ (pu .u8 (JT d.wd) ++ (pu .u8 (JT d.wu) ++ []))), 0⟩ := by
  unfold d5; rw [hd4, hashS_eq]; exact r1
 have hV : hashV (d4 B) = Ju d.h := by rw [hd4, hashV_eq]; exact r2
 obtain ⟨t1, t2⟩ := JjR (t := tx (pu .u8 (opB d.o))) (by rw [WJ, JD]; exact o4) (pu .u8 (JT d.wd) ++ (pu .u8 (JT d.wu) ++ []))
 have hd7 : d7 B = ⟨pu .u8 (JT d.wd) ++ (pu .u8 (JT d.wu) ++ []), 0⟩ := by unfold d7; rw [hd5, ZZ, t2]
 have hd9 : d9 B = ⟨[], 0⟩ := by unfold d9; rw [hd7, QG, QG]
 have hdt : dt B = pu .u8 (opB d.o) := by
  unfold dt; rw [hd5, ZZ, t1]
  exact Jp1 _ (Jeo.2 (JtM d.o))
 have hdv : dv B = d := by
  have h0 : dv B = ⟨JB 8 ⟨B, 0⟩, JB 8 (Jb 8 ⟨B, 0⟩), JB 8 (Jb 8 (Jb 8 ⟨B, 0⟩)), JB 8 (Jb 8 (Jb 8 (Jb 8 ⟨B, 0⟩))), pu .u8 (hashV (d4 B)), JB 1 (d5 B), opL (dt B), JB 8 (d7 B), JB 8 (Jb 8 (d7 B))⟩ := rfl
  rw [h0, n1, s1, YD (QP (by omega) (by omega)), QG, YD (QP (by omega) (by omega)), QG, YD (QP (by omega) (by omega)), hV, hd5, Jci, hdt, q2, hd7, YD (QP (by omega) (by omega)), QG, YD (QP (by omega) (by omega)), Jcv (by omega) (by omega), ← Ql o1]
 refine ⟨?_, hdv⟩
 rw [JjF]
 unfold dE0
 rw [hd9, hdt, q1, hdv, hc]; rfl
theorem JgF {b : List PV} {d : DV} (h : dE b = 0) (hv : dv b = d) (h1 : Jl .u8 d.h = true) :
   dF 0 b = d.ad /\ dF 1 b = d.au /\ dF 2 b = d.id /\ dF 3 b = d.ve /\ dF 4 b = d.kd /\ dF 5 b = d.wd /\ dF 6 b = d.wu /\ pu .u8 (dH b) = d.h /\ dO b = d.o := by
 have h0 : dE0 b = 0 := by rw [← JjF]; exact h
 have a : ∀ i, dF i b = dN b i := fun i => by rw [Jmo, h0]; rfl
 have hh : pu .u8 (dH b) = (dv b).h := by rw [Jmp, h0]; rfl
 have ho : dO b = (dv b).o := by rw [Jmq, h0]; rfl
 refine ⟨?_, ?_, ?_, ?_, ?_, ?_, ?_, ?_, ?_⟩
 · rw [a, ← hv]; rfl
 · rw [a, ← hv]; rfl
 · rw [a, ← hv]; rfl
 · rw [a, ← hv]; rfl
 · rw [a, ← hv]; rfl
 · rw [a, ← hv]; rfl
 · rw [a, ← hv]; rfl
 · rw [hh, hv]
 · rw [ho, hv]
-- FN
theorem JnI (d : DV) (h : byB d.h = true := by rfl) : byB (pu .u8 (dlB d)) = true := by
 rw [Jeo]
 intro x hx
 rw [JeH] at hx
 simp only [JkH, List.mem_append, List.mem_singleton] at hx
 rcases hx with h1 | h1 | h1 | h1 | h1 | h1 | h1 | h1 | h1
 · exact Ye _ x h1
 · exact Ye _ x h1
 · exact Ye _ x h1
 · exact Ye _ x h1
 · exact (Wy.1 h).2 x h1
 · rw [h1]; exact Yd _
 · exact Jf1 _ x h1
 · exact Ye _ x h1
 · exact Ye _ x h1
-- FN (law13.Step).Entry
structure SP where
 (kd by1 who : Int) (ns : List PV)
structure SX where
 (p : SP) (K : List PV) (s : SV) (id : Int)
def spOk : SP -> Bool := hid fun p => Jl .i64 p.ns && decide (p.ns.length <= 9223372036854775807)
theorem JnJ {p : SP} : spOk p = true ↔ Jl .i64 p.ns = true /\ p.ns.length <= 9223372036854775807 := by
 rw [spOk, hid_eq]; simp only [Bool.and_eq_true, decide_eq_true_eq]
def twA (n : Int) : AV := ⟨n % 3, IntKind.i64.wrap (n.tdiv 3) % 4⟩
def seA (p : SP) (l : List PV) : AV := bif decide (zi l.length > 0) && decide (p.by1 % 9 > 0) then av (l.getD (p.by1 % zi l.length).toNat .top) else twA p.by1
def seV (x : SX) : DV :=
 bif x.p.kd % 6 == 4 then ⟨(seA x.p x.s.l).d, (seA x.p x.s.l).u, x.id, x.s.ver, x.s.hash, 2, [], (twA x.p.who).d, (twA x.p.who).u⟩
 else bif x.p.kd % 6 == 5 then ⟨(seA x.p x.s.l).d, (seA x.p x.s.l).u, x.id, x.s.ver, x.s.hash, 3, [], (twA x.p.who).d, (twA x.p.who).u⟩
 else ⟨(seA x.p x.s.l).d, (seA x.p x.s.l).u, x.id, x.s.ver, x.s.hash, 1, JdC ⟨zi x.s.doc.size, x.p.ns⟩, 0, 0⟩
def enV (K : List PV) (s : SV) (d : DV) : EV := ⟨pu .u8 (dlB d), pu .u8 (mcK ⟨K, d.ad, dlB d⟩), s.ver, d.o⟩
def enW (K : List PV) (s : SV) (d : DV) : EW := ⟨pu .u8 (dlB d), pu .u8 (mcK ⟨K, d.ad, dlB d⟩), s.ver, d.o, pu .u8 (nxP ⟨s.hash, enV K s d⟩), pu .u8 (emP ⟨K, s.ih, enV K s d, pu .u8 (nxP ⟨s.hash, enV K s d⟩)⟩)⟩
def ewP (w : EW) : PV := .st 51 [.st 47 [.ro 5 false false w.b, .ar 37 w.m], .sc (.int .i64 w.at1), .ro 113 false false w.o, .ar 37 w.h, .ar 37 w.mc]
def seW (x : SX) : EW := enW x.K x.s (seV x)
theorem JnK {d u : Int} (h : inA [d, 2, u, 7] = true) : (0 <= d /\ d <= 2) /\ 0 <= u /\ u <= 7 := by
 rw [Ji1] at h
 simp only [Xt, Bool.and_eq_true, decide_eq_true_eq] at h
 omega
theorem Jvm {p : SP} {l : List PV} (h : uOk l = true) : (0 <= (seA p l).d /\ (seA p l).d <= 2) /\ 0 <= (seA p l).u /\ (seA p l).u <= 7 := by
 unfold seA
 cases hc : (decide (zi l.length > 0) && decide (p.by1 % 9 > 0)) with
 | false =>
  obtain ⟨a, b⟩ := Z0 p.by1 (m := 3) (by decide)
  obtain ⟨c, d⟩ := Z0 (IntKind.i64.wrap (p.by1.tdiv 3)) (m := 4) (by decide)
  simp only [cond_false, twA]; omega
 | true =>
  rw [Bool.and_eq_true, decide_eq_true_eq] at hc
  have hz : zi l.length = (l.length : Int) := rfl
  obtain ⟨a, b⟩ := Z0 p.by1 (m := zi l.length) (by omega)
  have hi : (p.by1 % zi l.length).toNat < l.length := by omega
  rw [cond_true, List.getD_eq_getElem?_getD, List.getElem?_eq_getElem hi]
  exact JnK (List.all_eq_true.1 h _ (List.getElem_mem hi))
theorem Jvn {x : SX} (hs : sOk x.s = true) (hp : spOk x.p = true) : dOk (seV x) = true /\ (opB (seV x).o).length <= 400 /\ cBy (seV x).o = true /\ cOk (seV x).o = true /\ kIn (seV x).ad = true /\ (seV x).h = x.s.hash := by
 obtain ⟨s1, s2, s3, s4, s5, s6⟩ := WN.1 hs
 obtain ⟨p1, p2⟩ := JnJ.1 hp
 have ha := Jvm (p := x.p) s6
 have hk : kIn (seA x.p x.s.l).d = true := by rw [Jcf]; simp only [WE, Bool.and_eq_true, decide_eq_true_eq]; omega
 obtain ⟨h1, h2⟩ := h32_iff.1 s2
 have nil := Jcg (done := 0) (by decide)
 have n1 := Jil (Xu nil (by decide : (0 : Int) <= 14))
 have n2 := Jim (Xu nil (by decide : (0 : Int) <= 14))
 have mk := JmH (n := zi x.s.doc.size) x.p.ns (by simp only [zi]; omega) (by simp only [zi]; omega)
 have m1 := Jil mk
 have m2 := Jim mk
 have m3 : cOk (JdC ⟨zi x.s.doc.size, x.p.ns⟩) = true := Wx.2 ⟨List.all_eq_true.2 mk.cp, by have := mk.len; omega⟩
 unfold seV
 cases x.p.kd % 6 == 4 with
 | true => exact ⟨Wi.2 ⟨h1, h2, n1, by show (opB []).length <= _; omega⟩, n2, n1, Wx.2 ⟨rfl, Nat.zero_le _⟩, hk, rfl⟩
 | false =>
  cases x.p.kd % 6 == 5 with
  | true => exact ⟨Wi.2 ⟨h1, h2, n1, by show (opB []).length <= _; omega⟩, n2, n1, Wx.2 ⟨rfl, Nat.zero_le _⟩, hk, rfl⟩
  | false => exact ⟨Wi.2 ⟨h1, h2, m1, by show (opB (JdC ⟨zi x.s.doc.size, x.p.ns⟩)).length <= _; omega⟩, m2, m1, m3, hk, rfl⟩
theorem JiF {K : List PV} {s : SV} {d : DV} (h : dOk d = true) (h2 : (opB d.o).length <= 400) (h3 : cBy d.o = true) : eOk (enV K s d) = true :=
 WK.2 ⟨JN _ _, by show (pu .u8 (dlB d)).length <= _; rw [JD, Vu h]; omega, JN _ _, by show (pu .u8 (mcK ⟨K, d.ad, dlB d⟩)).length = 32; rw [JD]; exact Jif _, h3, by show (opB d.o).length <= _; omega⟩
theorem JnL {x : SX} (hs : sOk x.s = true) (hp : spOk x.p = true) (hb : byB x.s.hash = true) : eD (seW x) = true := by
 obtain ⟨v1, v2, v3, v4, v5, v6⟩ := Jvn hs hp
 refine Jaf.2 ⟨JnI _ (by rw [v6]; exact hb), JiF v1 v2 v3, v4, h32_iff.2 ⟨JN _ _, ?_⟩⟩
 show (pu .u8 (nxP ⟨x.s.hash, enV x.K x.s (seV x)⟩)).length = 32
 rw [JD]; exact YA _
-- FN
def isStt : PV -> Bool
 | .st t [.st t2 [.sc (.int .i64 _), .sc (.int .i64 _)], .sc (.string _), .ro t3 _ _ _, .sc (.int .i64 _), .ar t4 _] => t == 58 && (t2 == 34 && (t3 == 42 && t4 == 37))
 | _ => false
def sv (p : PV) : SV := ⟨((p.child 0).child 0).int, ((p.child 0).child 1).int, (p.child 1).str, (p.child 2).els, (p.child 3).int, (p.child 4).els⟩
theorem JdK {p : PV} : isStt p = true ↔ ∃ s z f, p = stP s z f := by
 constructor
 · intro h
   unfold isStt at h
   split at h
   · rename_i t t2 a b d t3 z f l v t4 hs
     simp only [Bool.and_eq_true, beq_iff_eq] at h
     obtain ⟨rfl, rfl, rfl, rfl⟩ := h
     exact ⟨⟨a, b, d, l, v, hs⟩, z, f, rfl⟩
   · cases h
 · rintro ⟨s, z, f, rfl⟩; rfl
def sp (p : PV) : SP := ⟨(p.child 0).int, (p.child 1).int, (p.child 2).int, (p.child 3).els⟩
def stpX (K : List PV) (p : SP) (i : Int) (s : SV) : DX := ⟨s, seW ⟨p, K, s, i⟩⟩
def stpN (K : List PV) (p : SP) (i : Int) (q : PV) : PV := stP (dsS (stpX K p i (sv q))) (dsZ (stpX K p i (sv q)) (q.child 2).nl) (dsF (stpX K p i (sv q)) (q.child 2).fl)
def bld (K : List PV) : List PV -> Int -> PV -> List (PV × PV)
 | [], _, _ => []
 | p :: ps, i, q =>
  bif dsE0 (stpX K (sp p) i (sv q)) == 0 then (ewP (seW ⟨sp p, K, sv q, i⟩), stpN K (sp p) i q) :: bld K ps (i + 1) (stpN K (sp p) i q)
  else bld K ps (i + 1) q
structure BOk (i : Int) (q : PV) : Prop where
 st : isStt q = true
 ok : sOk (sv q) = true
 by1 : byB (sv q).hash = true
 ih : (sv q).ih = 0
 iN : (sv q).iN = 3
 ver : (sv q).ver <= i
theorem Jkf (bs : List Int) : ∀ x ∈ JL bs, 0 <= x /\ x < 256 := by
 intro x hx
 rw [Jbc] at hx
 obtain ⟨i, _, rfl⟩ := List.mem_map.1 hx
 exact Yd _
theorem JnM (x : NX) : byB (pu .u8 (nxP x)) = true := Jeo.2 (by rw [JeN]; exact Jkf _)
theorem BOk.next {K : List PV} {p : SP} {i : Int} {q : PV} (h : BOk i q) (hp : spOk p = true) (hi : i < 1000) (h0 : 0 <= i) : BOk (i + 1) (stpN K p i q) where
 st := rfl
 ok := by
  show sOk (dsS (stpX K p i (sv q))) = true
  exact JjT (x := stpX K p i (sv q)) h.ok (JnL (x := ⟨p, K, sv q, i⟩) h.ok hp h.by1) (by have := h.ver; show (sv q).ver < 1000000; omega)
 by1 := by
  show byB (dsH (stpX K p i (sv q))) = true
  rw [Jae]
  cases dsE0 (stpX K p i (sv q)) == 0 with
  | true => exact JnM _
  | false => exact h.by1
 ih := h.ih
 iN := h.iN
 ver := by
  show dsV (stpX K p i (sv q)) <= i + 1
  have := h.ver
  rw [VI]
  cases dsE0 (stpX K p i (sv q)) == 0 with
  | true => show (sv q).ver + 1 <= i + 1; omega
  | false => show (sv q).ver <= i + 1; omega
theorem BOk.up {i j : Int} {q : PV} (h : BOk i q) (hj : i <= j) : BOk j q := { h with ver := by have := h.ver; omega }
-- FN
def chV (s : SV) (d : DV) : Int := bif d.kd == 1 then apE ⟨s.doc, d.o⟩ else bif d.kd == 2 then adE ⟨s.l, ⟨d.wd, d.wu⟩⟩ else rmE ⟨s.l, ⟨d.wd, d.wu⟩⟩
theorem JnN {d : DV} (h : dCk d = 0) : (d.kd = 1 /\ ckO d.o = 0) ∨ ((d.kd = 2 ∨ d.kd = 3) /\ d.o = []) := by
 rw [JeI] at h
 unfold JkI at h
 cases h1 : (inZ d.ad 2 && (inZ d.au 7 && (inZ d.id 1073741824 && inZ d.ve 1048576))) with
 | false => rw [h1, cond_false] at h; exact absurd h (by decide)
 | true =>
  rw [h1, cond_true] at h
  cases hk : (d.kd == 1) with
  | true =>
   rw [hk, cond_true] at h
   cases hc : (ckO d.o == 0) with
   | false => rw [hc, cond_false] at h; rw [h] at hc; exact absurd hc (by decide)
   | true => exact .inl ⟨by simpa using hk, by simpa using hc⟩
  | false =>
   rw [hk, cond_false] at h
   cases hk2 : (d.kd == 2 || d.kd == 3) with
   | false => rw [hk2, cond_false] at h; exact absurd h (by decide)
   | true =>
    rw [hk2, cond_true] at h
    cases hw : (d.o.isEmpty && (inZ d.wd 2 && inZ d.wu 7)) with
    | false => rw [hw, cond_false] at h; exact absurd h (by decide)
    | true =>
     rw [Bool.and_eq_true, List.isEmpty_iff] at hw
     exact .inr ⟨by simpa using hk2, hw.1⟩
theorem JAM {K : List PV} {s : SV} {d : DV} (ho : dOk d = true) (hb : byB d.h = true) (hc : dCk d = 0) (hv : d.ve <= s.ver) :
  dsE0 ⟨s, enW K s d⟩ = bif !hasP ⟨s.l, ⟨d.ad, d.au⟩⟩ then 13 else chV s d := by
 obtain ⟨t1, t2⟩ := JnH ho hb hc
 obtain ⟨f0, f1, f2, f3, f4, f5, f6, f7, f8⟩ := JgF t1 t2 (Wy.1 hb).1
 have hB : (enW K s d).b = pu .u8 (dlB d) := rfl
 have hO : (enW K s d).o = d.o := rfl
 have hau : auA (pu .u8 (dlB d)) = ⟨d.ad, d.au⟩ := by unfold auA; rw [f0, f1]
 have hwh : whA (pu .u8 (dlB d)) = ⟨d.wd, d.wu⟩ := by unfold whA; rw [f5, f6]
 have hch : chE ⟨s, enW K s d⟩ = chV s d := by
  unfold chE chV
  simp only [hB, hO, f4, hwh]
  rcases JnN hc with ⟨k1, k2⟩ | ⟨k1, k2⟩
  · rw [k1, k2]; rfl
  · have : (d.kd == 1) = false := beq_false_of_ne (by omega)
    rw [this, k2]; rfl
 unfold dsE0
 simp only [hB, hau, hch, t1, f3]
 refine (Jj rfl).trans ((Jj (bne_self_eq_false _)).trans ((Jj (decide_eq_false (by omega))).trans ?_))
 cases hasP ⟨s.l, ⟨d.ad, d.au⟩⟩ with
 | false => rfl
 | true =>
  have he : (!Qs (enW K s d).h (pu .u8 (nxP ⟨s.hash, JcG (enW K s d)⟩))) = false := by
    have : Qs (enW K s d).h (pu .u8 (nxP ⟨s.hash, JcG (enW K s d)⟩)) = true := Jgu (JN _ _)
    rw [this]; rfl
  rw [he]
  show (bif chV s d != 0 then chV s d else 0) = chV s d
  cases h : (chV s d != 0) with
  | true => rfl
  | false => exact (by simpa [bne] using h : chV s d = 0).symm
-- FN law13.upon
structure UX where
 (K : List PV) (s : SV) (a w : AV) (kd : Int)
def exB : ByteArray := ByteArray.mk (Array.mk [120])
def puO (doc : ByteArray) : List PV := ptP exB :: (bif decide (zi doc.size > 0) then [kpP (zi doc.size)] else [])
def upV (x : UX) : DV := bif x.kd == 1 then ⟨x.a.d, x.a.u, x.s.ver, x.s.ver, x.s.hash, x.kd, puO x.s.doc, 0, 0⟩ else ⟨x.a.d, x.a.u, x.s.ver, x.s.ver, x.s.hash, x.kd, [], x.w.d, x.w.u⟩
def upW (x : UX) : EW := enW x.K x.s (upV x)
def upB : UX -> List PV := hid fun x => (upW x).b
def upS : UX -> List PV := hid fun x => (upW x).m
def upO : UX -> List PV := hid fun x => (upW x).o
def upH : UX -> List PV := hid fun x => (upW x).h
def upM : UX -> List PV := hid fun x => (upW x).mc
theorem WZ (x : UX) : EW.mk (upB x) (upS x) x.s.ver (upO x) (upH x) (upM x) = upW x := by
 rw [upB, upS, upO, upH, upM, hid_eq, hid_eq, hid_eq, hid_eq, hid_eq]; rfl
theorem Je5 {doc : ByteArray} (h : doc.size <= 120) : (puO doc).all isCp = true /\ (∀ p ∈ puO doc, (cv p).s.size <= 10) /\ (puO doc).length <= 2 /\ (∀ p ∈ puO doc, ckC (cv p) = 0) := by
 have c1 : ckC (cv (ptP exB)) = 0 := by rw [Y2]; rfl
 unfold puO
 cases hd : decide (zi doc.size > 0) with
 | false =>
  refine ⟨rfl, fun p hp => ?_, by simp, fun p hp => ?_⟩
  · rcases List.mem_cons.1 hp with rfl | hp
    · decide
    · cases hp
  · rcases List.mem_cons.1 hp with rfl | hp
    · exact c1
    · cases hp
 | true =>
  have hd := of_decide_eq_true hd
  have hz : zi doc.size = (doc.size : Int) := rfl
  have c2 : ckC (cv (kpP (zi doc.size))) = 0 := by
    rw [Y2]
    show (bif decide (zi doc.size < 1) || (decide (zi doc.size > 120) || false) then (1 : Int) else 0) = 0
    exact Jj (by simp; omega)
  refine ⟨rfl, fun p hp => ?_, by simp, fun p hp => ?_⟩
  · rcases List.mem_cons.1 hp with rfl | hp
    · decide
    · rcases List.mem_cons.1 hp with rfl | hp
      · exact Nat.zero_le _
      · cases hp
  · rcases List.mem_cons.1 hp with rfl | hp
    · exact c1
    · rcases List.mem_cons.1 hp with rfl | hp
      · exact c2
      · cases hp
theorem JqP {doc : ByteArray} (h : doc.size <= 120) : (opB (puO doc)).length <= 60 := by
 obtain ⟨h1, h2, h3, _⟩ := Je5 h
 have := Vt 10 _ h2
 rw [G9, JhR]
 have h4 : (puO doc).length * (10 + 11) <= 2 * 21 := Nat.mul_le_mul h3 (Nat.le_refl _)
 simp only [List.length_append, List.length_cons, List.length_nil]; omega
theorem Je6 {x : UX} (hs : sOk x.s = true) : dOk (upV x) = true /\ (opB (upV x).o).length <= 400 /\ cBy (upV x).o = true /\ cOk (upV x).o = true /\ (upV x).h = x.s.hash /\ (upV x).ad = x.a.d := by
 obtain ⟨s1, s2, s3, s4, s5, s6⟩ := WN.1 hs
 obtain ⟨h1, h2⟩ := h32_iff.1 s2
 have nil := Jcg (done := 0) (by decide)
 have n1 := Jil (Xu nil (by decide : (0 : Int) <= 14))
 have n2 := Jim (Xu nil (by decide : (0 : Int) <= 14))
 obtain ⟨p1, p2, p3, p4⟩ := Je5 s5
 have p5 := JqP s5
 have m1 : cBy (puO x.s.doc) = true := ZV.2 ⟨p1, fun p hp => Nat.le_trans (p2 p hp) (by decide), by omega⟩
 have m3 : cOk (puO x.s.doc) = true := Wx.2 ⟨p1, by omega⟩
 unfold upV
 cases x.kd == 1 with
 | true => exact ⟨Wi.2 ⟨h1, h2, m1, by show (opB (puO x.s.doc)).length <= _; omega⟩, by show (opB (puO x.s.doc)).length <= _; omega, m1, m3, rfl, rfl⟩
 | false => exact ⟨Wi.2 ⟨h1, h2, n1, by show (opB []).length <= _; omega⟩, n2, n1, Wx.2 ⟨rfl, Nat.zero_le _⟩, rfl, rfl⟩
theorem JnO {x : UX} (hs : sOk x.s = true) (hb : byB x.s.hash = true) : eD (upW x) = true := by
 obtain ⟨v1, v2, v3, v4, v6, _⟩ := Je6 hs
 refine Jaf.2 ⟨JnI _ (by rw [v6]; exact hb), JiF v1 v2 v3, v4, h32_iff.2 ⟨JN _ _, ?_⟩⟩
 show (pu .u8 (nxP ⟨x.s.hash, enV x.K x.s (upV x)⟩)).length = 32
 rw [JD]; exact YA _
def upK (x : UX) : Prop := (x.kd = 1) ∨ ((x.kd = 2 ∨ x.kd = 3) /\ inZ x.w.d 2 = true /\ inZ x.w.u 7 = true)
theorem JsE {x : UX} (hs : sOk x.s = true) (ha : inZ x.a.d 2 = true) (hu : inZ x.a.u 7 = true) (hv : x.s.ver <= 1000) (hk : upK x) : dCk (upV x) = 0 := by
 obtain ⟨s1, s2, s3, s4, s5, s6⟩ := WN.1 hs
 have hi : inZ x.s.ver 1073741824 = true := by rw [Xt]; simp; omega
 have he : inZ x.s.ver 1048576 = true := by rw [Xt]; simp; omega
 obtain ⟨p1, p2, p3, p4⟩ := Je5 s5
 rw [JeI]
 unfold JkI upV
 rcases hk with hk | ⟨hk, h1, h2⟩
 · rw [hk]
   refine (Ja (by show (inZ x.a.d 2 && (inZ x.a.u 7 && (inZ x.s.ver 1073741824 && inZ x.s.ver 1048576))) = true; rw [ha, hu, hi, he]; rfl)).trans ((Ja rfl).trans ((Ja ?_).trans rfl))
   show (ckO (puO x.s.doc) == 0) = true
   have : ckO (puO x.s.doc) = 0 := by
    rw [GZ]; unfold Jhr
    exact (Jj (decide_eq_false (by simp only [zi]; omega))).trans (Jik p4)
   rw [this]; rfl
 · have e1 : (x.kd == 1) = false := beq_false_of_ne (by omega)
   have e2 : (x.kd == 2 || x.kd == 3) = true := by rcases hk with h | h <;> rw [h] <;> rfl
   rw [e1]
   refine (Ja (by show (inZ x.a.d 2 && (inZ x.a.u 7 && (inZ x.s.ver 1073741824 && inZ x.s.ver 1048576))) = true; rw [ha, hu, hi, he]; rfl)).trans ((Jj e1).trans ((Ja e2).trans (Ja ?_)))
   show (true && (inZ x.w.d 2 && inZ x.w.u 7)) = true
   rw [h1, h2]; rfl
theorem JnP (x : UX) : (upV x).kd = x.kd /\ (upV x).ad = x.a.d /\ (upV x).au = x.a.u /\ (upV x).ve = x.s.ver := by
 unfold upV
 cases h : x.kd == 1 with
 | true => exact ⟨rfl, rfl, rfl, rfl⟩
 | false => exact ⟨rfl, rfl, rfl, rfl⟩
theorem JAN {x : UX} (hs : sOk x.s = true) (hb : byB x.s.hash = true) (ha : inZ x.a.d 2 = true) (hu : inZ x.a.u 7 = true) (hv : x.s.ver <= 1000) (hk : upK x) :
  dsE0 ⟨x.s, upW x⟩ = bif !hasP ⟨x.s.l, x.a⟩ then 13 else bif x.kd == 1 then apE ⟨x.s.doc, puO x.s.doc⟩ else bif x.kd == 2 then adE ⟨x.s.l, x.w⟩ else rmE ⟨x.s.l, x.w⟩ := by
 obtain ⟨v1, v2, v3, v4, v6, v7⟩ := Je6 hs
 obtain ⟨k1, k2, k3, k4⟩ := JnP x
 have := JAM (K := x.K) (s := x.s) v1 (by rw [v6]; exact hb) (JsE hs ha hu hv hk) (by rw [k4]; exact Int.le_refl _)
 rw [show upW x = enW x.K x.s (upV x) from rfl, this, k2, k3]
 show (bif !hasP ⟨x.s.l, x.a⟩ then 13 else chV x.s (upV x)) = _
 congr 1
 unfold chV
 rw [k1]
 unfold upV
 cases h : x.kd == 1 with
 | true => rfl
 | false => rfl
theorem JAO {x : UX} (hs : sOk x.s = true) (hb : byB x.s.hash = true) (ha : inZ x.a.d 2 = true) (hu : inZ x.a.u 7 = true) (hv : x.s.ver <= 1000) (hk : upK x) (h0 : dsE0 ⟨x.s, upW x⟩ = 0) :
  dsS ⟨x.s, upW x⟩ = ⟨x.s.ih, x.s.iN, bif x.kd == 1 then apD ⟨x.s.doc, puO x.s.doc⟩ else x.s.doc, bif x.kd == 1 then x.s.l else bif x.kd == 2 then adL ⟨x.s.l, x.w⟩ else rmL ⟨x.s.l, x.w⟩, x.s.ver + 1, (upW x).h⟩ := by
 obtain ⟨v1, v2, v3, v4, v6, v7⟩ := Je6 hs
 obtain ⟨k1, k2, k3, k4⟩ := JnP x
 have hb' : byB (upV x).h = true := by rw [v6]; exact hb
 obtain ⟨t1, t2⟩ := JnH v1 hb' (JsE hs ha hu hv hk)
 obtain ⟨f0, f1, f2, f3, f4, f5, f6, f7, f8⟩ := JgF t1 t2 (Wy.1 hb').1
 have hB : (upW x).b = pu .u8 (dlB (upV x)) := rfl
 have hO : (upW x).o = (upV x).o := rfl
 unfold dsS
 rw [JeT, Jcj, VI, Jae, h0]
 show SV.mk x.s.ih x.s.iN (chD ⟨x.s, upW x⟩) (chL ⟨x.s, upW x⟩) (x.s.ver + 1) (upW x).h = _
 have e1 : chD ⟨x.s, upW x⟩ = bif x.kd == 1 then apD ⟨x.s.doc, puO x.s.doc⟩ else x.s.doc := by
  unfold chD
  simp only [hB, hO, f4, k1]
  unfold upV
  cases x.kd == 1 <;> rfl
 have e2 : chL ⟨x.s, upW x⟩ = bif x.kd == 1 then x.s.l else bif x.kd == 2 then adL ⟨x.s.l, x.w⟩ else rmL ⟨x.s.l, x.w⟩ := by
  unfold chL whA
  simp only [hB, f4, f5, f6, k1]
  unfold upV
  cases x.kd == 1 <;> rfl
 rw [e1, e2]
theorem Jvo {doc : ByteArray} : inL (puO doc) = doc.size /\ outL (puO doc) = doc.size + 1 := by
 have hz : zi doc.size = (doc.size : Int) := rfl
 unfold puO
 cases hd : decide (zi doc.size > 0) with
 | false =>
  have hd := of_decide_eq_false hd
  have : (exB.size : Int) = 1 := rfl
  simp only [cond_false, inL, outL, inC, Q2]
  constructor
  · show (0 : Int) + 0 = _; omega
  · show (exB.size : Int) + 0 = _; omega
 | true =>
  have : (exB.size : Int) = 1 := rfl
  simp only [cond_true, inL, outL, inC, Q2]
  constructor
  · show (0 : Int) + (zi doc.size + 0) = _; omega
  · show (exB.size : Int) + (zi doc.size + 0) = _; omega
theorem JAP {doc : ByteArray} (h : doc.size < 120) : apE ⟨doc, puO doc⟩ = 0 := by
 rw [JmJ]; unfold Jgr
 obtain ⟨h1, h2⟩ := Jvo (doc := doc)
 simp only [h1, h2]
 exact (Jj (by simp [zi])).trans (Jj (decide_eq_false (by omega)))
def JiG : List PV -> List Ent -> (Res -> Option Res) -> Option Res
 | [.st 31 [.ro 5 z0 f0 k0, .ro 5 z1 f1 k1, .ro 5 z2 f2 k2], .st 58 [.st 34 [.sc (.int .i64 ih), .sc (.int .i64 iN)], .sc (.string doc), .ro 42 z f l, .sc (.int .i64 ver), .ar 37 hash], .st 42 [.sc (.int .i64 ad), .sc (.int .i64 au)], .sc (.int .i64 kd), .st 42 [.sc (.int .i64 wd), .sc (.int .i64 wu)]], [], k =>
  bif sOk ⟨ih, iN, doc, l, ver, hash⟩ && (kO3 [.ro 5 z0 f0 k0, .ro 5 z1 f1 k1, .ro 5 z2 f2 k2] && (kIn ih && kIn ad)) then
   k ⟨.st 51 [.st 47 [.ro 5 false false (upB ⟨[.ro 5 z0 f0 k0, .ro 5 z1 f1 k1, .ro 5 z2 f2 k2], ⟨ih, iN, doc, l, ver, hash⟩, ⟨ad, au⟩, ⟨wd, wu⟩, kd⟩), .ar 37 (upS ⟨[.ro 5 z0 f0 k0, .ro 5 z1 f1 k1, .ro 5 z2 f2 k2], ⟨ih, iN, doc, l, ver, hash⟩, ⟨ad, au⟩, ⟨wd, wu⟩, kd⟩)], .sc (.int .i64 ver), .ro 113 false false (upO ⟨[.ro 5 z0 f0 k0, .ro 5 z1 f1 k1, .ro 5 z2 f2 k2], ⟨ih, iN, doc, l, ver, hash⟩, ⟨ad, au⟩, ⟨wd, wu⟩, kd⟩), .ar 37 (upH ⟨[.ro 5 z0 f0 k0, .ro 5 z1 f1 k1, .ro 5 z2 f2 k2], ⟨ih, iN, doc, l, ver, hash⟩, ⟨ad, au⟩, ⟨wd, wu⟩, kd⟩), .ar 37 (upM ⟨[.ro 5 z0 f0 k0, .ro 5 z1 f1 k1, .ro 5 z2 f2 k2], ⟨ih, iN, doc, l, ver, hash⟩, ⟨ad, au⟩, ⟨wd, wu⟩, kd⟩)], [], []⟩ else none
 | _, _, _ => none
def JAQ : Sig := { own := [], run := JiG }
theorem Jvp (s : SV) (a w : AV) (kd : Int) (z0 f0 : Bool) (k0 : List PV) (z1 f1 : Bool) (k1 : List PV) (z2 f2 : Bool) (k2 : List PV) (z f : Bool) (hs : sOk s = true) (hK : kO3 [.ro 5 z0 f0 k0, .ro 5 z1 f1 k1, .ro 5 z2 f2 k2] = true) (hi : kIn s.ih = true) (ha : kIn a.d = true) (k : Res -> Option Res) :
  g19 0 z0 f0 k0 z1 f1 k1 z2 f2 k2 s.ih s.iN s.doc z f s.l s.ver s.hash a.d a.u kd w.d w.u k = k ⟨ewP (upW ⟨[.ro 5 z0 f0 k0, .ro 5 z1 f1 k1, .ro 5 z2 f2 k2], s, a, w, kd⟩), [], []⟩ := by
 unfold g19
 generalize [PV.ro 5 z0 f0 k0, .ro 5 z1 f1 k1, .ro 5 z2 f2 k2] = K at *
 obtain ⟨s1, s2, s3, s4, s5, s6⟩ := WN.1 hs
 obtain ⟨v1, v2, v3, v4, v5, v6⟩ := Je6 (x := ⟨K, s, a, w, kd⟩) hs
 have he := JiF (K := K) (s := s) v1 v2 v3
 have T : ∀ d : DV, upV ⟨K, s, a, w, kd⟩ = d -> (bif dOk d && (kO3 K && kIn d.ad) then bif kIn s.ih && eOk (enV K s d) && (h32 s.hash && kO3 K) then k ⟨ewP (enW K s d), [], []⟩ else none else none) = k ⟨ewP (upW ⟨K, s, a, w, kd⟩), [], []⟩ := fun d hd => by
  subst hd
  exact (Ja (by rw [v1, hK, v6, ha]; rfl)).trans (Ja (by rw [hi, he, s2, hK]; rfl))
 cases h1 : (kd == 1) with
 | true =>
  refine (Ja rfl).trans ?_
  cases h2 : decide (zi s.doc.size > 0) with
  | true =>
   refine (Ja rfl).trans (T ⟨a.d, a.u, s.ver, s.ver, s.hash, kd, [ptP exB, kpP (zi s.doc.size)], 0, 0⟩ ?_)
   unfold upV puO; rw [h2]; exact Ja h1
  | false =>
   refine (Jj rfl).trans (T ⟨a.d, a.u, s.ver, s.ver, s.hash, kd, [ptP exB], 0, 0⟩ ?_)
   unfold upV puO; rw [h2]; exact Ja h1
 | false =>
  refine (Jj rfl).trans (T ⟨a.d, a.u, s.ver, s.ver, s.hash, kd, [], w.d, w.u⟩ ?_)
  unfold upV; exact Jj h1
theorem JAR : Jh tau Try.prog 19 JAQ := JDV.of fun xs es k res hr => by
 change JiG xs es k = some res at hr
 unfold JiG at hr
 split at hr
 · rename_i z0 f0 k0 z1 f1 k1 z2 f2 k2 ih iN doc z f l ver hash ad au kd wd wu
   obtain ⟨hc, hr⟩ := JI hr
   simp only [Bool.and_eq_true] at hc
   obtain ⟨c1, c2, c3, c4⟩ := hc
   refine (Jvp ⟨ih, iN, doc, l, ver, hash⟩ ⟨ad, au⟩ ⟨wd, wu⟩ kd z0 f0 k0 z1 f1 k1 z2 f2 k2 z f c1 c2 c3 c4 k).trans (Eq.trans ?_ hr)
   rw [← WZ]; rfl
 · cases hr
def F20 : Fns := F0
theorem Jvq : Jy tau Try.prog F20 := JE
def JqQ : An := (.seq .leaf (.seq .leaf .leaf))
def g20 (f : Nat) (y0 y1 : Int) (y2 : ByteArray) (y3 y4 : Bool) (y5 : List PV) (y6 : Int) (y7 : List PV) (k : Res -> Option Res) : Option Res := k (Res.mk (.st 39 [.st 34 [.sc (.int .i64 y0), .sc (.int .i64 y1)], .sc (.string y2), .ro 42 y3 y4 y5, .sc (.int .i64 y6), .ar 37 y7]) [] [])
theorem e20 (f : Nat) (y0 y1 : Int) (y2 : ByteArray) (y3 y4 : Bool) (y5 : List PV) (y6 : Int) (y7 : List PV) (k : Res -> Option Res) : JM tau F20 Try.f20 (Try.f20.body.get!) JqQ [.ro] 0 [.st 58 [.st 34 [.sc (.int .i64 y0), .sc (.int .i64 y1)], .sc (.string y2), .ro 42 y3 y4 y5, .sc (.int .i64 y6), .ar 37 y7]] [] k = g20 f y0 y1 y2 y3 y4 y5 y6 y7 k := by kernel_rfl
theorem JDW (f : Nat) : Je (Try.f20.body.get!) JqQ = [] := by kernel_rfl
theorem JDX (f : Nat) : ∀ q ∈ Je (Try.f20.body.get!) JqQ, q.Ok tau Try.prog 0 := by
 rw [JDW f]; intro q hq; cases hq
theorem JAS : Try.prog.funcs[20]? = some Try.f20 := by kernel_rfl
theorem JAT : Try.f20.body = some (Try.f20.body.get!) := by kernel_rfl
theorem JDY : Enters Try.prog 20 := enters_of JAS (by kernel_rfl) JAT
def JnQ : List PV -> List Ent -> (Res -> Option Res) -> Option Res
 | [.st 58 [.st 34 [.sc (.int .i64 y0), .sc (.int .i64 y1)], .sc (.string y2), .ro 42 y3 y4 y5, .sc (.int .i64 y6), .ar 37 y7]], [], k => g20 0 y0 y1 y2 y3 y4 y5 y6 y7 k
 | _, _, _ => none
def s20 : Sig := { own := [], run := JnQ }
theorem JDZ : Jh tau Try.prog 20 s20 := JW Jr Jvq Js JAS JAT JqQ [.ro] 0 [] JnQ (JDX 0) fun xs es k res hr => by
 unfold JnQ at hr
 split at hr
 · exact ⟨rfl, 0, (e20 0 _ _ _ _ _ _ _ _  _).trans hr⟩
 · cases hr
def F21 : Fns := F0
theorem Jvr : Jy tau Try.prog F21 := JE
def JqR : An := (.seq .leaf (.seq .leaf .leaf))
def g21 (f : Nat) (y0 y1 : Int) (y2 : ByteArray) (y3 y4 : Bool) (y5 : List PV) (y6 : Int) (y7 : List PV) (k : Res -> Option Res) : Option Res := k (Res.mk (.st 58 [.st 34 [.sc (.int .i64 y0), .sc (.int .i64 y1)], .sc (.string y2), .ro 42 y3 y4 y5, .sc (.int .i64 y6), .ar 37 y7]) [] [])
theorem e21 (f : Nat) (y0 y1 : Int) (y2 : ByteArray) (y3 y4 : Bool) (y5 : List PV) (y6 : Int) (y7 : List PV) (k : Res -> Option Res) : JM tau F21 Try.f21 (Try.f21.body.get!) JqR [.ro] 0 [.st 39 [.st 34 [.sc (.int .i64 y0), .sc (.int .i64 y1)], .sc (.string y2), .ro 42 y3 y4 y5, .sc (.int .i64 y6), .ar 37 y7]] [] k = g21 f y0 y1 y2 y3 y4 y5 y6 y7 k := by kernel_rfl
theorem JD0 (f : Nat) : Je (Try.f21.body.get!) JqR = [] := by kernel_rfl
theorem JD1 (f : Nat) : ∀ q ∈ Je (Try.f21.body.get!) JqR, q.Ok tau Try.prog 0 := by
 rw [JD0 f]; intro q hq; cases hq
theorem JAU : Try.prog.funcs[21]? = some Try.f21 := by kernel_rfl
theorem JAV : Try.f21.body = some (Try.f21.body.get!) := by kernel_rfl
theorem JD2 : Enters Try.prog 21 := enters_of JAU (by kernel_rfl) JAV
def JnR : List PV -> List Ent -> (Res -> Option Res) -> Option Res
 | [.st 39 [.st 34 [.sc (.int .i64 y0), .sc (.int .i64 y1)], .sc (.string y2), .ro 42 y3 y4 y5, .sc (.int .i64 y6), .ar 37 y7]], [], k => g21 0 y0 y1 y2 y3 y4 y5 y6 y7 k
 | _, _, _ => none
def s21 : Sig := { own := [], run := JnR }
theorem JD3 : Jh tau Try.prog 21 s21 := JW Jr Jvr Js JAU JAV JqR [.ro] 0 [] JnR (JD1 0) fun xs es k res hr => by
 unfold JnR at hr
 split at hr
 · exact ⟨rfl, 0, (e21 0 _ _ _ _ _ _ _ _  _).trans hr⟩
 · cases hr
def N4 : Nat := 121
def F4 : Fns := JG 21 s21 (JG 20 s20 (JG 19 JAQ (JG 18 JAI (JG 17 s17 (JG 14 JAC (JG 12 Jzy (JG 9 s9' (F0))))))))
theorem JgG : Jy tau Try.prog F4 := ((((((((JE).add JC6 en9).add JzA JC4).add JAD JDJ).add JDN JDM).add JAJ JDQ).add JAR JDU).add JDZ JDY).add JD3 JD2
def JkR : Code := Qj (Try.f4.body.get!) [1, 1, 1, 1, 1, 1, 1, 1, 1, 1, 1, 1]
def JdL : Nm := [(2, .any), (7, .any), (9, .any), (14, .any), (17, .any), (18, .any), (19, .any)]
def JaS : Nm := [(6, .any)]
def JgH : An := (.seq .leaf (.seq .leaf .leaf))
def JkS : Code := Qj (Try.f4.body.get!) [1, 1, 1, 1, 1, 1, 1, 1, 1, 1, 1]
def JdM : Nm := [(2, .any), (7, .any), (9, .any), (14, .any), (16, .any), (17, .any)]
def JaT : Nm := [(6, .any)]
def VP (r3 : QC) : An := (.cut JdL N4 .leaf r3)
def JkT : Code := Qj (Try.f4.body.get!) [1, 1, 1, 1, 1, 1, 1, 1, 1, 1]
def JdN : Nm := [(2, .any), (7, .any), (9, .any), (14, .any)]
def JaU : Nm := [(6, .any)]
def Wf (r2 : QC) : An := (.cut JdM N4 .leaf r2)
def JkU : Code := Qj (Try.f4.body.get!) [1, 1, 1, 1, 1, 1, 1, 1]
def JdO : Nm := [(2, .any), (7, .any), (8, .any), (9, .any), (13, .any)]
def JaV : Nm := [(6, .any)]
def QI (r1 : QC) : An := (.seq .leaf (.cut JdN N4 (.seq .leaf (.cond (.seq .leaf .leaf) .leaf)) r1))
def an4 (r0 : QC) : An := (.seq .leaf (.seq (.seq .leaf (.cond (.seq .leaf .leaf) .leaf)) (.seq .leaf (.seq .leaf (.seq .leaf (.seq .leaf (.seq (.seq .leaf (.seq .leaf (.cond (.seq .leaf .leaf) .leaf))) (.cut JdO N4 .leaf r0))))))))
def Je7 (f : Nat) (rc : Int -> Int -> Int -> List PV -> List PV -> List PV -> Int -> Int -> Int -> Int -> ByteArray -> Bool -> Bool -> List PV -> Int -> List PV -> Int -> Int -> ByteArray -> Bool -> Bool -> List PV -> Int -> List PV -> Option Res) (k0 : Bool -> Option Res) (v0 v1 v2 : Int) (v3 v4 v5 : List PV) (v6 v7 v8 v9 : Int) (v10 : ByteArray) (v11 v12 : Bool) (v13 : List PV) (v14 : Int) (v15 : List PV) (v16 v17 : Int) (v18 : ByteArray) (v19 v20 : Bool) (v21 : List PV) (v22 : Int) (v23 : List PV) : Option Res := bif okW 3 then bif sOk (SV.mk v16 v17 v18 v21 v22 v23) && (kO3 [.ro 5 false false v3, .ro 5 false false v4, .ro 5 false false v5] && (kIn v16 && kIn v6)) then bif sOk (SV.mk v16 v17 v18 v21 v22 v23) && eD (EW.mk (upB (UX.mk [.ro 5 false false v3, .ro 5 false false v4, .ro 5 false false v5] (SV.mk v16 v17 v18 v21 v22 v23) (AV.mk v6 v7) (AV.mk v6 v7) (IntKind.i64.wrap (1 + v0 % 3)))) (upS (UX.mk [.ro 5 false false v3, .ro 5 false false v4, .ro 5 false false v5] (SV.mk v16 v17 v18 v21 v22 v23) (AV.mk v6 v7) (AV.mk v6 v7) (IntKind.i64.wrap (1 + v0 % 3)))) v22 (upO (UX.mk [.ro 5 false false v3, .ro 5 false false v4, .ro 5 false false v5] (SV.mk v16 v17 v18 v21 v22 v23) (AV.mk v6 v7) (AV.mk v6 v7) (IntKind.i64.wrap (1 + v0 % 3)))) (upH (UX.mk [.ro 5 false false v3, .ro 5 false false v4, .ro 5 false false v5] (SV.mk v16 v17 v18 v21 v22 v23) (AV.mk v6 v7) (AV.mk v6 v7) (IntKind.i64.wrap (1 + v0 % 3)))) (upM (UX.mk [.ro 5 false false v3, .ro 5 false false v4, .ro 5 false false v5] (SV.mk v16 v17 v18 v21 v22 v23) (AV.mk v6 v7) (AV.mk v6 v7) (IntKind.i64.wrap (1 + v0 % 3))))) && (zOk v19 v21 && slB false (upB (UX.mk [.ro 5 false false v3, .ro 5 false false v4, .ro 5 false false v5] (SV.mk v16 v17 v18 v21 v22 v23) (AV.mk v6 v7) (AV.mk v6 v7) (IntKind.i64.wrap (1 + v0 % 3))))) then bif v1 == 0 then bif v2 == 0 then bif dsE (DX.mk (SV.mk v16 v17 v18 v21 v22 v23) (EW.mk (upB (UX.mk [.ro 5 false false v3, .ro 5 false false v4, .ro 5 false false v5] (SV.mk v16 v17 v18 v21 v22 v23) (AV.mk v6 v7) (AV.mk v6 v7) (IntKind.i64.wrap (1 + v0 % 3)))) (upS (UX.mk [.ro 5 false false v3, .ro 5 false false v4, .ro 5 false false v5] (SV.mk v16 v17 v18 v21 v22 v23) (AV.mk v6 v7) (AV.mk v6 v7) (IntKind.i64.wrap (1 + v0 % 3)))) v22 (upO (UX.mk [.ro 5 false false v3, .ro 5 false false v4, .ro 5 false false v5] (SV.mk v16 v17 v18 v21 v22 v23) (AV.mk v6 v7) (AV.mk v6 v7) (IntKind.i64.wrap (1 + v0 % 3)))) (upH (UX.mk [.ro 5 false false v3, .ro 5 false false v4, .ro 5 false false v5] (SV.mk v16 v17 v18 v21 v22 v23) (AV.mk v6 v7) (AV.mk v6 v7) (IntKind.i64.wrap (1 + v0 % 3)))) (upM (UX.mk [.ro 5 false false v3, .ro 5 false false v4, .ro 5 false false v5] (SV.mk v16 v17 v18 v21 v22 v23) (AV.mk v6 v7) (AV.mk v6 v7) (IntKind.i64.wrap (1 + v0 % 3)))))) != 0 then bif zi v21.length == 1 then k0 (zi v13.length == 2) else k0 false else k0 false else k0 false else k0 false else none else none else none
def JdP (f : Nat) (k0 : Bool -> Option Res) : Nat -> Int -> Int -> Int -> List
 PV -> List PV -> List PV -> Int -> Int -> Int -> Int -> ByteArray -> Bool -> Bool -> List PV -> Int -> List PV -> Int -> Int -> ByteArray -> Bool -> Bool -> List PV -> Int -> List PV -> Option Res
 | 0, _, _, _, _, _, _, _, _, _, _, _, _, _, _, _, _, _, _, _, _, _, _, _, _ => none
 | n + 1, v0, v1, v2, v3, v4, v5, v6, v7, v8, v9, v10, v11, v12, v13, v14, v15, v16, v17, v18, v19, v20, v21, v22, v23 => Je7 f (JdP f k0 n) k0 v0 v1 v2 v3 v4 v5 v6 v7 v8 v9 v10 v11 v12 v13 v14 v15 v16 v17 v18 v19 v20 v21 v22 v23
theorem Jvs (f : Nat) (k : Kont) (n : Nat) (v0 v1 v2 : Int) (v3 v4 v5 : List PV) (v6 v7 v8 v9 : Int) (v10 : ByteArray) (v11 v12 : Bool) (v13 : List PV) (v14 : Int) (v15 : List PV) (v16 v17 : Int) (v18 : ByteArray) (v19 v20 : Bool) (v21 : List PV) (v22 : Int) (v23 : List PV) : XI (fun s k => ev tau F4 0 0 JkR (JgH ) s k) (n + 1) (Jc JdL N4 [.sc (.int .i64 v0), .ptr 1952 [], .ptr 1953 [], .ptr 1954 [], .sc (.int .i64 v1), .ptr 1955 [], .sc (.int .i64 v2)] [(1952, .box false 31 (PV.st 31 [.ro 5 false false v3, .ro 5 false false v4, .ro 5 false false v5])), (1953, .box false 42 (PV.st 42 [.sc (.int .i64 v6), .sc (.int .i64 v7)])), (1954, .box false 39 (PV.st 39 [.st 34 [.sc (.int .i64 v8), .sc (.int .i64 v9)], .sc (.string v10), .ro 42 v11 v12 v13, .sc (.int .i64 v14), .ar 37 v15])), (1955, .box false 39 (PV.st 39 [.st 34 [.sc (.int .i64 v16), .sc (.int .i64 v17)], .sc (.string v18), .ro 42 v19 v20 v21, .sc (.int .i64 v22), .ar 37 v23]))]) (Jq tau 0 JaS k) = Je7 f (fun v0 v1 v2 v3 v4 v5 v6 v7 v8 v9 v10 v11 v12 v13 v14 v15 v16 v17 v18 v19 v20 v21 v22 v23 => XI (fun s k => ev tau F4 0 0 JkR (JgH ) s k) n (Jc JdL N4 [.sc (.int .i64 v0), .ptr 1952 [], .ptr 1953 [], .ptr 1954 [], .sc (.int .i64 v1), .ptr 1955 [], .sc (.int .i64 v2)] [(1952, .box false 31 (PV.st 31 [.ro 5 false false v3, .ro 5 false false v4, .ro 5 false false v5])), (1953, .box false 42 (PV.st 42 [.sc (.int .i64 v6), .sc (.int .i64 v7)])), (1954, .box false 39 (PV.st 39 [.st 34 [.sc (.int .i64 v8), .sc (.int .i64 v9)], .sc (.string v10), .ro 42 v11 v12 v13, .sc (.int .i64 v14), .ar 37 v15])), (1955, .box false 39 (PV.st 39 [.st 34 [.sc (.int .i64 v16), .sc (.int .i64 v17)], .sc (.string v18), .ro 42 v19 v20 v21, .sc (.int .i64 v22), .ar 37 v23]))]) (Jq tau 0 JaS k)) (fun x0 => k Ex.ret (Jc JaS N4 [.sc (.bool x0)] [])) v0 v1 v2 v3 v4 v5 v6 v7 v8 v9 v10 v11 v12 v13 v14 v15 v16 v17 v18 v19 v20 v21 v22 v23 := by kernel_rfl
theorem JnS (f : Nat) (k : Kont) : ∀ (n : Nat) (v0 v1 v2 : Int) (v3 v4 v5 : List PV) (v6 v7 v8 v9 : Int) (v10 : ByteArray) (v11 v12 : Bool) (v13 : List PV) (v14 : Int) (v15 : List PV) (v16 v17 : Int) (v18 : ByteArray) (v19 v20 : Bool) (v21 : List PV) (v22 : Int) (v23 : List PV), XI (fun s k => ev tau F4 0 0 JkR (JgH ) s k) n (Jc JdL N4 [.sc (.int .i64 v0), .ptr 1952 [], .ptr 1953 [], .ptr 1954 [], .sc (.int .i64 v1), .ptr 1955 [], .sc (.int .i64 v2)] [(1952, .box false 31 (PV.st 31 [.ro 5 false false v3, .ro 5 false false v4, .ro 5 false false v5])), (1953, .box false 42 (PV.st 42 [.sc (.int .i64 v6), .sc (.int .i64 v7)])), (1954, .box false 39 (PV.st 39 [.st 34 [.sc (.int .i64 v8), .sc (.int .i64 v9)], .sc (.string v10), .ro 42 v11 v12 v13, .sc (.int .i64 v14), .ar 37 v15])), (1955, .box false 39 (PV.st 39 [.st 34 [.sc (.int .i64 v16), .sc (.int .i64 v17)], .sc (.string v18), .ro 42 v19 v20 v21, .sc (.int .i64 v22), .ar 37 v23]))]) (Jq tau 0 JaS k) = JdP f (fun x0 => k Ex.ret (Jc JaS N4 [.sc (.bool x0)] [])) n v0 v1 v2 v3 v4 v5 v6 v7 v8 v9 v10 v11 v12 v13 v14 v15 v16 v17 v18 v19 v20 v21 v22 v23 | 0, _, _, _, _, _, _, _, _, _, _, _, _, _, _, _, _, _, _, _, _, _, _, _, _ => rfl | n + 1, v0, v1, v2, v3, v4, v5, v6, v7, v8, v9, v10, v11, v12, v13, v14, v15, v16, v17, v18, v19, v20, v21, v22, v23 => (Jvs f k n v0 v1 v2 v3 v4 v5 v6 v7 v8 v9 v10 v11 v12 v13 v14 v15 v16 v17 v18 v19 v20 v21 v22 v23).trans (congrArg (fun r => Je7 f r (fun x0 => k Ex.ret (Jc JaS N4 [.sc (.bool x0)] [])) v0 v1 v2 v3 v4 v5 v6 v7 v8 v9 v10 v11 v12 v13 v14 v15 v16 v17 v18 v19 v20 v21 v22 v23) (by funext v0 v1 v2 v3 v4 v5 v6 v7 v8 v9 v10 v11 v12 v13 v14 v15 v16 v17 v18 v19 v20 v21 v22 v23; exact JnS f k n v0 v1 v2 v3 v4 v5 v6 v7 v8 v9 v10 v11 v12 v13 v14 v15 v16 v17 v18 v19 v20 v21 v22 v23))
def JgI (f : Nat) : List PV -> List (Nat × Ent) -> Kont -> Option Res
 | [.sc (.int .i64 v0), .ptr 1952 [], .ptr 1953 [], .ptr 1954 [], .sc (.int .i64 v1), .ptr 1955 [],
 PV.sc
  (Value.int IntKind.i64
   v2)], [(1952, .box false 31 (PV.st 31 [.ro 5 false false v3, .ro 5 false false v4, .ro 5 false false v5])),
 (1953, .box false 42 (PV.st 42 [.sc (.int .i64 v6), .sc (.int .i64 v7)])),
 (1954,
  Ent.box false 39
   (PV.st 39 [.st 34 [.sc (.int .i64 v8), .sc (.int .i64 v9)], .sc (.string v10), .ro 42 v11 v12 v13, .sc (.int .i64 v14), .ar 37 v15])),
 (1955,
  Ent.box false 39
   (PV.st 39
    [.st 34 [.sc (.int .i64 v16), .sc (.int .i64 v17)], .sc (.string v18), .ro 42 v19 v20 v21, .sc (.int .i64 v22),
     PV.ar 37 v23]))], k => JdP f (fun x0 => k Ex.ret (Jc JaS N4 [.sc (.bool x0)] [])) f v0 v1 v2 v3 v4 v5 v6 v7 v8 v9 v10 v11 v12 v13 v14 v15 v16 v17 v18 v19 v20 v21 v22 v23
 | _, _, _ => none
theorem JAW (f : Nat) : Je JkR JgH = [] := by kernel_rfl
theorem JAX (f : Nat) : (Item.c JkR JdL N4 (JgI f)).Ok tau Try.prog 0 := V3 Jr JgG Js (x := JgH) (nm2 := JaS) (Jk _ _ (by rw [JAW f]; intro q hq; cases hq)) fun vs hp k res hr => by
 unfold JgI at hr
 split at hr
 · exact ⟨f, 0, (JnS f _ f _ _ _ _ _ _ _ _ _ _ _ _ _ _ _ _ _ _ _ _ _ _ _ _ ).trans hr⟩
 · cases hr
def Je8 (f : Nat) (rc : Int -> Int -> List PV -> List PV -> List PV -> Int -> Int -> Int -> Int -> ByteArray -> Bool -> Bool -> List PV -> Int -> List PV -> Int -> Int -> ByteArray -> Bool -> Bool -> List PV -> Int -> List PV -> Option Res) (k0 : Bool -> Option Res) (v0 v1 : Int) (v2 v3 v4 : List PV) (v5 v6 v7 v8 : Int) (v9 : ByteArray) (v10 v11 : Bool) (v12 : List PV) (v13 : Int) (v14 : List PV) (v15 v16 : Int) (v17 : ByteArray) (v18 v19 : Bool) (v20 : List PV) (v21 : Int) (v22 : List PV) : Option Res := bif sOk (SV.mk v15 v16 v17 v20 v21 v22) && (kO3 [.ro 5 false false v2, .ro 5 false false v3, .ro 5 false false v4] && (kIn v15 && kIn v5)) then bif sOk (SV.mk v15 v16 v17 v20 v21 v22) && eD (EW.mk (upB (UX.mk [.ro 5 false false v2, .ro 5 false false v3, .ro 5 false false v4] (SV.mk v15 v16 v17 v20 v21 v22) (AV.mk v5 v6) (AV.mk v5 v6) 3)) (upS (UX.mk [.ro 5 false false v2, .ro 5 false false v3, .ro 5 false false v4] (SV.mk v15 v16 v17 v20 v21 v22) (AV.mk v5 v6) (AV.mk v5 v6) 3)) v21 (upO (UX.mk [.ro 5 false false v2, .ro 5 false false v3, .ro 5 false false v4] (SV.mk v15 v16 v17 v20 v21 v22) (AV.mk v5 v6) (AV.mk v5 v6) 3)) (upH (UX.mk [.ro 5 false false v2, .ro 5 false false v3, .ro 5 false false v4] (SV.mk v15 v16 v17 v20 v21 v22) (AV.mk v5 v6) (AV.mk v5 v6) 3)) (upM (UX.mk [.ro 5 false false v2, .ro 5 false false v3, .ro 5 false false v4] (SV.mk v15 v16 v17 v20 v21 v22) (AV.mk v5 v6) (AV.mk v5 v6) 3))) && (zOk v18 v20 && slB false (upB (UX.mk [.ro 5 false false v2, .ro 5 false false v3, .ro 5 false false v4] (SV.mk v15 v16 v17 v20 v21 v22) (AV.mk v5 v6) (AV.mk v5 v6) 3))) then JdP f (fun x0_0 => k0 x0_0) f v0 v1 (dsE (DX.mk (SV.mk v15 v16 v17 v20 v21 v22) (EW.mk (upB (UX.mk [.ro 5 false false v2, .ro 5 false false v3, .ro 5 false false v4] (SV.mk v15 v16 v17 v20 v21 v22) (AV.mk v5 v6) (AV.mk v5 v6) 3)) (upS (UX.mk [.ro 5 false false v2, .ro 5 false false v3, .ro 5 false false v4] (SV.mk v15 v16 v17 v20 v21 v22) (AV.mk v5 v6) (AV.mk v5 v6) 3)) v21 (upO (UX.mk [.ro 5 false false v2, .ro 5 false false v3, .ro 5 false false v4] (SV.mk v15 v16 v17 v20 v21 v22) (AV.mk v5 v6) (AV.mk v5 v6) 3)) (upH (UX.mk [.ro 5 false false v2, .ro 5 false false v3, .ro 5 false false v4] (SV.mk v15 v16 v17 v20 v21 v22) (AV.mk v5 v6) (AV.mk v5 v6) 3)) (upM (UX.mk [.ro 5 false false v2, .ro 5 false false v3, .ro 5 false false v4] (SV.mk v15 v16 v17 v20 v21 v22) (AV.mk v5 v6) (AV.mk v5 v6) 3))))) v2 v3 v4 v5 v6 v7 v8 v9 v10 v11 v12 v13 v14 v15 v16 (dsD (DX.mk (SV.mk v15 v16 v17 v20 v21 v22) (EW.mk (upB (UX.mk [.ro 5 false false v2, .ro 5 false false v3, .ro 5 false false v4] (SV.mk v15 v16 v17 v20 v21 v22) (AV.mk v5 v6) (AV.mk v5 v6) 3)) (upS (UX.mk [.ro 5 false false v2, .ro 5 false false v3, .ro 5 false false v4] (SV.mk v15 v16 v17 v20 v21 v22) (AV.mk v5 v6) (AV.mk v5 v6) 3)) v21 (upO (UX.mk [.ro 5 false false v2, .ro 5 false false v3, .ro 5 false false v4] (SV.mk v15 v16 v17 v20 v21 v22) (AV.mk v5 v6) (AV.mk v5 v6) 3)) (upH (UX.mk [.ro 5 false false v2, .ro 5 false false v3, .ro 5 false false v4] (SV.mk v15 v16 v17 v20 v21 v22) (AV.mk v5 v6) (AV.mk v5 v6) 3)) (upM (UX.mk [.ro 5 false false v2, .ro 5 false false v3, .ro 5 false false v4] (SV.mk v15 v16 v17 v20 v21 v22) (AV.mk v5 v6) (AV.mk v5 v6) 3))))) (dsZ (DX.mk (SV.mk v15 v16 v17 v20 v21 v22) (EW.mk (upB (UX.mk [.ro 5 false false v2, .ro 5 false false v3, .ro 5 false false v4] (SV.mk v15 v16 v17 v20 v21 v22) (AV.mk v5 v6) (AV.mk v5 v6) 3)) (upS (UX.mk [.ro 5 false false v2, .ro 5 false false v3, .ro 5 false false v4] (SV.mk v15 v16 v17 v20 v21 v22) (AV.mk v5 v6) (AV.mk v5 v6) 3)) v21 (upO (UX.mk [.ro 5 false false v2, .ro 5 false false v3, .ro 5 false false v4] (SV.mk v15 v16 v17 v20 v21 v22) (AV.mk v5 v6) (AV.mk v5 v6) 3)) (upH (UX.mk [.ro 5 false false v2, .ro 5 false false v3, .ro 5 false false v4] (SV.mk v15 v16 v17 v20 v21 v22) (AV.mk v5 v6) (AV.mk v5 v6) 3)) (upM (UX.mk [.ro 5 false false v2, .ro 5 false false v3, .ro 5 false false v4] (SV.mk v15 v16 v17 v20 v21 v22) (AV.mk v5 v6) (AV.mk v5 v6) 3)))) v18) (dsZ (DX.mk (SV.mk v15 v16 v17 v20 v21 v22) (EW.mk (upB (UX.mk [.ro 5 false false v2, .ro 5 false false v3, .ro 5 false false v4] (SV.mk v15 v16 v17 v20 v21 v22) (AV.mk v5 v6) (AV.mk v5 v6) 3)) (upS (UX.mk [.ro 5 false false v2, .ro 5 false false v3, .ro 5 false false v4] (SV.mk v15 v16 v17 v20 v21 v22) (AV.mk v5 v6) (AV.mk v5 v6) 3)) v21 (upO (UX.mk [.ro 5 false false v2, .ro 5 false false v3, .ro 5 false false v4] (SV.mk v15 v16 v17 v20 v21 v22) (AV.mk v5 v6) (AV.mk v5 v6) 3)) (upH (UX.mk [.ro 5 false false v2, .ro 5 false false v3, .ro 5 false false v4] (SV.mk v15 v16 v17 v20 v21 v22) (AV.mk v5 v6) (AV.mk v5 v6) 3)) (upM (UX.mk [.ro 5 false false v2, .ro 5 false false v3, .ro 5 false false v4] (SV.mk v15 v16 v17 v20 v21 v22) (AV.mk v5 v6) (AV.mk v5 v6) 3)))) v18) (dsL (DX.mk (SV.mk v15 v16 v17 v20 v21 v22) (EW.mk (upB (UX.mk [.ro 5 false false v2, .ro 5 false false v3, .ro 5 false false v4] (SV.mk v15 v16 v17 v20 v21 v22) (AV.mk v5 v6) (AV.mk v5 v6) 3)) (upS (UX.mk [.ro 5 false false v2, .ro 5 false false v3, .ro 5 false false v4] (SV.mk v15 v16 v17 v20 v21 v22) (AV.mk v5 v6) (AV.mk v5 v6) 3)) v21 (upO (UX.mk [.ro 5 false false v2, .ro 5 false false v3, .ro 5 false false v4] (SV.mk v15 v16 v17 v20 v21 v22) (AV.mk v5 v6) (AV.mk v5 v6) 3)) (upH (UX.mk [.ro 5 false false v2, .ro 5 false false v3, .ro 5 false false v4] (SV.mk v15 v16 v17 v20 v21 v22) (AV.mk v5 v6) (AV.mk v5 v6) 3)) (upM (UX.mk [.ro 5 false false v2, .ro 5 false false v3, .ro 5 false false v4] (SV.mk v15 v16 v17 v20 v21 v22) (AV.mk v5 v6) (AV.mk v5 v6) 3))))) (dsV (DX.mk (SV.mk v15 v16 v17 v20 v21 v22) (EW.mk (upB (UX.mk [.ro 5 false false v2, .ro 5 false false v3, .ro 5 false false v4] (SV.mk v15 v16 v17 v20 v21 v22) (AV.mk v5 v6) (AV.mk v5 v6) 3)) (upS (UX.mk [.ro 5 false false v2, .ro 5 false false v3, .ro 5 false false v4] (SV.mk v15 v16 v17 v20 v21 v22) (AV.mk v5 v6) (AV.mk v5 v6) 3)) v21 (upO (UX.mk [.ro 5 false false v2, .ro 5 false false v3, .ro 5 false false v4] (SV.mk v15 v16 v17 v20 v21 v22) (AV.mk v5 v6) (AV.mk v5 v6) 3)) (upH (UX.mk [.ro 5 false false v2, .ro 5 false false v3, .ro 5 false false v4] (SV.mk v15 v16 v17 v20 v21 v22) (AV.mk v5 v6) (AV.mk v5 v6) 3)) (upM (UX.mk [.ro 5 false false v2, .ro 5 false false v3, .ro 5 false false v4] (SV.mk v15 v16 v17 v20 v21 v22) (AV.mk v5 v6) (AV.mk v5 v6) 3))))) (dsH (DX.mk (SV.mk v15 v16 v17 v20 v21 v22) (EW.mk (upB (UX.mk [.ro 5 false false v2, .ro 5 false false v3, .ro 5 false false v4] (SV.mk v15 v16 v17 v20 v21 v22) (AV.mk v5 v6) (AV.mk v5 v6) 3)) (upS (UX.mk [.ro 5 false false v2, .ro 5 false false v3, .ro 5 false false v4] (SV.mk v15 v16 v17 v20 v21 v22) (AV.mk v5 v6) (AV.mk v5 v6) 3)) v21 (upO (UX.mk [.ro 5 false false v2, .ro 5 false false v3, .ro 5 false false v4] (SV.mk v15 v16 v17 v20 v21 v22) (AV.mk v5 v6) (AV.mk v5 v6) 3)) (upH (UX.mk [.ro 5 false false v2, .ro 5 false false v3, .ro 5 false false v4] (SV.mk v15 v16 v17 v20 v21 v22) (AV.mk v5 v6) (AV.mk v5 v6) 3)) (upM (UX.mk [.ro 5 false false v2, .ro 5 false false v3, .ro 5 false false v4] (SV.mk v15 v16 v17 v20 v21 v22) (AV.mk v5 v6) (AV.mk v5 v6) 3))))) else none else none
def JdQ (f : Nat) (k0 : Bool -> Option Res) : Nat -> Int -> Int -> List
 PV -> List PV -> List PV -> Int -> Int -> Int -> Int -> ByteArray -> Bool -> Bool -> List PV -> Int -> List PV -> Int -> Int -> ByteArray -> Bool -> Bool -> List PV -> Int -> List PV -> Option Res
 | 0, _, _, _, _, _, _, _, _, _, _, _, _, _, _, _, _, _, _, _, _, _, _, _ => none
 | n + 1, v0, v1, v2, v3, v4, v5, v6, v7, v8, v9, v10, v11, v12, v13, v14, v15, v16, v17, v18, v19, v20, v21, v22 => Je8 f (JdQ f k0 n) k0 v0 v1 v2 v3 v4 v5 v6 v7 v8 v9 v10 v11 v12 v13 v14 v15 v16 v17 v18 v19 v20 v21 v22
theorem Jvt (f : Nat) (k : Kont) (n : Nat) (v0 v1 : Int) (v2 v3 v4 : List PV) (v5 v6 v7 v8 : Int) (v9 : ByteArray) (v10 v11 : Bool) (v12 : List PV) (v13 : Int) (v14 : List PV) (v15 v16 : Int) (v17 : ByteArray) (v18 v19 : Bool) (v20 : List PV) (v21 : Int) (v22 : List PV) : XI (fun s k => ev tau F4 0 0 JkS (VP (JgI f)) s k) (n + 1) (Jc JdM N4 [.sc (.int .i64 v0), .ptr 1952 [], .ptr 1953 [], .ptr 1954 [], .ptr 1955 [], .sc (.int .i64 v1)] [(1952, .box false 31 (PV.st 31 [.ro 5 false false v2, .ro 5 false false v3, .ro 5 false false v4])), (1953, .box false 42 (PV.st 42 [.sc (.int .i64 v5), .sc (.int .i64 v6)])), (1954, .box false 39 (PV.st 39 [.st 34 [.sc (.int .i64 v7), .sc (.int .i64 v8)], .sc (.string v9), .ro 42 v10 v11 v12, .sc (.int .i64 v13), .ar 37 v14])), (1955, .box false 39 (PV.st 39 [.st 34 [.sc (.int .i64 v15), .sc (.int .i64 v16)], .sc (.string v17), .ro 42 v18 v19 v20, .sc (.int .i64 v21), .ar 37 v22]))]) (Jq tau 0 JaT k) = Je8 f (fun v0 v1 v2 v3 v4 v5 v6 v7 v8 v9 v10 v11 v12 v13 v14 v15 v16 v17 v18 v19 v20 v21 v22 => XI (fun s k => ev tau F4 0 0 JkS (VP (JgI f)) s k) n (Jc JdM N4 [.sc (.int .i64 v0), .ptr 1952 [], .ptr 1953 [], .ptr 1954 [], .ptr 1955 [], .sc (.int .i64 v1)] [(1952, .box false 31 (PV.st 31 [.ro 5 false false v2, .ro 5 false false v3, .ro 5 false false v4])), (1953, .box false 42 (PV.st 42 [.sc (.int .i64 v5), .sc (.int .i64 v6)])), (1954, .box false 39 (PV.st 39 [.st 34 [.sc (.int .i64 v7), .sc (.int .i64 v8)], .sc (.string v9), .ro 42 v10 v11 v12, .sc (.int .i64 v13), .ar 37 v14])), (1955, .box false 39 (PV.st 39 [.st 34 [.sc (.int .i64 v15), .sc (.int .i64 v16)], .sc (.string v17), .ro 42 v18 v19 v20, .sc (.int .i64 v21), .ar 37 v22]))]) (Jq tau 0 JaT k)) (fun x0 => k Ex.ret (Jc JaT N4 [.sc (.bool x0)] [])) v0 v1 v2 v3 v4 v5 v6 v7 v8 v9 v10 v11 v12 v13 v14 v15 v16 v17 v18 v19 v20 v21 v22 := by kernel_rfl
theorem JnT (f : Nat) (k : Kont) : ∀ (n : Nat) (v0 v1 : Int) (v2 v3 v4 : List PV) (v5 v6 v7 v8 : Int) (v9 : ByteArray) (v10 v11 : Bool) (v12 : List PV) (v13 : Int) (v14 : List PV) (v15 v16 : Int) (v17 : ByteArray) (v18 v19 : Bool) (v20 : List PV) (v21 : Int) (v22 : List PV), XI (fun s k => ev tau F4 0 0 JkS (VP (JgI f)) s k) n (Jc JdM N4 [.sc (.int .i64 v0), .ptr 1952 [], .ptr 1953 [], .ptr 1954 [], .ptr 1955 [], .sc (.int .i64 v1)] [(1952, .box false 31 (PV.st 31 [.ro 5 false false v2, .ro 5 false false v3, .ro 5 false false v4])), (1953, .box false 42 (PV.st 42 [.sc (.int .i64 v5), .sc (.int .i64 v6)])), (1954, .box false 39 (PV.st 39 [.st 34 [.sc (.int .i64 v7), .sc (.int .i64 v8)], .sc (.string v9), .ro 42 v10 v11 v12, .sc (.int .i64 v13), .ar 37 v14])), (1955, .box false 39 (PV.st 39 [.st 34 [.sc (.int .i64 v15), .sc (.int .i64 v16)], .sc (.string v17), .ro 42 v18 v19 v20, .sc (.int .i64 v21), .ar 37 v22]))]) (Jq tau 0 JaT k) = JdQ f (fun x0 => k Ex.ret (Jc JaT N4 [.sc (.bool x0)] [])) n v0 v1 v2 v3 v4 v5 v6 v7 v8 v9 v10 v11 v12 v13 v14 v15 v16 v17 v18 v19 v20 v21 v22 | 0, _, _, _, _, _, _, _, _, _, _, _, _, _, _, _, _, _, _, _, _, _, _, _ => rfl | n + 1, v0, v1, v2, v3, v4, v5, v6, v7, v8, v9, v10, v11, v12, v13, v14, v15, v16, v17, v18, v19, v20, v21, v22 => (Jvt f k n v0 v1 v2 v3 v4 v5 v6 v7 v8 v9 v10 v11 v12 v13 v14 v15 v16 v17 v18 v19 v20 v21 v22).trans (congrArg (fun r => Je8 f r (fun x0 => k Ex.ret (Jc JaT N4 [.sc (.bool x0)] [])) v0 v1 v2 v3 v4 v5 v6 v7 v8 v9 v10 v11 v12 v13 v14 v15 v16 v17 v18 v19 v20 v21 v22) (by funext v0 v1 v2 v3 v4 v5 v6 v7 v8 v9 v10 v11 v12 v13 v14 v15 v16 v17 v18 v19 v20 v21 v22; exact JnT f k n v0 v1 v2 v3 v4 v5 v6 v7 v8 v9 v10 v11 v12 v13 v14 v15 v16 v17 v18 v19 v20 v21 v22))
def JgJ (f : Nat) : List PV -> List (Nat × Ent) -> Kont -> Option Res
 | [.sc (.int .i64 v0), .ptr 1952 [], .ptr 1953 [], .ptr 1954 [], .ptr 1955 [],
 PV.sc
  (Value.int IntKind.i64
   v1)], [(1952, .box false 31 (PV.st 31 [.ro 5 false false v2, .ro 5 false false v3, .ro 5 false false v4])),
 (1953, .box false 42 (PV.st 42 [.sc (.int .i64 v5), .sc (.int .i64 v6)])),
 (1954,
  Ent.box false 39
   (PV.st 39 [.st 34 [.sc (.int .i64 v7), .sc (.int .i64 v8)], .sc (.string v9), .ro 42 v10 v11 v12, .sc (.int .i64 v13), .ar 37 v14])),
 (1955,
  Ent.box false 39
   (PV.st 39
    [.st 34 [.sc (.int .i64 v15), .sc (.int .i64 v16)], .sc (.string v17), .ro 42 v18 v19 v20, .sc (.int .i64 v21),
     PV.ar 37 v22]))], k => JdQ f (fun x0 => k Ex.ret (Jc JaT N4 [.sc (.bool x0)] [])) f v0 v1 v2 v3 v4 v5 v6 v7 v8 v9 v10 v11 v12 v13 v14 v15 v16 v17 v18 v19 v20 v21 v22
 | _, _, _ => none
theorem JAY (f : Nat) : Je JkS (VP (JgI f)) = [.c JkR JdL N4 (JgI f)] := by kernel_rfl
theorem JAZ (f : Nat) : (Item.c JkS JdM N4 (JgJ f)).Ok tau Try.prog 0 := V3 Jr JgG Js (x := (VP (JgI f))) (nm2 := JaT) (Jk _ _ (by rw [JAY f]; simp only [List.forall_mem_cons, List.not_mem_nil, false_implies, implies_true, and_true]; exact JAX f)) fun vs hp k res hr => by
 unfold JgJ at hr
 split at hr
 · exact ⟨f, 0, (JnT f _ f _ _ _ _ _ _ _ _ _ _ _ _ _ _ _ _ _ _ _ _ _ _ _ ).trans hr⟩
 · cases hr
def Je9 (f : Nat) (rc : Int -> List PV -> List PV -> List PV -> Int -> Int -> Int -> Int -> ByteArray -> Bool -> Bool -> List PV -> Int -> List PV -> Option Res) (k0 : Bool -> Option Res) (v0 : Int) (v1 v2 v3 : List PV) (v4 v5 v6 v7 : Int) (v8 : ByteArray) (v9 v10 : Bool) (v11 : List PV) (v12 : Int) (v13 : List PV) : Option Res := bif sOk (SV.mk v6 v7 v8 v11 v12 v13) && (kO3 [.ro 5 false false v1, .ro 5 false false v2, .ro 5 false false v3] && (kIn v6 && kIn v4)) then bif sOk (SV.mk v6 v7 v8 v11 v12 v13) && eD (EW.mk (upB (UX.mk [.ro 5 false false v1, .ro 5 false false v2, .ro 5 false false v3] (SV.mk v6 v7 v8 v11 v12 v13) (AV.mk v4 v5) (AV.mk 0 0) 1)) (upS (UX.mk [.ro 5 false false v1, .ro 5 false false v2, .ro 5 false false v3] (SV.mk v6 v7 v8 v11 v12 v13) (AV.mk v4 v5) (AV.mk 0 0) 1)) v12 (upO (UX.mk [.ro 5 false false v1, .ro 5 false false v2, .ro 5 false false v3] (SV.mk v6 v7 v8 v11 v12 v13) (AV.mk v4 v5) (AV.mk 0 0) 1)) (upH (UX.mk [.ro 5 false false v1, .ro 5 false false v2, .ro 5 false false v3] (SV.mk v6 v7 v8 v11 v12 v13) (AV.mk v4 v5) (AV.mk 0 0) 1)) (upM (UX.mk [.ro 5 false false v1, .ro 5 false false v2, .ro 5 false false v3] (SV.mk v6 v7 v8 v11 v12 v13) (AV.mk v4 v5) (AV.mk 0 0) 1))) && (zOk v9 v11 && slB false (upB (UX.mk [.ro 5 false false v1, .ro 5 false false v2, .ro 5 false false v3] (SV.mk v6 v7 v8 v11 v12 v13) (AV.mk v4 v5) (AV.mk 0 0) 1))) then JdQ f (fun x0_1 => k0 x0_1) f v0 (dsE (DX.mk (SV.mk v6 v7 v8 v11 v12 v13) (EW.mk (upB (UX.mk [.ro 5 false false v1, .ro 5 false false v2, .ro 5 false false v3] (SV.mk v6 v7 v8 v11 v12 v13) (AV.mk v4 v5) (AV.mk 0 0) 1)) (upS (UX.mk [.ro 5 false false v1, .ro 5 false false v2, .ro 5 false false v3] (SV.mk v6 v7 v8 v11 v12 v13) (AV.mk v4 v5) (AV.mk 0 0) 1)) v12 (upO (UX.mk [.ro 5 false false v1, .ro 5 false false v2, .ro 5 false false v3] (SV.mk v6 v7 v8 v11 v12 v13) (AV.mk v4 v5) (AV.mk 0 0) 1)) (upH (UX.mk [.ro 5 false false v1, .ro 5 false false v2, .ro 5 false false v3] (SV.mk v6 v7 v8 v11 v12 v13) (AV.mk v4 v5) (AV.mk 0 0) 1)) (upM (UX.mk [.ro 5 false false v1, .ro 5 false false v2, .ro 5 false false v3] (SV.mk v6 v7 v8 v11 v12 v13) (AV.mk v4 v5) (AV.mk 0 0) 1))))) v1 v2 v3 v4 v5 v6 v7 v8 v9 v10 v11 v12 v13 v6 v7 (dsD (DX.mk (SV.mk v6 v7 v8 v11 v12 v13) (EW.mk (upB (UX.mk [.ro 5 false false v1, .ro 5 false false v2, .ro 5 false false v3] (SV.mk v6 v7 v8 v11 v12 v13) (AV.mk v4 v5) (AV.mk 0 0) 1)) (upS (UX.mk [.ro 5 false false v1, .ro 5 false false v2, .ro 5 false false v3] (SV.mk v6 v7 v8 v11 v12 v13) (AV.mk v4 v5) (AV.mk 0 0) 1)) v12 (upO (UX.mk [.ro 5 false false v1, .ro 5 false false v2, .ro 5 false false v3] (SV.mk v6 v7 v8 v11 v12 v13) (AV.mk v4 v5) (AV.mk 0 0) 1)) (upH (UX.mk [.ro 5 false false v1, .ro 5 false false v2, .ro 5 false false v3] (SV.mk v6 v7 v8 v11 v12 v13) (AV.mk v4 v5) (AV.mk 0 0) 1)) (upM (UX.mk [.ro 5 false false v1, .ro 5 false false v2, .ro 5 false false v3] (SV.mk v6 v7 v8 v11 v12 v13) (AV.mk v4 v5) (AV.mk 0 0) 1))))) (dsZ (DX.mk (SV.mk v6 v7 v8 v11 v12 v13) (EW.mk (upB (UX.mk [.ro 5 false false v1, .ro 5 false false v2, .ro 5 false false v3] (SV.mk v6 v7 v8 v11 v12 v13) (AV.mk v4 v5) (AV.mk 0 0) 1)) (upS (UX.mk [.ro 5 false false v1, .ro 5 false false v2, .ro 5 false false v3] (SV.mk v6 v7 v8 v11 v12 v13) (AV.mk v4 v5) (AV.mk 0 0) 1)) v12 (upO (UX.mk [.ro 5 false false v1, .ro 5 false false v2, .ro 5 false false v3] (SV.mk v6 v7 v8 v11 v12 v13) (AV.mk v4 v5) (AV.mk 0 0) 1)) (upH (UX.mk [.ro 5 false false v1, .ro 5 false false v2, .ro 5 false false v3] (SV.mk v6 v7 v8 v11 v12 v13) (AV.mk v4 v5) (AV.mk 0 0) 1)) (upM (UX.mk [.ro 5 false false v1, .ro 5 false false v2, .ro 5 false false v3] (SV.mk v6 v7 v8 v11 v12 v13) (AV.mk v4 v5) (AV.mk 0 0) 1)))) v9) (dsZ (DX.mk (SV.mk v6 v7 v8 v11 v12 v13) (EW.mk (upB (UX.mk [.ro 5 false false v1, .ro 5 false false v2, .ro 5 false false v3] (SV.mk v6 v7 v8 v11 v12 v13) (AV.mk v4 v5) (AV.mk 0 0) 1)) (upS (UX.mk [.ro 5 false false v1, .ro 5 false false v2, .ro 5 false false v3] (SV.mk v6 v7 v8 v11 v12 v13) (AV.mk v4 v5) (AV.mk 0 0) 1)) v12 (upO (UX.mk [.ro 5 false false v1, .ro 5 false false v2, .ro 5 false false v3] (SV.mk v6 v7 v8 v11 v12 v13) (AV.mk v4 v5) (AV.mk 0 0) 1)) (upH (UX.mk [.ro 5 false false v1, .ro 5 false false v2, .ro 5 false false v3] (SV.mk v6 v7 v8 v11 v12 v13) (AV.mk v4 v5) (AV.mk 0 0) 1)) (upM (UX.mk [.ro 5 false false v1, .ro 5 false false v2, .ro 5 false false v3] (SV.mk v6 v7 v8 v11 v12 v13) (AV.mk v4 v5) (AV.mk 0 0) 1)))) v9) (dsL (DX.mk (SV.mk v6 v7 v8 v11 v12 v13) (EW.mk (upB (UX.mk [.ro 5 false false v1, .ro 5 false false v2, .ro 5 false false v3] (SV.mk v6 v7 v8 v11 v12 v13) (AV.mk v4 v5) (AV.mk 0 0) 1)) (upS (UX.mk [.ro 5 false false v1, .ro 5 false false v2, .ro 5 false false v3] (SV.mk v6 v7 v8 v11 v12 v13) (AV.mk v4 v5) (AV.mk 0 0) 1)) v12 (upO (UX.mk [.ro 5 false false v1, .ro 5 false false v2, .ro 5 false false v3] (SV.mk v6 v7 v8 v11 v12 v13) (AV.mk v4 v5) (AV.mk 0 0) 1)) (upH (UX.mk [.ro 5 false false v1, .ro 5 false false v2, .ro 5 false false v3] (SV.mk v6 v7 v8 v11 v12 v13) (AV.mk v4 v5) (AV.mk 0 0) 1)) (upM (UX.mk [.ro 5 false false v1, .ro 5 false false v2, .ro 5 false false v3] (SV.mk v6 v7 v8 v11 v12 v13) (AV.mk v4 v5) (AV.mk 0 0) 1))))) (dsV (DX.mk (SV.mk v6 v7 v8 v11 v12 v13) (EW.mk (upB (UX.mk [.ro 5 false false v1, .ro 5 false false v2, .ro 5 false false v3] (SV.mk v6 v7 v8 v11 v12 v13) (AV.mk v4 v5) (AV.mk 0 0) 1)) (upS (UX.mk [.ro 5 false false v1, .ro 5 false false v2, .ro 5 false false v3] (SV.mk v6 v7 v8 v11 v12 v13) (AV.mk v4 v5) (AV.mk 0 0) 1)) v12 (upO (UX.mk [.ro 5 false false v1, .ro 5 false false v2, .ro 5 false false v3] (SV.mk v6 v7 v8 v11 v12 v13) (AV.mk v4 v5) (AV.mk 0 0) 1)) (upH (UX.mk [.ro 5 false false v1, .ro 5 false false v2, .ro 5 false false v3] (SV.mk v6 v7 v8 v11 v12 v13) (AV.mk v4 v5) (AV.mk 0 0) 1)) (upM (UX.mk [.ro 5 false false v1, .ro 5 false false v2, .ro 5 false false v3] (SV.mk v6 v7 v8 v11 v12 v13) (AV.mk v4 v5) (AV.mk 0 0) 1))))) (dsH (DX.mk (SV.mk v6 v7 v8 v11 v12 v13) (EW.mk (upB (UX.mk [.ro 5 false false v1, .ro 5 false false v2, .ro 5 false false v3] (SV.mk v6 v7 v8 v11 v12 v13) (AV.mk v4 v5) (AV.mk 0 0) 1)) (upS (UX.mk [.ro 5 false false v1, .ro 5 false false v2, .ro 5 false false v3] (SV.mk v6 v7 v8 v11 v12 v13) (AV.mk v4 v5) (AV.mk 0 0) 1)) v12 (upO (UX.mk [.ro 5 false false v1, .ro 5 false false v2, .ro 5 false false v3] (SV.mk v6 v7 v8 v11 v12 v13) (AV.mk v4 v5) (AV.mk 0 0) 1)) (upH (UX.mk [.ro 5 false false v1, .ro 5 false false v2, .ro 5 false false v3] (SV.mk v6 v7 v8 v11 v12 v13) (AV.mk v4 v5) (AV.mk 0 0) 1)) (upM (UX.mk [.ro 5 false false v1, .ro 5 false false v2, .ro 5 false false v3] (SV.mk v6 v7 v8 v11 v12 v13) (AV.mk v4 v5) (AV.mk 0 0) 1))))) else none else none
def JdR (f : Nat) (k0 : Bool -> Option Res) : Nat -> Int -> List PV -> List PV -> List PV -> Int -> Int -> Int -> Int -> ByteArray -> Bool -> Bool -> List PV -> Int -> List PV -> Option Res
 | 0, _, _, _, _, _, _, _, _, _, _, _, _, _, _ => none
 | n + 1, v0, v1, v2, v3, v4, v5, v6, v7, v8, v9, v10, v11, v12, v13 => Je9 f (JdR f k0 n) k0 v0 v1 v2 v3 v4 v5 v6 v7 v8 v9 v10 v11 v12 v13
theorem Jvu (f : Nat) (k : Kont) (n : Nat) (v0 : Int) (v1 v2 v3 : List PV) (v4 v5 v6 v7 : Int) (v8 : ByteArray) (v9 v10 : Bool) (v11 : List PV) (v12 : Int) (v13 : List PV) : XI (fun s k => ev tau F4 0 0 JkT (Wf (JgJ f)) s k) (n + 1) (Jc JdN N4 [.sc (.int .i64 v0), .ptr 1952 [], .ptr 1953 [], .ptr 1954 []] [(1952, .box false 31 (PV.st 31 [.ro 5 false false v1, .ro 5 false false v2, .ro 5 false false v3])), (1953, .box false 42 (PV.st 42 [.sc (.int .i64 v4), .sc (.int .i64 v5)])), (1954, .box false 39 (PV.st 39 [.st 34 [.sc (.int .i64 v6), .sc (.int .i64 v7)], .sc (.string v8), .ro 42 v9 v10 v11, .sc (.int .i64 v12), .ar 37 v13]))]) (Jq tau 0 JaU k) = Je9 f (fun v0 v1 v2 v3 v4 v5 v6 v7 v8 v9 v10 v11 v12 v13 => XI (fun s k => ev tau F4 0 0 JkT (Wf (JgJ f)) s k) n (Jc JdN N4 [.sc (.int .i64 v0), .ptr 1952 [], .ptr 1953 [], .ptr 1954 []] [(1952, .box false 31 (PV.st 31 [.ro 5 false false v1, .ro 5 false false v2, .ro 5 false false v3])), (1953, .box false 42 (PV.st 42 [.sc (.int .i64 v4), .sc (.int .i64 v5)])), (1954, .box false 39 (PV.st 39 [.st 34 [.sc (.int .i64 v6), .sc (.int .i64 v7)], .sc (.string v8), .ro 42 v9 v10 v11, .sc (.int .i64 v12), .ar 37 v13]))]) (Jq tau 0 JaU k)) (fun x0 => k Ex.ret (Jc JaU N4 [.sc (.bool x0)] [])) v0 v1 v2 v3 v4 v5 v6 v7 v8 v9 v10 v11 v12 v13 := by kernel_rfl
theorem JnU (f : Nat) (k : Kont) : ∀ (n : Nat) (v0 : Int) (v1 v2 v3 : List PV) (v4 v5 v6 v7 : Int) (v8 : ByteArray) (v9 v10 : Bool) (v11 : List PV) (v12 : Int) (v13 : List PV), XI (fun s k => ev tau F4 0 0 JkT (Wf (JgJ f)) s k) n (Jc JdN N4 [.sc (.int .i64 v0), .ptr 1952 [], .ptr 1953 [], .ptr 1954 []] [(1952, .box false 31 (PV.st 31 [.ro 5 false false v1, .ro 5 false false v2, .ro 5 false false v3])), (1953, .box false 42 (PV.st 42 [.sc (.int .i64 v4), .sc (.int .i64 v5)])), (1954, .box false 39 (PV.st 39 [.st 34 [.sc (.int .i64 v6), .sc (.int .i64 v7)], .sc (.string v8), .ro 42 v9 v10 v11, .sc (.int .i64 v12), .ar 37 v13]))]) (Jq tau 0 JaU k) = JdR f (fun x0 => k Ex.ret (Jc JaU N4 [.sc (.bool x0)] [])) n v0 v1 v2 v3 v4 v5 v6 v7 v8 v9 v10 v11 v12 v13 | 0, _, _, _, _, _, _, _, _, _, _, _, _, _, _ => rfl | n + 1, v0, v1, v2, v3, v4, v5, v6, v7, v8, v9, v10, v11, v12, v13 => (Jvu f k n v0 v1 v2 v3 v4 v5 v6 v7 v8 v9 v10 v11 v12 v13).trans (congrArg (fun r => Je9 f r (fun x0 => k Ex.ret (Jc JaU N4 [.sc (.bool x0)] [])) v0 v1 v2 v3 v4 v5 v6 v7 v8 v9 v10 v11 v12 v13) (by funext v0 v1 v2 v3 v4 v5 v6 v7 v8 v9 v10 v11 v12 v13; exact JnU f k n v0 v1 v2 v3 v4 v5 v6 v7 v8 v9 v10 v11 v12 v13))
def JgK (f : Nat) : List PV -> List (Nat × Ent) -> Kont -> Option Res
 | [.sc (.int .i64 v0), .ptr 1952 [], .ptr 1953 [],
 PV.ptr 1954
  []], [(1952, .box false 31 (PV.st 31 [.ro 5 false false v1, .ro 5 false false v2, .ro 5 false false v3])),
 (1953, .box false 42 (PV.st 42 [.sc (.int .i64 v4), .sc (.int .i64 v5)])),
 (1954,
  Ent.box false 39
   (PV.st 39
    [.st 34 [.sc (.int .i64 v6), .sc (.int .i64 v7)], .sc (.string v8), .ro 42 v9 v10 v11, .sc (.int .i64 v12),
     PV.ar 37 v13]))], k => JdR f (fun x0 => k Ex.ret (Jc JaU N4 [.sc (.bool x0)] [])) f v0 v1 v2 v3 v4 v5 v6 v7 v8 v9 v10 v11 v12 v13
 | _, _, _ => none
theorem JA0 (f : Nat) : Je JkT (Wf (JgJ f)) = [.c JkS JdM N4 (JgJ f)] := by kernel_rfl
theorem JA1 (f : Nat) : (Item.c JkT JdN N4 (JgK f)).Ok tau Try.prog 0 := V3 Jr JgG Js (x := (Wf (JgJ f))) (nm2 := JaU) (Jk _ _ (by rw [JA0 f]; simp only [List.forall_mem_cons, List.not_mem_nil, false_implies, implies_true, and_true]; exact JAZ f)) fun vs hp k res hr => by
 unfold JgK at hr
 split at hr
 · exact ⟨f, 0, (JnU f _ f _ _ _ _ _ _ _ _ _ _ _ _ _ _ ).trans hr⟩
 · cases hr
def Jfa (f : Nat) (rc : Int -> List PV -> List PV -> List PV -> Int -> Int -> ByteArray -> List PV -> Int -> List PV -> Int -> Int -> List PV -> List PV -> Int -> List PV -> List PV -> List PV -> Option Res) (k0 : Bool -> Option Res) (v0 : Int) (v1 v2 v3 : List PV) (v4 v5 : Int) (v6 : ByteArray) (v7 : List PV) (v8 : Int) (v9 : List PV) (v10 v11 : Int) (v12 v13 : List PV) (v14 : Int) (v15 v16 v17 : List PV) : Option Res := bif sOk (SV.mk v4 v5 v6 v7 v8 v9) && eD (EW.mk v12 v13 v14 v15 v16 v17) && (zOk false v7 && slB false v12) then bif dsE (DX.mk (SV.mk v4 v5 v6 v7 v8 v9) (EW.mk v12 v13 v14 v15 v16 v17)) != 0 then k0 false else JdR f (fun x0_2 => k0 x0_2) f v0 v1 v2 v3 v10 v11 v4 v5 (dsD (DX.mk (SV.mk v4 v5 v6 v7 v8 v9) (EW.mk v12 v13 v14 v15 v16 v17))) (dsZ (DX.mk (SV.mk v4 v5 v6 v7 v8 v9) (EW.mk v12 v13 v14 v15 v16 v17)) false) (dsZ (DX.mk (SV.mk v4 v5 v6 v7 v8 v9) (EW.mk v12 v13 v14 v15 v16 v17)) false) (dsL (DX.mk (SV.mk v4 v5 v6 v7 v8 v9) (EW.mk v12 v13 v14 v15 v16 v17))) (dsV (DX.mk (SV.mk v4 v5 v6 v7 v8 v9) (EW.mk v12 v13 v14 v15 v16 v17))) (dsH (DX.mk (SV.mk v4 v5 v6 v7 v8 v9) (EW.mk v12 v13 v14 v15 v16 v17))) else none
def JgL (f : Nat) (k0 : Bool -> Option Res) : Nat -> Int -> List
 PV -> List PV -> List PV -> Int -> Int -> ByteArray -> List PV -> Int -> List PV -> Int -> Int -> List PV -> List PV -> Int -> List PV -> List PV -> List PV -> Option Res
 | 0, _, _, _, _, _, _, _, _, _, _, _, _, _, _, _, _, _, _ => none
 | n + 1, v0, v1, v2, v3, v4, v5, v6, v7, v8, v9, v10, v11, v12, v13, v14, v15, v16, v17 => Jfa f (JgL f k0 n) k0 v0 v1 v2 v3 v4 v5 v6 v7 v8 v9 v10 v11 v12 v13 v14 v15 v16 v17
theorem Jvv (f : Nat) (k : Kont) (n : Nat) (v0 : Int) (v1 v2 v3 : List PV) (v4 v5 : Int) (v6 : ByteArray) (v7 : List PV) (v8 : Int) (v9 : List PV) (v10 v11 : Int) (v12 v13 : List PV) (v14 : Int) (v15 v16 v17 : List PV) : XI (fun s k => ev tau F4 0 0 JkU (QI (JgK f)) s k) (n + 1) (Jc JdO N4 [.sc (.int .i64 v0), .ptr 1952 [], .ptr 1953 [], .ptr 1954 [], .ptr 1955 []] [(1952, .box false 31 (PV.st 31 [.ro 5 false false v1, .ro 5 false false v2, .ro 5 false false v3])), (1953, .box false 58 (PV.st 58 [.st 34 [.sc (.int .i64 v4), .sc (.int .i64 v5)], .sc (.string v6), .ro 42 false false v7, .sc (.int .i64 v8), .ar 37 v9])), (1954, .box false 42 (PV.st 42 [.sc (.int .i64 v10), .sc (.int .i64 v11)])), (1955, .box false 51 (PV.st 51 [.st 47 [.ro 5 false false v12, .ar 37 v13], .sc (.int .i64 v14), .ro 113 false false v15, .ar 37 v16, .ar 37 v17]))]) (Jq tau 0 JaV k) = Jfa f (fun v0 v1 v2 v3 v4 v5 v6 v7 v8 v9 v10 v11 v12 v13 v14 v15 v16 v17 => XI (fun s k => ev tau F4 0 0 JkU (QI (JgK f)) s k) n (Jc JdO N4 [.sc (.int .i64 v0), .ptr 1952 [], .ptr 1953 [], .ptr 1954 [], .ptr 1955 []] [(1952, .box false 31 (PV.st 31 [.ro 5 false false v1, .ro 5 false false v2, .ro 5 false false v3])), (1953, .box false 58 (PV.st 58 [.st 34 [.sc (.int .i64 v4), .sc (.int .i64 v5)], .sc (.string v6), .ro 42 false false v7, .sc (.int .i64 v8), .ar 37 v9])), (1954, .box false 42 (PV.st 42 [.sc (.int .i64 v10), .sc (.int .i64 v11)])), (1955, .box false 51 (PV.st 51 [.st 47 [.ro 5 false false v12, .ar 37 v13], .sc (.int .i64 v14), .ro 113 false false v15, .ar 37 v16, .ar 37 v17]))]) (Jq tau 0 JaV k)) (fun x0 => k Ex.ret (Jc JaV N4 [.sc (.bool x0)] [])) v0 v1 v2 v3 v4 v5 v6 v7 v8 v9 v10 v11 v12 v13 v14 v15 v16 v17 := by kernel_rfl
theorem JnV (f : Nat) (k : Kont) : ∀ (n : Nat) (v0 : Int) (v1 v2 v3 : List PV) (v4 v5 : Int) (v6 : ByteArray) (v7 : List PV) (v8 : Int) (v9 : List PV) (v10 v11 : Int) (v12 v13 : List PV) (v14 : Int) (v15 v16 v17 : List PV), XI (fun s k => ev tau F4 0 0 JkU (QI (JgK f)) s k) n (Jc JdO N4 [.sc (.int .i64 v0), .ptr 1952 [], .ptr 1953 [], .ptr 1954 [], .ptr 1955 []] [(1952, .box false 31 (PV.st 31 [.ro 5 false false v1, .ro 5 false false v2, .ro 5 false false v3])), (1953, .box false 58 (PV.st 58 [.st 34 [.sc (.int .i64 v4), .sc (.int .i64 v5)], .sc (.string v6), .ro 42 false false v7, .sc (.int .i64 v8), .ar 37 v9])), (1954, .box false 42 (PV.st 42 [.sc (.int .i64 v10), .sc (.int .i64 v11)])), (1955, .box false 51 (PV.st 51 [.st 47 [.ro 5 false false v12, .ar 37 v13], .sc (.int .i64 v14), .ro 113 false false v15, .ar 37 v16, .ar 37 v17]))]) (Jq tau 0 JaV k) = JgL f (fun x0 => k Ex.ret (Jc JaV N4 [.sc (.bool x0)] [])) n v0 v1 v2 v3 v4 v5 v6 v7 v8 v9 v10 v11 v12 v13 v14 v15 v16 v17 | 0, _, _, _, _, _, _, _, _, _, _, _, _, _, _, _, _, _, _ => rfl | n + 1, v0, v1, v2, v3, v4, v5, v6, v7, v8, v9, v10, v11, v12, v13, v14, v15, v16, v17 => (Jvv f k n v0 v1 v2 v3 v4 v5 v6 v7 v8 v9 v10 v11 v12 v13 v14 v15 v16 v17).trans (congrArg (fun r => Jfa f r (fun x0 => k Ex.ret (Jc JaV N4 [.sc (.bool x0)] [])) v0 v1 v2 v3 v4 v5 v6 v7 v8 v9 v10 v11 v12 v13 v14 v15 v16 v17) (by funext v0 v1 v2 v3 v4 v5 v6 v7 v8 v9 v10 v11 v12 v13 v14 v15 v16 v17; exact JnV f k n v0 v1 v2 v3 v4 v5 v6 v7 v8 v9 v10 v11 v12 v13 v14 v15 v16 v17))
def JiH (f : Nat) : List PV -> List (Nat × Ent) -> Kont -> Option Res
 | [.sc (.int .i64 v0), .ptr 1952 [], .ptr 1953 [], .ptr 1954 [],
 PV.ptr 1955
  []], [(1952, .box false 31 (PV.st 31 [.ro 5 false false v1, .ro 5 false false v2, .ro 5 false false v3])),
 (1953,
  Ent.box false 58
   (PV.st 58 [.st 34 [.sc (.int .i64 v4), .sc (.int .i64 v5)], .sc (.string v6), .ro 42 false false v7, .sc (.int .i64 v8), .ar 37 v9])),
 (1954, .box false 42 (PV.st 42 [.sc (.int .i64 v10), .sc (.int .i64 v11)])),
 (1955,
  Ent.box false 51
   (PV.st 51
    [.st 47 [.ro 5 false false v12, .ar 37 v13], .sc (.int .i64 v14), .ro 113 false false v15, .ar 37 v16,
     PV.ar 37 v17]))], k => JgL f (fun x0 => k Ex.ret (Jc JaV N4 [.sc (.bool x0)] [])) f v0 v1 v2 v3 v4 v5 v6 v7 v8 v9 v10 v11 v12 v13 v14 v15 v16 v17
 | _, _, _ => none
theorem JA2 (f : Nat) : Je JkU (QI (JgK f)) = [.c JkT JdN N4 (JgK f)] := by kernel_rfl
theorem JA3 (f : Nat) : (Item.c JkU JdO N4 (JiH f)).Ok tau Try.prog 0 := V3 Jr JgG Js (x := (QI (JgK f))) (nm2 := JaV) (Jk _ _ (by rw [JA2 f]; simp only [List.forall_mem_cons, List.not_mem_nil, false_implies, implies_true, and_true]; exact JA1 f)) fun vs hp k res hr => by
 unfold JiH at hr
 split at hr
 · exact ⟨f, 0, (JnV f _ f _ _ _ _ _ _ _ _ _ _ _ _ _ _ _ _ _ _ ).trans hr⟩
 · cases hr
def g4 (f : Nat) (who : Int) (ns_z ns_f : Bool) (ns : List PV) (kind : Int) (k : Res -> Option Res) : Option Res := bif okL (apI [] 0).length (apI [] 0) then bif okL (apI (apI [] 0) 0).length (apI (apI [] 0) 0) then bif okL (apI (apI (apI [] 0) 0) 0).length (apI (apI (apI [] 0) 0) 0) then bif Jl IntKind.u8 (List.take (apI (apI (apI (apI [] 0) 0) 0) 1).length (apI (apI (apI (apI [] 0) 0) 0) 1)) && decide ((List.take (apI (apI (apI (apI [] 0) 0) 0) 1).length (apI (apI (apI (apI [] 0) 0) 0) 1)).length <= 140737488355000) then bif okW 2 then bif okW 8 then bif sOk (SV.mk 0 0 (ByteArray.mk (Array.mk [])) [.st 42 [.sc (.int .i64 0), .sc (.int .i64 1)]] 0 (pu IntKind.u8 (JL (Ju (List.take (apI (apI (apI (apI [] 0) 0) 0) 1).length (apI (apI (apI (apI [] 0) 0) 0) 1)))))) && (kO3 [.ro 5 false false (kb 0 []), .ro 5 false false (kb 1 []), .ro 5 false false (kb 2 [])] && (kIn 0 && kIn (IntKind.i64.wrap (1 + who % 2)))) then bif sOk (SV.mk 0 0 (ByteArray.mk (Array.mk [])) [.st 42 [.sc (.int .i64 0), .sc (.int .i64 1)]] 0 (pu IntKind.u8 (JL (Ju (List.take (apI (apI (apI (apI [] 0) 0) 0) 1).length (apI (apI (apI (apI [] 0) 0) 0) 1)))))) && eD (EW.mk (upB (UX.mk [.ro 5 false false (kb 0 []), .ro 5 false false (kb 1 []), .ro 5 false false (kb 2 [])] (SV.mk 0 0 (ByteArray.mk (Array.mk [])) [.st 42 [.sc (.int .i64 0), .sc (.int .i64 1)]] 0 (pu IntKind.u8 (JL (Ju (List.take (apI (apI (apI (apI [] 0) 0) 0) 1).length (apI (apI (apI (apI [] 0) 0) 0) 1)))))) (AV.mk (IntKind.i64.wrap (1 + who % 2)) (IntKind.i64.wrap (who.tdiv 2) % 8)) (AV.mk 0 0) 1)) (upS (UX.mk [.ro 5 false false (kb 0 []), .ro 5 false false (kb 1 []), .ro 5 false false (kb 2 [])] (SV.mk 0 0 (ByteArray.mk (Array.mk [])) [.st 42 [.sc (.int .i64 0), .sc (.int .i64 1)]] 0 (pu IntKind.u8 (JL (Ju (List.take (apI (apI (apI (apI [] 0) 0) 0) 1).length (apI (apI (apI (apI [] 0) 0) 0) 1)))))) (AV.mk (IntKind.i64.wrap (1 + who % 2)) (IntKind.i64.wrap (who.tdiv 2) % 8)) (AV.mk 0 0) 1)) 0 (upO (UX.mk [.ro 5 false false (kb 0 []), .ro 5 false false (kb 1 []), .ro 5 false false (kb 2 [])] (SV.mk 0 0 (ByteArray.mk (Array.mk [])) [.st 42 [.sc (.int .i64 0), .sc (.int .i64 1)]] 0 (pu IntKind.u8 (JL (Ju (List.take (apI (apI (apI (apI [] 0) 0) 0) 1).length (apI (apI (apI (apI [] 0) 0) 0) 1)))))) (AV.mk (IntKind.i64.wrap (1 + who % 2)) (IntKind.i64.wrap (who.tdiv 2) % 8)) (AV.mk 0 0) 1)) (upH (UX.mk [.ro 5 false false (kb 0 []), .ro 5 false false (kb 1 []), .ro 5 false false (kb 2 [])] (SV.mk 0 0 (ByteArray.mk (Array.mk [])) [.st 42 [.sc (.int .i64 0), .sc (.int .i64 1)]] 0 (pu IntKind.u8 (JL (Ju (List.take (apI (apI (apI (apI [] 0) 0) 0) 1).length (apI (apI (apI (apI [] 0) 0) 0) 1)))))) (AV.mk (IntKind.i64.wrap (1 + who % 2)) (IntKind.i64.wrap (who.tdiv 2) % 8)) (AV.mk 0 0) 1)) (upM (UX.mk [.ro 5 false false (kb 0 []), .ro 5 false false (kb 1 []), .ro 5 false false (kb 2 [])] (SV.mk 0 0 (ByteArray.mk (Array.mk [])) [.st 42 [.sc (.int .i64 0), .sc (.int .i64 1)]] 0 (pu IntKind.u8 (JL (Ju (List.take (apI (apI (apI (apI [] 0) 0) 0) 1).length (apI (apI (apI (apI [] 0) 0) 0) 1)))))) (AV.mk (IntKind.i64.wrap (1 + who % 2)) (IntKind.i64.wrap (who.tdiv 2) % 8)) (AV.mk 0 0) 1))) && (zOk false [.st 42 [.sc (.int .i64 0), .sc (.int .i64 1)]] && slB false (upB (UX.mk [.ro 5 false false (kb 0 []), .ro 5 false false (kb 1 []), .ro 5 false false (kb 2 [])] (SV.mk 0 0 (ByteArray.mk (Array.mk [])) [.st 42 [.sc (.int .i64 0), .sc (.int .i64 1)]] 0 (pu IntKind.u8 (JL (Ju (List.take (apI (apI (apI (apI [] 0) 0) 0) 1).length (apI (apI (apI (apI [] 0) 0) 0) 1)))))) (AV.mk (IntKind.i64.wrap (1 + who % 2)) (IntKind.i64.wrap (who.tdiv 2) % 8)) (AV.mk 0 0) 1))) then bif dsE (DX.mk (SV.mk 0 0 (ByteArray.mk (Array.mk [])) [.st 42 [.sc (.int .i64 0), .sc (.int .i64 1)]] 0 (pu IntKind.u8 (JL (Ju (List.take (apI (apI (apI (apI [] 0) 0) 0) 1).length (apI (apI (apI (apI [] 0) 0) 0) 1)))))) (EW.mk (upB (UX.mk [.ro 5 false false (kb 0 []), .ro 5 false false (kb 1 []), .ro 5 false false (kb 2 [])] (SV.mk 0 0 (ByteArray.mk (Array.mk [])) [.st 42 [.sc (.int .i64 0), .sc (.int .i64 1)]] 0 (pu IntKind.u8 (JL (Ju (List.take (apI (apI (apI (apI [] 0) 0) 0) 1).length (apI (apI (apI (apI [] 0) 0) 0) 1)))))) (AV.mk (IntKind.i64.wrap (1 + who % 2)) (IntKind.i64.wrap (who.tdiv 2) % 8)) (AV.mk 0 0) 1)) (upS (UX.mk [.ro 5 false false (kb 0 []), .ro 5 false false (kb 1 []), .ro 5 false false (kb 2 [])] (SV.mk 0 0 (ByteArray.mk (Array.mk [])) [.st 42 [.sc (.int .i64 0), .sc (.int .i64 1)]] 0 (pu IntKind.u8 (JL (Ju (List.take (apI (apI (apI (apI [] 0) 0) 0) 1).length (apI (apI (apI (apI [] 0) 0) 0) 1)))))) (AV.mk (IntKind.i64.wrap (1 + who % 2)) (IntKind.i64.wrap (who.tdiv 2) % 8)) (AV.mk 0 0) 1)) 0 (upO (UX.mk [.ro 5 false false (kb 0 []), .ro 5 false false (kb 1 []), .ro 5 false false (kb 2 [])] (SV.mk 0 0 (ByteArray.mk (Array.mk [])) [.st 42 [.sc (.int .i64 0), .sc (.int .i64 1)]] 0 (pu IntKind.u8 (JL (Ju (List.take (apI (apI (apI (apI [] 0) 0) 0) 1).length (apI (apI (apI (apI [] 0) 0) 0) 1)))))) (AV.mk (IntKind.i64.wrap (1 + who % 2)) (IntKind.i64.wrap (who.tdiv 2) % 8)) (AV.mk 0 0) 1)) (upH (UX.mk [.ro 5 false false (kb 0 []), .ro 5 false false (kb 1 []), .ro 5 false false (kb 2 [])] (SV.mk 0 0 (ByteArray.mk (Array.mk [])) [.st 42 [.sc (.int .i64 0), .sc (.int .i64 1)]] 0 (pu IntKind.u8 (JL (Ju (List.take (apI (apI (apI (apI [] 0) 0) 0) 1).length (apI (apI (apI (apI [] 0) 0) 0) 1)))))) (AV.mk (IntKind.i64.wrap (1 + who % 2)) (IntKind.i64.wrap (who.tdiv 2) % 8)) (AV.mk 0 0) 1)) (upM (UX.mk [.ro 5 false false (kb 0 []), .ro 5 false false (kb 1 []), .ro 5 false false (kb 2 [])] (SV.mk 0 0 (ByteArray.mk (Array.mk [])) [.st 42 [.sc (.int .i64 0), .sc (.int .i64 1)]] 0 (pu IntKind.u8 (JL (Ju (List.take (apI (apI (apI (apI [] 0) 0) 0) 1).length (apI (apI (apI (apI [] 0) 0) 0) 1)))))) (AV.mk (IntKind.i64.wrap (1 + who % 2)) (IntKind.i64.wrap (who.tdiv 2) % 8)) (AV.mk 0 0) 1)))) != 13 then k (Res.mk (.sc (.bool false)) [] []) else bif sOk (SV.mk 0 0 (ByteArray.mk (Array.mk [])) [.st 42 [.sc (.int .i64 0), .sc (.int .i64 1)]] 0 (pu IntKind.u8 (JL (Ju (List.take (apI (apI (apI (apI [] 0) 0) 0) 1).length (apI (apI (apI (apI [] 0) 0) 0) 1)))))) && (kO3 [.ro 5 false false (kb 0 []), .ro 5 false false (kb 1 []), .ro 5 false false (kb 2 [])] && (kIn 0 && kIn 0)) then JgL f (fun x0_3 => k (Res.mk (.sc (.bool x0_3)) [] [])) f kind (kb 0 []) (kb 1 []) (kb 2 []) (0) (0) (ByteArray.mk (Array.mk [])) ([.st 42 [.sc (.int .i64 0), .sc (.int .i64 1)]]) (0) (pu IntKind.u8 (JL (Ju (List.take (apI (apI (apI (apI [] 0) 0) 0) 1).length (apI (apI (apI (apI [] 0) 0) 0) 1))))) (IntKind.i64.wrap (1 + who % 2)) (IntKind.i64.wrap (who.tdiv 2) % 8) (upB (UX.mk [.ro 5 false false (kb 0 []), .ro 5 false false (kb 1 []), .ro 5 false false (kb 2 [])] (SV.mk 0 0 (ByteArray.mk (Array.mk [])) [.st 42 [.sc (.int .i64 0), .sc (.int .i64 1)]] 0 (pu IntKind.u8 (JL (Ju (List.take (apI (apI (apI (apI [] 0) 0) 0) 1).length (apI (apI (apI (apI [] 0) 0) 0) 1)))))) (AV.mk 0 1) (AV.mk (IntKind.i64.wrap (1 + who % 2)) (IntKind.i64.wrap (who.tdiv 2) % 8)) 2)) (upS (UX.mk [.ro 5 false false (kb 0 []), .ro 5 false false (kb 1 []), .ro 5 false false (kb 2 [])] (SV.mk 0 0 (ByteArray.mk (Array.mk [])) [.st 42 [.sc (.int .i64 0), .sc (.int .i64 1)]] 0 (pu IntKind.u8 (JL (Ju (List.take (apI (apI (apI (apI [] 0) 0) 0) 1).length (apI (apI (apI (apI [] 0) 0) 0) 1)))))) (AV.mk 0 1) (AV.mk (IntKind.i64.wrap (1 + who % 2)) (IntKind.i64.wrap (who.tdiv 2) % 8)) 2)) (0) (upO (UX.mk [.ro 5 false false (kb 0 []), .ro 5 false false (kb 1 []), .ro 5 false false (kb 2 [])] (SV.mk 0 0 (ByteArray.mk (Array.mk [])) [.st 42 [.sc (.int .i64 0), .sc (.int .i64 1)]] 0 (pu IntKind.u8 (JL (Ju (List.take (apI (apI (apI (apI [] 0) 0) 0) 1).length (apI (apI (apI (apI [] 0) 0) 0) 1)))))) (AV.mk 0 1) (AV.mk (IntKind.i64.wrap (1 + who % 2)) (IntKind.i64.wrap (who.tdiv 2) % 8)) 2)) (upH (UX.mk [.ro 5 false false (kb 0 []), .ro 5 false false (kb 1 []), .ro 5 false false (kb 2 [])] (SV.mk 0 0 (ByteArray.mk (Array.mk [])) [.st 42 [.sc (.int .i64 0), .sc (.int .i64 1)]] 0 (pu IntKind.u8 (JL (Ju (List.take (apI (apI (apI (apI [] 0) 0) 0) 1).length (apI (apI (apI (apI [] 0) 0) 0) 1)))))) (AV.mk 0 1) (AV.mk (IntKind.i64.wrap (1 + who % 2)) (IntKind.i64.wrap (who.tdiv 2) % 8)) 2)) (upM (UX.mk [.ro 5 false false (kb 0 []), .ro 5 false false (kb 1 []), .ro 5 false false (kb 2 [])] (SV.mk 0 0 (ByteArray.mk (Array.mk [])) [.st 42 [.sc (.int .i64 0), .sc (.int .i64 1)]] 0 (pu IntKind.u8 (JL (Ju (List.take (apI (apI (apI (apI [] 0) 0) 0) 1).length (apI (apI (apI (apI [] 0) 0) 0) 1)))))) (AV.mk 0 1) (AV.mk (IntKind.i64.wrap (1 + who % 2)) (IntKind.i64.wrap (who.tdiv 2) % 8)) 2)) else none else none else none else none else none else none else none else none else none
theorem e4 (f : Nat) (who : Int) (ns_z ns_f : Bool) (ns : List PV) (kind : Int) (k : Res -> Option Res) : JM tau F4 Try.f4 (Try.f4.body.get!) (an4 (JiH f)) [.ro] 0 [.sc (.int .i64 who), .ro 3 ns_z ns_f ns, .sc (.int .i64 kind)] [] k = g4 f who ns_z ns_f ns kind k := by kernel_rfl
theorem it4 (f : Nat) : Je (Try.f4.body.get!) (an4 (JiH f)) = [.c JkU JdO N4 (JiH f)] := by kernel_rfl
theorem ia4 (f : Nat) : ∀ q ∈ Je (Try.f4.body.get!) (an4 (JiH f)), q.Ok tau Try.prog 0 := by
 rw [it4 f]; simp only [List.forall_mem_cons, List.not_mem_nil, false_implies, implies_true, and_true]; exact JA3 f
theorem fo4 : Try.prog.funcs[4]? = some Try.f4 := by kernel_rfl
theorem bo4 : Try.f4.body = some (Try.f4.body.get!) := by kernel_rfl
def Jo : An := (.seq (.seq .leaf (.cond .leaf .leaf)) (.seq (.block none (.seq .leaf (.seq .leaf (.seq .leaf (.cond .leaf .leaf))))) .leaf))
-- FN law13.Build
structure BL where
 (K l : List PV)
def h0L : List PV := apI (apI (apI (apI [] 0) 3) 0) 1
def q0 : PV := stP ⟨0, 3, ByteArray.mk (Array.mk []), [adP ⟨0, 1⟩], 0, pu .u8 (JL (Ju (List.take h0L.length h0L)))⟩ false false
def bS : BL -> List PV := hid fun x => q0 :: (bld x.K x.l 0 q0).map Prod.snd
def bE : BL -> List PV := hid fun x => (bld x.K x.l 0 q0).map Prod.fst
-- FN
structure Stp (K : List PV) (q : PV) (x : PV × PV) : Prop where
 ex : ∃ p i, spOk p = true /\ x.1 = ewP (seW ⟨p, K, sv q, i⟩) /\ x.2 = stpN K p i q /\ dsE0 (stpX K p i (sv q)) = 0
def Chn (K : List PV) : PV -> List (PV × PV) -> Prop
 | _, [] => True
 | q, x :: r => Stp K q x /\ Chn K x.2 r
def sts (q : PV) (r : List (PV × PV)) : List PV := q :: r.map Prod.snd
theorem JnW {K : List PV} : ∀ (r : List (PV × PV)) (q : PV), Chn K q r -> ∀ (j : Nat) (hj : j < r.length), Stp K ((sts q r).getD j .top) (r[j]'hj)
 | x :: r, q, h, 0, hj => h.1
 | x :: r, q, h, j + 1, hj => JnW r x.2 h.2 j (by simpa using hj)
theorem Stp.ver {K : List PV} {q : PV} {x : PV × PV} (h : Stp K q x) : (sv x.2).ver = (sv q).ver + 1 := by
 obtain ⟨p, i, h1, h2, h3, h4⟩ := h.ex
 rw [h3]
 show dsV (stpX K p i (sv q)) = _
 rw [VI, h4]; rfl
structure BldOk (K l : List PV) (n : Nat) : Prop where
 eE : bE ⟨K, l⟩ = (bld K l 0 q0).map Prod.fst
 eS : bS ⟨K, l⟩ = sts q0 (bld K l 0 q0)
 chn : Chn K q0 (bld K l 0 q0)
 len : (bld K l 0 q0).length = n
 le : n <= 25
 ok : ∀ j, j <= n -> BOk 25 ((bS ⟨K, l⟩).getD j .top)
 vr : ∀ j, j <= n -> (sv ((bS ⟨K, l⟩).getD j .top)).ver = j
theorem BldOk.step {K l : List PV} {n : Nat} (h : BldOk K l n) {j : Nat} (hj : j < n) : Stp K ((bS ⟨K, l⟩).getD j .top) ((bE ⟨K, l⟩).getD j .top, (bS ⟨K, l⟩).getD (j + 1) .top) := by
 have hj' : j < (bld K l 0 q0).length := by rw [h.len]; exact hj
 have := JnW _ _ h.chn j hj'
 rw [← h.eS] at this
 have e1 : (bE ⟨K, l⟩).getD j .top = ((bld K l 0 q0)[j]'hj').1 := by
  rw [h.eE, List.getD_eq_getElem?_getD, List.getElem?_map, List.getElem?_eq_getElem hj']; rfl
 have e2 : (bS ⟨K, l⟩).getD (j + 1) .top = ((bld K l 0 q0)[j]'hj').2 := by
  rw [h.eS]
  show (List.map Prod.snd (bld K l 0 q0)).getD j .top = _
  rw [List.getD_eq_getElem?_getD, List.getElem?_map, List.getElem?_eq_getElem hj']; rfl
 rw [e1, e2]; exact this
theorem Stp.all {K : List PV} {q e q' : PV} (h : Stp K q (e, q')) (hq : BOk 25 q) : ∃ s z f w, q = stP s z f /\ e = ewP w /\ eD w = true /\ dsE0 ⟨s, w⟩ = 0 /\ q' = stP (dsS ⟨s, w⟩) (dsZ ⟨s, w⟩ z) (dsF ⟨s, w⟩ f) /\ w.at1 = s.ver /\ dE w.b = 0 /\ w.h = pu .u8 (nxP ⟨s.hash, JcG w⟩) := by
 obtain ⟨p, i, h1, h2, h3, h4⟩ := h.ex
 obtain ⟨s, z, f, rfl⟩ := JdK.1 hq.st
 have hD := JnL (x := ⟨p, K, s, i⟩) hq.ok h1 hq.by1
 refine ⟨s, z, f, seW ⟨p, K, s, i⟩, rfl, h2, hD, h4, h3, rfl, ?_, rfl⟩
 have h4 : dsE0 ⟨s, seW ⟨p, K, s, i⟩⟩ = 0 := h4
 unfold dsE0 at h4
 cases hc : (dE (seW ⟨p, K, s, i⟩).b != 0) with
 | false => simpa [bne] using hc
 | true => simp only [hc, cond_true] at h4; exact h4
-- FN
theorem Jcw : kO3 [.ro 5 false false (kb 0 []), .ro 5 false false (kb 1 []), .ro 5 false false (kb 2 [])] = true := by
 have hkk : ∀ i, kOk (kb i []) = true := fun i => Jzx i rfl
 exact JjQ.2 ⟨hkk 0, hkk 1, hkk 2⟩
structure WOk (n : Int) (s : SV) (z : Bool) : Prop where
 ok : sOk s = true
 by1 : byB s.hash = true
 ih : kIn s.ih = true
 zo : z = true -> s.l = []
 ver : s.ver <= n
theorem WOk.zOk {n : Int} {s : SV} {z : Bool} (h : WOk n s z) : zOk z s.l = true := Jbi.2 h.zo
theorem Jkg {x : DX} {z : Bool} (hz : z = true -> x.s.l = []) : dsZ x z = true -> dsL x = [] := by
 rw [Jio, Jcj]
 cases dsE0 x == 0 with
 | true => exact JiC hz
 | false => exact hz
theorem WOk.next {n : Int} {s : SV} {z : Bool} {w : EW} (h : WOk n s z) (he : eD w = true) (hb : dsE0 ⟨s, w⟩ = 0 -> byB w.h = true) (hn : n < 1000000) : WOk (n + 1) (dsS ⟨s, w⟩) (dsZ ⟨s, w⟩ z) where
 ok := JjT (x := ⟨s, w⟩) h.ok he (by have := h.ver; show s.ver < 1000000; omega)
 by1 := by
  show byB (dsH ⟨s, w⟩) = true
  rw [Jae]
  cases hc : dsE0 ⟨s, w⟩ == 0 with
  | true => exact hb (by simpa using hc)
  | false => exact h.by1
 ih := h.ih
 zo := Jkg h.zo
 ver := by
  show dsV ⟨s, w⟩ <= n + 1
  have := h.ver
  rw [VI]
  cases dsE0 ⟨s, w⟩ == 0 with
  | true => show s.ver + 1 <= n + 1; omega
  | false => show s.ver <= n + 1; omega
theorem JA4 {s : SV} {w : EW} (hw : Jl .u8 w.h = true) (h : dsE0 ⟨s, w⟩ = 0) : byB w.h = true := by
 unfold dsE0 at h
 simp only at h
 cases h1 : (dE w.b != 0) with
 | true => rw [h1] at h; have h : dE w.b = 0 := h; rw [h] at h1; exact absurd h1 (by decide)
 | false =>
 rw [h1, cond_false] at h
 cases h2 : (w.at1 != s.ver) with
 | true => rw [h2, cond_true] at h; exact absurd h (by decide)
 | false =>
 rw [h2, cond_false] at h
 cases h3 : decide (dF 3 w.b > s.ver) with
 | true => rw [h3, cond_true] at h; exact absurd h (by decide)
 | false =>
 rw [h3, cond_false] at h
 cases h4 : (!hasP ⟨s.l, auA w.b⟩) with
 | true => rw [h4, cond_true] at h; exact absurd h (by decide)
 | false =>
 rw [h4, cond_false] at h
 cases h5 : (chE ⟨s, w⟩ != 0) with
 | true => rw [h5] at h; have h : chE ⟨s, w⟩ = 0 := h; rw [h] at h5; exact absurd h5 (by decide)
 | false =>
 rw [h5, cond_false] at h
 cases h6 : (!Qs w.h (pu .u8 (nxP ⟨s.hash, JcG w⟩))) with
 | true => rw [h6] at h; exact absurd h (by decide)
 | false =>
  have h6 : Qs w.h (pu .u8 (nxP ⟨s.hash, JcG w⟩)) = true := by simpa using h6
  rw [Ql hw, GY] at h6
  have e : Ju w.h = nxP ⟨s.hash, JcG w⟩ := by simpa using h6
  rw [Ql hw, e]; exact JnM _
theorem WOk.next' {n : Int} {s : SV} {z : Bool} {w : EW} (h : WOk n s z) (he : eD w = true) (hn : n < 1000000) : WOk (n + 1) (dsS ⟨s, w⟩) (dsZ ⟨s, w⟩ z) :=
 h.next he (JA4 (h32_iff.1 (Jaf.1 he).2.2.2).1) hn
theorem WOk.up {n m : Int} {s : SV} {z : Bool} (h : WOk n s z) (hm : n <= m) : WOk m s z := { h with ver := by have := h.ver; omega }
theorem Jvw {w : EW} (h : eD w = true) : slB false w.b = true := by
 obtain ⟨h1, h2, h3, h4⟩ := Jaf.1 h
 have : w.b.length <= 65535 := (WK.1 h2).2.1
 exact WA.2 ⟨fun h => (by cases h), by omega⟩
theorem ZL {n : Int} {z : Bool} {x : UX} (h : WOk n x.s z) (hK : kO3 x.K = true) (ha : kIn x.a.d = true) :
  (sOk x.s && (kO3 x.K && (kIn x.s.ih && kIn x.a.d))) = true /\ (sOk x.s && eD (upW x) && (zOk z x.s.l && slB false (upB x))) = true := by
 have he := JnO h.ok h.by1
 have hb : upB x = (upW x).b := by rw [upB, hid_eq]
 rw [h.ok, hK, h.ih, ha, he, h.zOk, hb, Jvw he]; exact ⟨rfl, rfl⟩
theorem Jcx {n : Int} {z : Bool} {x : UX} (h : WOk n x.s z) (hn : n <= 1000) (ha : inZ x.a.d 2 = true) (hu : inZ x.a.u 7 = true) (hk : upK x) :
  dsE ⟨x.s, upW x⟩ = bif !hasP ⟨x.s.l, x.a⟩ then 13 else bif x.kd == 1 then apE ⟨x.s.doc, puO x.s.doc⟩ else bif x.kd == 2 then adE ⟨x.s.l, x.w⟩ else rmE ⟨x.s.l, x.w⟩ := by
 rw [JeS]; exact JAN h.ok h.by1 ha hu (by have := h.ver; omega) hk
theorem JiI {n : Int} {z : Bool} {x : UX} (h : WOk n x.s z) (hn : n <= 1000) (ha : inZ x.a.d 2 = true) (hu : inZ x.a.u 7 = true) (hk : upK x) (h0 : dsE ⟨x.s, upW x⟩ = 0) :
  dsS ⟨x.s, upW x⟩ = ⟨x.s.ih, x.s.iN, bif x.kd == 1 then apD ⟨x.s.doc, puO x.s.doc⟩ else x.s.doc, bif x.kd == 1 then x.s.l else bif x.kd == 2 then adL ⟨x.s.l, x.w⟩ else rmL ⟨x.s.l, x.w⟩, x.s.ver + 1, (upW x).h⟩ :=
 JAO h.ok h.by1 ha hu (by have := h.ver; omega) hk (by rw [← JeS]; exact h0)
theorem WOk.up1 {n : Int} {z : Bool} {x : UX} (h : WOk n x.s z) (hn : n <= 1000) : WOk (n + 1) (dsS ⟨x.s, upW x⟩) (dsZ ⟨x.s, upW x⟩ z) := h.next' (JnO h.ok h.by1) (by omega)
theorem hasP_one (a : AV) : hasP ⟨[adP a], a⟩ = true := by rw [hasP_eq]; show (eqA (av (adP a)) a || false) = true; rw [Jaa, Jcl]; rfl
theorem JA5 {ih iN : Int} {a : AV} {h : List PV} (hi : kIn ih = true) (ha : inZ a.d 2 = true) (hu : inZ a.u 7 = true) (hh : byB h = true) (h32' : h.length = 32) : WOk 0 ⟨ih, iN, ByteArray.mk (Array.mk []), [adP a], 0, h⟩ false where
 ok := by
  refine WN.2 ⟨Q1.2 ⟨rfl, rfl, by show 1 <= 8; decide⟩, h32_iff.2 ⟨(Wy.1 hh).1, h32'⟩, by show (0 : Int) <= 0; decide, by show (0 : Int) <= 1000000; decide, by show 0 <= 120; decide, ?_⟩
  show (inA [a.d, 2, a.u, 7] && true) = true
  rw [Ji1, ha, hu]; rfl
 by1 := hh
 ih := hi
 zo := fun h => by cases h
 ver := Int.le_refl _
theorem JdS {d : Int} (h : inZ d 2 = true) : kIn d = true := by
 rw [Jcf]; rw [Xt] at h; simp only [Bool.and_eq_true, decide_eq_true_eq] at h; simp only [WE, Bool.and_eq_true, decide_eq_true_eq]; omega
theorem Jkh {x m : Int} (h : 0 <= x) (h2 : x <= m) : inZ x m = true := by rw [Xt]; simp; omega
theorem WOk.w {n : Int} {s : SV} {z : Bool} (h : WOk n s z) : wOk s = true := by
 obtain ⟨s1, s2, _⟩ := WN.1 h.ok
 obtain ⟨p1, p2, p3⟩ := Q1.1 s1
 exact Jp5.2 ⟨Gf.2 ⟨p1, by omega⟩, s2⟩
def zOf (q : PV) : Bool := (q.child 2).nl
theorem JsF {K : List PV} : ∀ (r : List (PV × PV)) (q : PV), Chn K q r -> (zOf q = true -> (sv q).l = []) -> ∀ (j : Nat), j <= r.length -> zOf ((sts q r).getD j .top) = true -> (sv ((sts q r).getD j .top)).l = []
 | r, q, h, hz, 0, hj => hz
 | x :: r, q, h, hz, j + 1, hj => by
  have e : (sts q (x :: r)).getD (j + 1) .top = (sts x.2 r).getD j .top := rfl
  rw [e]
  refine JsF r x.2 h.2 ?_ j (by simpa using hj)
  obtain ⟨p, i, h1, h2, h3, h4⟩ := h.1.ex
  rw [h3]
  exact Jkg (x := stpX K p i (sv q)) hz
theorem BldOk.z {K l : List PV} {n : Nat} (h : BldOk K l n) {j : Nat} (hj : j <= n) : zOf ((bS ⟨K, l⟩).getD j .top) = true -> (sv ((bS ⟨K, l⟩).getD j .top)).l = [] := by
 rw [h.eS]
 exact JsF _ _ h.chn (fun h => by cases h) j (by rw [h.len]; exact hj)
theorem BldOk.at {K l : List PV} {n : Nat} (h : BldOk K l n) {j : Nat} (hj : j <= n) : ∃ s z f, (bS ⟨K, l⟩).getD j .top = stP s z f /\ WOk 25 s z /\ s.ver = j /\ s.ih = 0 /\ s.iN = 3 := by
 have hb := h.ok j hj
 have hv := h.vr j hj
 have hz := h.z hj
 obtain ⟨s, z, f, hs⟩ := JdK.1 hb.st
 rw [hs] at hb hv hz
 exact ⟨s, z, f, hs, ⟨hb.ok, hb.by1, by rw [show s.ih = 0 from hb.ih, Jcf]; rfl, hz, hb.ver⟩, hv, hb.ih, hb.iN⟩
-- FN law13.WaveletMay
structure UOk (u : AV) : Prop where
 d1 : 1 <= u.d
 d2 : u.d <= 2
 u1 : 0 <= u.u
 u2 : u.u <= 7
theorem UOk.d {u : AV} (h : UOk u) : inZ u.d 2 = true := Jkh (by have := h.d1; omega) h.d2
theorem UOk.u {u : AV} (h : UOk u) : inZ u.u 7 = true := Jkh h.u1 h.u2
def crA : AV := ⟨0, 1⟩
theorem UOk.ne {u : AV} (h : UOk u) : eqA crA u = false := by
 cases hc : eqA crA u with
 | false => rfl
 | true => have := Qh.1 hc; have := h.d1; rw [← Qh.1 hc] at this; exact absurd this (by decide)
theorem UOk.lt {u : AV} (h : UOk u) : ltA crA u = true := WM.2 (.inl (by have := h.d1; show (0 : Int) < u.d; omega))
theorem has_c {u : AV} (h : UOk u) : hasP ⟨[adP crA], u⟩ = false := by
 rw [hasP_eq]; show (eqA (av (adP crA)) u || false) = false
 rw [Jaa, h.ne]; rfl
theorem has_cu (u : AV) : hasP ⟨[adP crA, adP u], u⟩ = true := by
 rw [hasP_eq]; show (eqA (av (adP crA)) u || (eqA (av (adP u)) u || false)) = true
 rw [Jaa u, Jcl]; simp
theorem JA6 {u : AV} (h : UOk u) : adE ⟨[adP crA], u⟩ = 0 /\ adL ⟨[adP crA], u⟩ = [adP crA, adP u] := by
 have hc := has_c h
 rw [hasP_eq] at hc
 have e : VG ⟨[adP crA], u⟩ = 0 := by
  unfold VG
  exact (Jj (by rw [Ji1, h.d, h.u]; rfl)).trans ((Jj hc).trans rfl)
 refine ⟨by rw [JmN]; exact e, ?_⟩
 rw [Jac, e]
 show Z4 [adP crA] u = _
 have hn : Q3 [adP crA] u = 1 := by
  show (bif ltA (av (adP crA)) u then Q3 [] u + 1 else 0) = 1
  rw [Jaa, h.lt]; rfl
 unfold Z4
 rw [hn]; rfl
theorem JsG {u : AV} (h : UOk u) : rmE ⟨[adP crA, adP u], u⟩ = 0 /\ rmL ⟨[adP crA, adP u], u⟩ = [adP crA] := by
 have hc := has_cu u
 rw [hasP_eq] at hc
 refine ⟨by rw [JmP]; unfold JpX; exact Ja hc, ?_⟩
 rw [Jad]
 refine (Ja hc).trans ?_
 show List.filter _ [adP crA, adP u] = _
 rw [List.filter_cons, List.filter_cons, Jaa, Jaa, h.ne, Jcl]; rfl
theorem JD4 (f n : Nat) (k0 : Bool -> Option Res) (kind : Int) (u : AV) (hu : UOk u) (t s : SV) (tz tf z : Bool) (hs : WOk 1000 s z) (hl : s.l = [adP crA]) (ht : t.l = [adP crA, adP u]) :
  JdP f k0 (n + 1) kind 0 0 (kb 0 []) (kb 1 []) (kb 2 []) u.d u.u t.ih t.iN t.doc tz tf t.l t.ver t.hash s.ih s.iN s.doc z z s.l s.ver s.hash = k0 true := by
 simp only [JdP, Je7]
 have hS : SV.mk s.ih s.iN s.doc s.l s.ver s.hash = s := rfl
 have hA : AV.mk u.d u.u = u := rfl
 simp only [hS, hA]
 obtain ⟨m1, m2⟩ := Z0 kind (m := 3) (by decide)
 have hw : IntKind.i64.wrap (1 + kind % 3) = 1 + kind % 3 := wrap_i64 (by omega) (by omega)
 rw [hw]
 have hk : 1 <= 1 + kind % 3 /\ 1 + kind % 3 <= 3 := by omega
 generalize 1 + kind % 3 = kd at *
 have e1 := WZ ⟨[.ro 5 false false (kb 0 []), .ro 5 false false (kb 1 []), .ro 5 false false (kb 2 [])], s, u, u, kd⟩
 simp only at e1
 simp only [e1]
 obtain ⟨c1, c2⟩ := ZL (x := ⟨[.ro 5 false false (kb 0 []), .ro 5 false false (kb 1 []), .ro 5 false false (kb 2 [])], s, u, u, kd⟩) hs Jcw (JdS hu.d)
 have v1 := Jcx (x := ⟨[.ro 5 false false (kb 0 []), .ro 5 false false (kb 1 []), .ro 5 false false (kb 2 [])], s, u, u, kd⟩) hs (by decide) hu.d hu.u (by
  rcases (by omega : kd = 1 ∨ kd = 2 ∨ kd = 3) with h | h | h
  · exact .inl h
  · exact .inr ⟨.inl h, hu.d, hu.u⟩
  · exact .inr ⟨.inr h, hu.d, hu.u⟩)
 simp only at c1 c2 v1
 rw [v1, hl, has_c hu, ht]
 rw [hl] at c2
 exact (Ja (JmW (by decide) (by decide))).trans ((Ja c1).trans ((Ja c2).trans rfl))
theorem JD5 (f n : Nat) (k0 : Bool -> Option Res) (kind : Int) (u : AV) (hu : UOk u) (t s : SV) (tz tf z : Bool) (hs : WOk 100 s z) (hl : s.l = [adP crA, adP u]) (ht : t.l = [adP crA, adP u]) :
  JdQ (f + 1) k0 (n + 1) kind 0 (kb 0 []) (kb 1 []) (kb 2 []) u.d u.u t.ih t.iN t.doc tz tf t.l t.ver t.hash s.ih s.iN s.doc z z s.l s.ver s.hash = k0 true := by
 simp only [JdQ, Je8]
 have hS : SV.mk s.ih s.iN s.doc s.l s.ver s.hash = s := rfl
 have hA : AV.mk u.d u.u = u := rfl
 simp only [hS, hA]
 have e1 := WZ ⟨[.ro 5 false false (kb 0 []), .ro 5 false false (kb 1 []), .ro 5 false false (kb 2 [])], s, u, u, 3⟩
 simp only at e1
 simp only [e1]
 have hk : upK ⟨[.ro 5 false false (kb 0 []), .ro 5 false false (kb 1 []), .ro 5 false false (kb 2 [])], s, u, u, 3⟩ := .inr ⟨.inr rfl, hu.d, hu.u⟩
 obtain ⟨c1, c2⟩ := ZL (x := ⟨[.ro 5 false false (kb 0 []), .ro 5 false false (kb 1 []), .ro 5 false false (kb 2 [])], s, u, u, 3⟩) hs Jcw (JdS hu.d)
 have v1 := Jcx (x := ⟨[.ro 5 false false (kb 0 []), .ro 5 false false (kb 1 []), .ro 5 false false (kb 2 [])], s, u, u, 3⟩) hs (by decide) hu.d hu.u hk
 have u1 := WOk.up1 (x := ⟨[.ro 5 false false (kb 0 []), .ro 5 false false (kb 1 []), .ro 5 false false (kb 2 [])], s, u, u, 3⟩) hs (by decide)
 have v2 : dsE ⟨s, upW ⟨[.ro 5 false false (kb 0 []), .ro 5 false false (kb 1 []), .ro 5 false false (kb 2 [])], s, u, u, 3⟩⟩ = 0 := by
  refine v1.trans ?_
  show (bif !hasP ⟨s.l, u⟩ then 13 else rmE ⟨s.l, u⟩) = (0 : Int)
  rw [hl, has_cu, (JsG hu).1]; rfl
 have v3 := JiI (x := ⟨[.ro 5 false false (kb 0 []), .ro 5 false false (kb 1 []), .ro 5 false false (kb 2 [])], s, u, u, 3⟩) hs (by decide) hu.d hu.u hk v2
 have v4 : (dsS ⟨s, upW ⟨[.ro 5 false false (kb 0 []), .ro 5 false false (kb 1 []), .ro 5 false false (kb 2 [])], s, u, u, 3⟩⟩).l = [adP crA] := by
  rw [v3]
  show rmL ⟨s.l, u⟩ = _
  rw [hl, (JsG hu).2]
 have fi : (dsS ⟨s, upW ⟨[.ro 5 false false (kb 0 []), .ro 5 false false (kb 1 []), .ro 5 false false (kb 2 [])], s, u, u, 3⟩⟩).ih = s.ih /\ (dsS ⟨s, upW ⟨[.ro 5 false false (kb 0 []), .ro 5 false false (kb 1 []), .ro 5 false false (kb 2 [])], s, u, u, 3⟩⟩).iN = s.iN := by rw [v3]; exact ⟨rfl, rfl⟩
 simp only at c1 c2 u1
 refine (Ja c1).trans ((Ja c2).trans ?_)
 rw [v2]
 have := JD4 (f + 1) f k0 kind u hu t (dsS ⟨s, upW ⟨[.ro 5 false false (kb 0 []), .ro 5 false false (kb 1 []), .ro 5 false false (kb 2 [])], s, u, u, 3⟩⟩) tz tf (dsZ ⟨s, upW ⟨[.ro 5 false false (kb 0 []), .ro 5 false false (kb 1 []), .ro 5 false false (kb 2 [])], s, u, u, 3⟩⟩ z) (u1.up (by decide)) v4 ht
 rw [fi.1, fi.2] at this
 exact this
theorem JD6 (f n : Nat) (k0 : Bool -> Option Res) (kind : Int) (u : AV) (hu : UOk u) (s : SV) (z : Bool) (hs : WOk 10 s z) (hl : s.l = [adP crA, adP u]) (hd : s.doc.size = 0) :
  JdR (f + 1) k0 (n + 1) kind (kb 0 []) (kb 1 []) (kb 2 []) u.d u.u s.ih s.iN s.doc z z s.l s.ver s.hash = k0 true := by
 simp only [JdR, Je9]
 have hS : SV.mk s.ih s.iN s.doc s.l s.ver s.hash = s := rfl
 have hA : AV.mk u.d u.u = u := rfl
 simp only [hS, hA]
 have e1 := WZ ⟨[.ro 5 false false (kb 0 []), .ro 5 false false (kb 1 []), .ro 5 false false (kb 2 [])], s, u, ⟨0, 0⟩, 1⟩
 simp only at e1
 simp only [e1]
 have hk : upK ⟨[.ro 5 false false (kb 0 []), .ro 5 false false (kb 1 []), .ro 5 false false (kb 2 [])], s, u, ⟨0, 0⟩, 1⟩ := .inl rfl
 obtain ⟨c1, c2⟩ := ZL (x := ⟨[.ro 5 false false (kb 0 []), .ro 5 false false (kb 1 []), .ro 5 false false (kb 2 [])], s, u, ⟨0, 0⟩, 1⟩) hs Jcw (JdS hu.d)
 have v1 := Jcx (x := ⟨[.ro 5 false false (kb 0 []), .ro 5 false false (kb 1 []), .ro 5 false false (kb 2 [])], s, u, ⟨0, 0⟩, 1⟩) hs (by decide) hu.d hu.u hk
 have u1 := WOk.up1 (x := ⟨[.ro 5 false false (kb 0 []), .ro 5 false false (kb 1 []), .ro 5 false false (kb 2 [])], s, u, ⟨0, 0⟩, 1⟩) hs (by decide)
 have v2 : dsE ⟨s, upW ⟨[.ro 5 false false (kb 0 []), .ro 5 false false (kb 1 []), .ro 5 false false (kb 2 [])], s, u, ⟨0, 0⟩, 1⟩⟩ = 0 := by
  refine v1.trans ?_
  show (bif !hasP ⟨s.l, u⟩ then 13 else apE ⟨s.doc, puO s.doc⟩) = (0 : Int)
  rw [hl, has_cu, JAP (by omega)]; rfl
 have v3 := JiI (x := ⟨[.ro 5 false false (kb 0 []), .ro 5 false false (kb 1 []), .ro 5 false false (kb 2 [])], s, u, ⟨0, 0⟩, 1⟩) hs (by decide) hu.d hu.u hk v2
 have v4 : (dsS ⟨s, upW ⟨[.ro 5 false false (kb 0 []), .ro 5 false false (kb 1 []), .ro 5 false false (kb 2 [])], s, u, ⟨0, 0⟩, 1⟩⟩).l = [adP crA, adP u] := by
  rw [v3]; exact hl
 have fi : (dsS ⟨s, upW ⟨[.ro 5 false false (kb 0 []), .ro 5 false false (kb 1 []), .ro 5 false false (kb 2 [])], s, u, ⟨0, 0⟩, 1⟩⟩).ih = s.ih /\ (dsS ⟨s, upW ⟨[.ro 5 false false (kb 0 []), .ro 5 false false (kb 1 []), .ro 5 false false (kb 2 [])], s, u, ⟨0, 0⟩, 1⟩⟩).iN = s.iN := by rw [v3]; exact ⟨rfl, rfl⟩
 simp only at c1 c2 u1
 refine (Ja c1).trans ((Ja c2).trans ?_)
 rw [v2]
 have := JD5 f f k0 kind u hu s (dsS ⟨s, upW ⟨[.ro 5 false false (kb 0 []), .ro 5 false false (kb 1 []), .ro 5 false false (kb 2 [])], s, u, ⟨0, 0⟩, 1⟩⟩) z z (dsZ ⟨s, upW ⟨[.ro 5 false false (kb 0 []), .ro 5 false false (kb 1 []), .ro 5 false false (kb 2 [])], s, u, ⟨0, 0⟩, 1⟩⟩ z) (u1.up (by decide)) v4 hl
 rw [fi.1, fi.2] at this
 exact this
def h0M : List PV := apI (apI (apI (apI [] 0) 0) 0) 1
theorem JqS (who : Int) (z f : Bool) (ns : List PV) (kind : Int) (k : Res -> Option Res) : g4 5 who z f ns kind k = k ⟨.sc (.bool true), [], []⟩ := by
 unfold g4
 have hL : (apI (apI (apI (apI [] 0) 0) 0) 1) = h0M := rfl
 have hlen : h0M.length = 32 := by unfold h0M; simp only [Wh]; rfl
 have hall : Jl .u8 h0M = true := by unfold h0M; simp only [Yf, QF, JN, Bool.and_true]; rfl
 have okl : ∀ l : List PV, l.length <= 1000 -> okL l.length l = true := fun l h => We (by omega)
 obtain ⟨m1, m2⟩ := Z0 who (m := 2) (by decide)
 obtain ⟨m3, m4⟩ := Z0 (IntKind.i64.wrap (who.tdiv 2)) (m := 8) (by decide)
 have hw : IntKind.i64.wrap (1 + who % 2) = 1 + who % 2 := wrap_i64 (by omega) (by omega)
 simp only [hL, hw, List.take_length]
 have hu : UOk ⟨1 + who % 2, IntKind.i64.wrap (who.tdiv 2) % 8⟩ := ⟨by show 1 <= 1 + who % 2; omega, by show 1 + who % 2 <= 2; omega, m3, by show IntKind.i64.wrap (who.tdiv 2) % 8 <= 7; omega⟩
 generalize 1 + who % 2 = ud at *
 generalize IntKind.i64.wrap (who.tdiv 2) % 8 = uu at *
 have ha : inZ (0 : Int) 2 = true := Jkh (by decide) (by decide)
 have h1 : inZ (1 : Int) 7 = true := Jkh (by decide) (by decide)
 have hh : byB (pu .u8 (JL (Ju h0M))) = true := Jeo.2 (Jkf _)
 have hh2 : (pu .u8 (JL (Ju h0M))).length = 32 := by rw [JD]; exact Qg _
 have hP : PV.st 42 [.sc (.int .i64 0), .sc (.int .i64 1)] = adP crA := rfl
 simp only [hP]
 have W0 := JA5 (ih := 0) (iN := 0) (a := crA) (JdS ha) ha h1 hh hh2
 have hc : (Jl .u8 h0M && decide (h0M.length <= 140737488355000)) = true := by rw [hall, hlen]; rfl
 refine (Ja (okl _ (by simp only [Wh]; simp))).trans ((Ja (okl _ (by simp only [Wh]; simp))).trans ((Ja (okl _ (by simp only [Wh]; simp))).trans ((Ja hc).trans ((Ja (JmW (by decide) (by decide))).trans ((Ja (JmW (by decide) (by decide))).trans ?_)))))
 generalize pu .u8 (JL (Ju h0M)) = h0 at *
 generalize hs0 : SV.mk 0 0 (ByteArray.mk (Array.mk [])) [adP crA] 0 h0 = s0 at *
 have e1 := WZ ⟨[.ro 5 false false (kb 0 []), .ro 5 false false (kb 1 []), .ro 5 false false (kb 2 [])], s0, ⟨ud, uu⟩, ⟨0, 0⟩, 1⟩
 have e2 := WZ ⟨[.ro 5 false false (kb 0 []), .ro 5 false false (kb 1 []), .ro 5 false false (kb 2 [])], s0, ⟨0, 1⟩, ⟨ud, uu⟩, 2⟩
 have f1 : s0.ver = 0 := by rw [← hs0]
 have f2 : s0.l = [adP crA] := by rw [← hs0]
 have f3 : s0.ih = 0 := by rw [← hs0]
 have f4 : s0.iN = 0 := by rw [← hs0]
 have f5 : s0.doc = ByteArray.mk (Array.mk []) := by rw [← hs0]
 simp only [f1] at e1 e2
 simp only [e1]
 obtain ⟨c1, c2⟩ := ZL (x := ⟨[.ro 5 false false (kb 0 []), .ro 5 false false (kb 1 []), .ro 5 false false (kb 2 [])], s0, ⟨ud, uu⟩, ⟨0, 0⟩, 1⟩) W0 Jcw (JdS hu.d)
 obtain ⟨d1, d2⟩ := ZL (x := ⟨[.ro 5 false false (kb 0 []), .ro 5 false false (kb 1 []), .ro 5 false false (kb 2 [])], s0, ⟨0, 1⟩, ⟨ud, uu⟩, 2⟩) W0 Jcw (JdS ha)
 have v1 := Jcx (x := ⟨[.ro 5 false false (kb 0 []), .ro 5 false false (kb 1 []), .ro 5 false false (kb 2 [])], s0, ⟨ud, uu⟩, ⟨0, 0⟩, 1⟩) W0 (by decide) hu.d hu.u (.inl rfl)
 have hk : upK ⟨[.ro 5 false false (kb 0 []), .ro 5 false false (kb 1 []), .ro 5 false false (kb 2 [])], s0, ⟨0, 1⟩, ⟨ud, uu⟩, 2⟩ := .inr ⟨.inl rfl, hu.d, hu.u⟩
 have w1 := Jcx (x := ⟨[.ro 5 false false (kb 0 []), .ro 5 false false (kb 1 []), .ro 5 false false (kb 2 [])], s0, ⟨0, 1⟩, ⟨ud, uu⟩, 2⟩) W0 (by decide) ha h1 hk
 have u1 := WOk.up1 (x := ⟨[.ro 5 false false (kb 0 []), .ro 5 false false (kb 1 []), .ro 5 false false (kb 2 [])], s0, ⟨0, 1⟩, ⟨ud, uu⟩, 2⟩) W0 (by decide)
 simp only [f2, f3] at c1 c2 d1 d2 v1 w1 u1
 have w2 : dsE ⟨s0, upW ⟨[.ro 5 false false (kb 0 []), .ro 5 false false (kb 1 []), .ro 5 false false (kb 2 [])], s0, ⟨0, 1⟩, ⟨ud, uu⟩, 2⟩⟩ = 0 := by
   rw [w1, show hasP ⟨[adP crA], ⟨0, 1⟩⟩ = true from hasP_one crA, (JA6 hu).1]; rfl
 have w3 := JiI (x := ⟨[.ro 5 false false (kb 0 []), .ro 5 false false (kb 1 []), .ro 5 false false (kb 2 [])], s0, ⟨0, 1⟩, ⟨ud, uu⟩, 2⟩) W0 (by decide) ha h1 hk w2
 have w4 : (dsS ⟨s0, upW ⟨[.ro 5 false false (kb 0 []), .ro 5 false false (kb 1 []), .ro 5 false false (kb 2 [])], s0, ⟨0, 1⟩, ⟨ud, uu⟩, 2⟩⟩).l = [adP crA, adP ⟨ud, uu⟩] := by
   rw [w3]
   show adL ⟨s0.l, ⟨ud, uu⟩⟩ = _
   rw [f2, (JA6 hu).2]
 have w5 : (dsS ⟨s0, upW ⟨[.ro 5 false false (kb 0 []), .ro 5 false false (kb 1 []), .ro 5 false false (kb 2 [])], s0, ⟨0, 1⟩, ⟨ud, uu⟩, 2⟩⟩).doc.size = 0 := by
   rw [w3]
   show s0.doc.size = 0
   rw [f5]; rfl
 have fi : (dsS ⟨s0, upW ⟨[.ro 5 false false (kb 0 []), .ro 5 false false (kb 1 []), .ro 5 false false (kb 2 [])], s0, ⟨0, 1⟩, ⟨ud, uu⟩, 2⟩⟩).ih = 0 /\ (dsS ⟨s0, upW ⟨[.ro 5 false false (kb 0 []), .ro 5 false false (kb 1 []), .ro 5 false false (kb 2 [])], s0, ⟨0, 1⟩, ⟨ud, uu⟩, 2⟩⟩).iN = 0 := by rw [w3]; exact ⟨f3, f4⟩
 refine (Ja c1).trans ((Ja c2).trans ((Jj ?_).trans ((Ja d1).trans ?_)))
 · rw [v1, has_c hu]; rfl
 simp only [JgL, Jfa]
 rw [e2]
 simp only [hs0]
 refine (Ja ?_).trans ((Jj ?_).trans ?_)
 · have e3 : upB ⟨[.ro 5 false false (kb 0 []), .ro 5 false false (kb 1 []), .ro 5 false false (kb 2 [])], s0, ⟨0, 1⟩, ⟨ud, uu⟩, 2⟩ = upB ⟨[.ro 5 false false (kb 0 []), .ro 5 false false (kb 1 []), .ro 5 false false (kb 2 [])], s0, ⟨0, 1⟩, ⟨ud, uu⟩, 2⟩ := rfl
   exact d2
 · rw [w2]; rfl
 have := JD6 4 4 (fun b => k ⟨.sc (.bool b), [], []⟩) kind ⟨ud, uu⟩ hu (dsS ⟨s0, upW ⟨[.ro 5 false false (kb 0 []), .ro 5 false false (kb 1 []), .ro 5 false false (kb 2 [])], s0, ⟨0, 1⟩, ⟨ud, uu⟩, 2⟩⟩) (dsZ ⟨s0, upW ⟨[.ro 5 false false (kb 0 []), .ro 5 false false (kb 1 []), .ro 5 false false (kb 2 [])], s0, ⟨0, 1⟩, ⟨ud, uu⟩, 2⟩⟩ false) (u1.up (by decide)) w4 w5
 rw [fi.1, fi.2] at this
 exact this
def JnX : List PV -> List Ent -> (Res -> Option Res) -> Option Res
 | [.sc (.int .i64 who), .ro 3 z f ns, .sc (.int .i64 kind)], [], k => k ⟨.sc (.bool true), [], []⟩
 | _, _, _ => none
def s4' : Sig := { own := [], run := JnX }
theorem JD7 : Jh tau Try.prog 4 s4' := Jh.mk' fun xs es k res hl hr => by
 change JnX xs es k = some res at hr
 unfold JnX at hr
 split at hr
 · rename_i who z f ns kind
   exact Qk Jr JgG Js fo4 bo4 (an4 (JiH 5)) [.ro] 0 0 (ia4 5) hl rfl ((e4 5 who z f ns kind k).trans ((JqS who z f ns kind k).trans hr))
 · cases hr
theorem JkV : ∀ pvs, TyL tau 6 [3, 57, 3] pvs -> s4'.run pvs [] some = some ⟨.sc (.bool true), [], []⟩ := by
 intro pvs h
 obtain ⟨p1, p2, p3, rfl, h1, h2, h3⟩ := JC1 h
 obtain ⟨w, rfl, _⟩ := JmV (n := 5) h1
 obtain ⟨z, ns, rfl, _⟩ := Jp2 (n := 4) h2
 obtain ⟨n, rfl, _⟩ := JmV (n := 5) h3
 rfl
end
end Go.Proofs.Ythpmachmnoljeaa.Rx
