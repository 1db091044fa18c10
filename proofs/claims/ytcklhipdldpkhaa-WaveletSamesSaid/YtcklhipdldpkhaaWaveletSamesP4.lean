/- What the functions of this law compute, and their plain laws. Conditions: none. -/
import Derived.KernelRfl
import Derived.Test.YtcklhipdldpkhaaWaveletSamesP3
namespace Go.Proofs.Ytcklhipdldpkhaa.Rx
noncomputable section
open Go
set_option linter.unusedVariables false
set_option linter.unusedSimpArgs false
set_option maxRecDepth 100000
set_option maxHeartbeats 0
-- FN ref4.Apply
structure AP where
 (doc : ByteArray) (o : List PV)
def apl : List PV -> ByteArray -> Nat -> ByteArray -> ByteArray
 | [], _, _, out => out
 | p :: ps, doc, at1, out =>
  bif (cv p).kd == 1 then apl ps doc (at1 + (cv p).n.toNat) (out ++ doc.extract at1 (at1 + (cv p).n.toNat))
  else bif (cv p).kd == 2 then apl ps doc at1 (out ++ (cv p).s)
  else apl ps doc (at1 + (cv p).n.toNat) out
def JhT (x : AP) : Int := bif inL x.o != zi x.doc.size then 7 else bif decide (outL x.o > 120) then 5 else 0
def apE : AP -> Int := hid JhT
def apD : AP -> ByteArray := hid fun x => bif JhT x == 0 then apl x.o x.doc 0 (ByteArray.mk (Array.mk [])) else ByteArray.mk (Array.mk [])
theorem Jtn (x : AP) : apE x = JhT x := by rw [apE, hid_eq]
theorem JmH (x : AP) : apD x = bif JhT x == 0 then apl x.o x.doc 0 (ByteArray.mk (Array.mk [])) else ByteArray.mk (Array.mk []) := by rw [apD, hid_eq]
theorem Wh (a b : ByteArray) : (a ++ b).size = a.size + b.size := ByteArray.size_append
theorem JaC (a : ByteArray) (i j : Nat) (h : i <= j) (h2 : j <= a.size) : (a.extract i j).size = j - i := by rw [ByteArray.size_extract]; omega
theorem Vx : ∀ {l : List PV}, (∀ p ∈ l, ckC (cv p) = 0) -> 0 <= inL l
 | [], _ => by simp [inL]
 | p :: l, h => by
  have h1 := (JhQ (h p List.mem_cons_self)).1
  have h2 := Vx fun q hq => h q (List.mem_cons_of_mem _ hq)
  simp only [inL]; omega
theorem JaD : ∀ {l : List PV}, (∀ p ∈ l, ckC (cv p) = 0) -> 0 <= outL l
 | [], _ => by simp [outL]
 | p :: l, h => by
  have h1 := (Jjw (h p List.mem_cons_self)).1
  have h2 := JaD fun q hq => h q (List.mem_cons_of_mem _ hq)
  simp only [outL]; omega
theorem Gu : ∀ {l : List PV} {doc : ByteArray} {at1 : Nat} {out : ByteArray}, (∀ p ∈ l, ckC (cv p) = 0) -> (at1 : Int) + inL l <= doc.size -> ((apl l doc at1 out).size : Int) = out.size + outL l
 | [], _, _, _, _, _ => by simp [apl, outL]
 | p :: l, doc, at1, out, h, hi => by
  have hk := h p List.mem_cons_self
  have h' : ∀ q ∈ l, ckC (cv q) = 0 := fun q hq => h q (List.mem_cons_of_mem _ hq)
  have hn := Vx h'
  simp only [apl, inL, outL] at hi ⊢
  rcases Zp hk with ⟨h1, h2, h3, h4⟩ | ⟨h1, h2, h3, h4⟩
  · rcases h1 with h1 | h1
    · have e1 : inC (cv p) = (cv p).n := by unfold inC; rw [h1]; rfl
      have e2 : WV (cv p) = (cv p).n := by unfold WV; rw [h1]; rfl
      rw [h1]
      refine (congrArg (fun b : ByteArray => (b.size : Int)) (Jc rfl)).trans ?_
      rw [Gu h' (by omega), Wh, JaC _ _ _ (by omega) (by omega)]; omega
    · have e1 : inC (cv p) = (cv p).n := by unfold inC; rw [h1]; rfl
      have e2 : WV (cv p) = (cv p).s.size := by unfold WV; rw [h1]; rfl
      rw [h1]
      refine (congrArg (fun b : ByteArray => (b.size : Int)) ((Ji rfl).trans (Ji rfl))).trans ?_
      rw [Gu h' (by omega)]; omega
  · have e1 : inC (cv p) = 0 := by unfold inC; rw [h1]; rfl
    have e2 : WV (cv p) = (cv p).s.size := by unfold WV; rw [h1]; rfl
    rw [h1]
    refine (congrArg (fun b : ByteArray => (b.size : Int)) ((Ji rfl).trans (Jc rfl))).trans ?_
    rw [Gu h' (by omega), Wh]; omega
theorem JeD (l : List PV) (ha : aOk l = true) (doc : ByteArray) (hd : doc.size <= 10000) (f : Nat) (k0 : ByteArray -> Option Res) (z fl : Bool) : ∀ (d i n : Nat) (out : ByteArray) (at1 : Nat), i + d = l.length -> d < n -> (at1 : Int) + inL (l.drop i) <= doc.size -> (out.size : Int) + outL (l.drop i) <= 120 ->
  Yh f k0 n doc z fl l out (at1 : Int) (i : Int) = k0 (apl (l.drop i) doc at1 out)
 | 0, i, n + 1, out, at1, hi, hn, h3, h4 => by
   rw [List.drop_of_length_le (by omega)]
   simp only [Yh, Zq, apl]
   exact Ji (by simp [zi]; omega)
 | d + 1, i, n + 1, out, at1, hi, hn, h3, h4 => by
   obtain ⟨h1, hl, hck⟩ := Xb.1 ha
   have g1 : ((i : Int)).toNat = i := by omega
   have g2 : ((at1 : Int)).toNat = at1 := by omega
   have w1 : IntKind.i64.wrap ((i : Int) + 1) = ((i + 1 : Nat) : Int) := by rw [wrap_i64 (by omega) (by omega)]; omega
   have hc := JmD h1 (i := i) (by omega)
   unfold Jb6 at hc
   have hk := (Jb5 ha (i := i) (by omega)).2
   have hck' : ∀ q ∈ l.drop (i + 1), ckC (cv q) = 0 := fun q hq => hck q (List.mem_of_mem_drop hq)
   have hin := Vx hck'
   have hon := JaD hck'
   rw [Qf (by omega)] at h3 h4 ⊢
   simp only [Yh, Zq, g1, g2, w1]
   refine (Jc (by simp [zi]; omega)).trans ((Jc hc).trans ?_)
   generalize l.getD i .top = p at *
   have e1 : (PV.child 0 p).int = (cv p).kd := rfl
   have e2 : (PV.child (0 + 1) p).int = (cv p).n := rfl
   have e3 : (PV.child (0 + 1 + 1) p).str = (cv p).s := rfl
   simp only [e1, e2, e3, apl]
   simp only [inL, outL] at h3 h4
   rcases Zp hk with ⟨q1, q2, q3, q4⟩ | ⟨q1, q2, q3, q4⟩
   · rcases q1 with q1 | q1
     · have i1 : inC (cv p) = (cv p).n := by unfold inC; rw [q1]; rfl
       have i2 : WV (cv p) = (cv p).n := by unfold WV; rw [q1]; rfl
       have w2 : IntKind.i64.wrap ((at1 : Int) + (cv p).n) = ((at1 + (cv p).n.toNat : Nat) : Int) := by rw [wrap_i64 (by omega) (by omega)]; omega
       have g3 : (((at1 + (cv p).n.toNat : Nat) : Int)).toNat = at1 + (cv p).n.toNat := Int.toNat_natCast _
       have sz := JaC doc at1 (at1 + (cv p).n.toNat) (by omega) (by omega)
       simp only [q1, w2, g3]
       refine (Jc rfl).trans ((Jc hc).trans ((Jc (by simp; omega)).trans ((Jc (by rw [sz]; simp; omega)).trans ((Jc hc).trans ?_))))
       refine (JeD l ha doc hd f k0 z fl d (i + 1) n _ _ (by omega) (by omega) (by omega) (by rw [Wh, sz]; omega)).trans ?_
       rfl
     · have i1 : inC (cv p) = (cv p).n := by unfold inC; rw [q1]; rfl
       have i2 : WV (cv p) = (cv p).s.size := by unfold WV; rw [q1]; rfl
       have w2 : IntKind.i64.wrap ((at1 : Int) + (cv p).n) = ((at1 + (cv p).n.toNat : Nat) : Int) := by rw [wrap_i64 (by omega) (by omega)]; omega
       simp only [q1, w2]
       refine (Ji rfl).trans ((Ji rfl).trans ((Jc hc).trans ?_))
       refine (JeD l ha doc hd f k0 z fl d (i + 1) n _ _ (by omega) (by omega) (by omega) (by omega)).trans ?_
       rfl
   · have i1 : inC (cv p) = 0 := by unfold inC; rw [q1]; rfl
     have i2 : WV (cv p) = (cv p).s.size := by unfold WV; rw [q1]; rfl
     simp only [q1]
     refine (Ji rfl).trans ((Jc rfl).trans ((Jc hc).trans ((Jc (by simp; omega)).trans ?_)))
     refine (JeD l ha doc hd f k0 z fl d (i + 1) n _ _ (by omega) (by omega) (by omega) (by rw [Wh]; omega)).trans ?_
     rfl
theorem JmI : ∀ {l : List PV}, (∀ p ∈ l, ckC (cv p) = 0) -> inL l <= 120 * l.length
 | [], _ => by simp [inL]
 | p :: l, h => by
  have h1 := (JhQ (h p List.mem_cons_self)).2
  have h2 := JmI fun q hq => h q (List.mem_cons_of_mem _ hq)
  simp only [inL, List.length_cons]; omega
def JeE : List PV -> List Ent -> (Res -> Option Res) -> Option Res
 | [.sc (.string doc), .ro 99 z f o], [], k => bif aOk o then k ⟨.tup [.sc (.string (apD ⟨doc, o⟩)), .sc (.int .i64 (apE ⟨doc, o⟩))], [], []⟩ else none
 | _, _, _ => none
def Jrb : Sig := { own := [], run := JeE }
theorem Jo9 (doc : ByteArray) (z f : Bool) (o : List PV) (h : aOk o = true) (k : Res -> Option Res) : Jtm 50 doc z f o k = k ⟨.tup [.sc (.string (apD ⟨doc, o⟩)), .sc (.int .i64 (apE ⟨doc, o⟩))], [], []⟩ := by
 obtain ⟨h1, h2, h3⟩ := Xb.1 h
 unfold Jtm
 rw [JmH, Jtn, JhT, JmE, Jjv]
 refine (Jc h).trans ?_
 cases hi : (inL o != zi doc.size) with
 | true => rfl
 | false =>
  refine (Ji rfl).trans ((Jc h).trans ?_)
  have hi : inL o = zi doc.size := by simpa [bne] using hi
  have hle := JmI h3
  cases ho : decide (outL o > 120) with
  | true => rfl
  | false =>
   have ho := of_decide_eq_false ho
   refine (Ji rfl).trans ?_
   refine (JeD o h doc (by simp only [zi] at hi; omega) 50 _ z f o.length 0 50 (ByteArray.mk (Array.mk [])) 0 (by omega) (by omega) (by rw [List.drop_zero, hi]; simp [zi]) (by rw [List.drop_zero]; show (0 : Int) + _ <= _; omega)).trans ?_
   rw [List.drop_zero]; rfl
theorem Jto : Jg tau Try.prog 118 Jrb := Jg.mk' fun xs es k res hl hr => by
 change JeE xs es k = some res at hr
 unfold JeE at hr
 split at hr
 · rename_i doc z f o
   obtain ⟨hc, hr⟩ := JE hr
   exact Qr Jp Jjx Jq Jq9 Jra (Jjy (Vw 50)) [.ro, .ro] 0 0 (JxC 50) hl rfl ((JAs 50 doc z f o k).trans ((Jo9 doc z f o hc k).trans hr))
 · cases hr
theorem JmJ {x : AP} (h : aOk x.o = true) : (apD x).size <= 120 := by
 obtain ⟨h1, h2, h3⟩ := Xb.1 h
 rw [JmH]
 cases he : (JhT x == 0) with
 | false => exact Nat.zero_le _
 | true =>
  rw [cond_true]
  unfold JhT at he
  cases hi : (inL x.o != zi x.doc.size) with
  | true => rw [hi] at he; exact absurd (show false = true from he) (by decide)
  | false =>
   rw [hi] at he
   cases ho : decide (outL x.o > 120) with
   | true => rw [ho] at he; exact absurd (show false = true from he) (by decide)
   | false =>
    have ho := of_decide_eq_false ho
    have hi : inL x.o = zi x.doc.size := by simpa [bne] using hi
    have := Gu (l := x.o) (doc := x.doc) (at1 := 0) (out := ByteArray.mk (Array.mk [])) h3 (by rw [hi]; simp [zi])
    have e : (ByteArray.mk (Array.mk ([] : List UInt8))).size = 0 := rfl
    rw [e] at this; omega
def Jcu : Nat := 51
def JmK : Fns := JH 148 Jqv (JH 116 Ji2 (JH 91 JrG (F0)))
theorem Jjz : Jy tau Try.prog JmK := (((JD).add JpQ Jup).add Jhr JkW).add Jsv Juc
def G4 : Code := Qo (Try.f119.body.get!) [1, 1, 1, 0, 0, 0]
def WC : Nm := [(0, .any), (3, .any), (6, .any)]
def Xd : Nm := [(0, .any), (3, .any), (6, .any)]
def Jb8 : An := (.seq (.seq .leaf (.cond .leaf .leaf)) (.block none .leaf))
def JjA (r0 : QE) : An := (.seq .leaf (.seq (.block none (.seq .leaf (.cond (.seq .leaf .leaf) (.seq .leaf (.cond (.seq .leaf .leaf) (.seq .leaf (.cond (.seq .leaf .leaf) .leaf))))))) (.seq .leaf (.seq (.block none (.sum WC Jcu r0)) (.seq .leaf (.seq .leaf (.seq .leaf .leaf)))))))
def Zr (f : Nat) (rc : Bool -> Bool -> List PV -> Int -> Int -> Int -> Option Res) (k0 : Bool -> Bool -> List PV -> Int -> Int -> Int -> Option Res) (v0 v1 : Bool) (v2 : List PV) (v3 v4 v5 : Int) : Option Res := bif decide (v3 < zi v2.length) then bif decide (0 <= v3) && decide (v3 < zi v2.length) && (PV.isSt 45 #[Field.mk "D" 3 0 false "" "" 0, Field.mk "U" 3 1 false "" "" 8].size (v2.getD v3.toNat PV.top) && (PV.isInt IntKind.i64 (PV.child 0 (v2.getD v3.toNat PV.top)) && (PV.isInt IntKind.i64 (PV.child (0 + 1) (v2.getD v3.toNat PV.top)) && true))) && true then bif Jom (AV.mk (PV.child 0 (v2.getD v3.toNat PV.top)).int (PV.child (0 + 1) (v2.getD v3.toNat PV.top)).int) (AV.mk v4 v5) then rc v0 v1 v2 (IntKind.i64.wrap (v3 + 1)) v4 v5 else k0 v0 v1 v2 v3 v4 v5 else none else k0 v0 v1 v2 v3 v4 v5
def Yi (f : Nat) (k0 : Bool -> Bool -> List PV -> Int -> Int -> Int -> Option Res) : Nat -> Bool -> Bool -> List PV -> Int -> Int -> Int -> Option Res
 | 0, _, _, _, _, _, _ => none
 | n + 1, v0, v1, v2, v3, v4, v5 => Zr f (Yi f k0 n) k0 v0 v1 v2 v3 v4 v5
theorem JmL (f : Nat) (k : Kont) (n : Nat) (v0 v1 : Bool) (v2 : List PV) (v3 v4 v5 : Int) : Jl tau 0 WC (fun s k => ev tau JmK 0 0 G4 (Jb8 ) s k) (n + 1) (Jd WC Jcu [.ro 45 v0 v1 v2, .ptr 832 [], .sc (.int .i64 v3)] [(832, .box false 45 (PV.st 45 [.sc (.int .i64 v4), .sc (.int .i64 v5)]))]) (Jo tau 0 Xd k) = Zr f (fun v0 v1 v2 v3 v4 v5 => Jl tau 0 WC (fun s k => ev tau JmK 0 0 G4 (Jb8 ) s k) n (Jd WC Jcu [.ro 45 v0 v1 v2, .ptr 832 [], .sc (.int .i64 v3)] [(832, .box false 45 (PV.st 45 [.sc (.int .i64 v4), .sc (.int .i64 v5)]))]) (Jo tau 0 Xd k)) (fun x0 x1 x2 x3 x4 x5 => k (Ex.exit 1) (Jd Xd Jcu [.ro 45 x0 x1 x2, .ptr 832 [], .sc (.int .i64 x3)] [(832, .box false 45 (PV.st 45 [.sc (.int .i64 x4), .sc (.int .i64 x5)]))])) v0 v1 v2 v3 v4 v5 := by kernel_rfl
theorem Jf8 (f : Nat) (k : Kont) : ∀ (n : Nat) (v0 v1 : Bool) (v2 : List PV) (v3 v4 v5 : Int), Jl tau 0 WC (fun s k => ev tau JmK 0 0 G4 (Jb8 ) s k) n (Jd WC Jcu [.ro 45 v0 v1 v2, .ptr 832 [], .sc (.int .i64 v3)] [(832, .box false 45 (PV.st 45 [.sc (.int .i64 v4), .sc (.int .i64 v5)]))]) (Jo tau 0 Xd k) = Yi f (fun x0 x1 x2 x3 x4 x5 => k (Ex.exit 1) (Jd Xd Jcu [.ro 45 x0 x1 x2, .ptr 832 [], .sc (.int .i64 x3)] [(832, .box false 45 (PV.st 45 [.sc (.int .i64 x4), .sc (.int .i64 x5)]))])) n v0 v1 v2 v3 v4 v5 | 0, _, _, _, _, _, _ => rfl | n + 1, v0, v1, v2, v3, v4, v5 => (JmL f k n v0 v1 v2 v3 v4 v5).trans (congrArg (fun r => Zr f r (fun x0 x1 x2 x3 x4 x5 => k (Ex.exit 1) (Jd Xd Jcu [.ro 45 x0 x1 x2, .ptr 832 [], .sc (.int .i64 x3)] [(832, .box false 45 (PV.st 45 [.sc (.int .i64 x4), .sc (.int .i64 x5)]))])) v0 v1 v2 v3 v4 v5) (by funext v0 v1 v2 v3 v4 v5; exact Jf8 f k n v0 v1 v2 v3 v4 v5))
def Vy (f : Nat) : List PV -> List (Nat × Ent) -> Kont -> Option Res
 | [.ro 45 v0 v1 v2, .ptr 832 [],
 PV.sc
  (Value.int IntKind.i64
   v3)], [(832,
  Ent.box false 45
   (PV.st 45
    [.sc (.int .i64 v4),
     PV.sc
      (Value.int IntKind.i64
       v5)]))], k => Yi f (fun x0 x1 x2 x3 x4 x5 => k (Ex.exit
 1) (Jd Xd Jcu [.ro 45 x0 x1 x2, .ptr 832 [],
 .sc (.int .i64 x3)] [(832, .box false 45 (PV.st 45 [.sc (.int .i64 x4), .sc (.int .i64 x5)]))])) f v0 v1 v2 v3 v4 v5
 | _, _, _ => none
theorem Jpa (f : Nat) : Jf G4 Jb8 = [] := by kernel_rfl
theorem Jtp (f : Nat) : (Item.l G4 WC Jcu (Vy f)).Ok tau Try.prog 0 := Jz Jp Jjz Jq (x := Jb8) (nm2 := Xd) (Jm _ _ (by rw [Jpa f]; intro q hq; cases hq)) fun vs hp k res hr => by
 unfold Vy at hr
 split at hr
 · exact ⟨f, 0, (Jf8 f _ f _ _ _ _ _ _ ).trans hr⟩
 · cases hr
def Jtq (f : Nat) (l_z l_f : Bool) (l : List PV) (a_D a_U : Int) (k : Res -> Option Res) : Option Res := bif !inA [a_D, 2, a_U, 7] then k (Res.mk (.tup [.ro 45 l_z l_f l, .sc (.int .i64 1)]) [] []) else bif pOk l then bif hasP (PH.mk l (AV.mk a_D a_U)) then k (Res.mk (.tup [.ro 45 l_z l_f l, .sc (.int .i64 12)]) [] []) else bif decide (zi l.length >= 8) then k (Res.mk (.tup [.ro 45 l_z l_f l, .sc (.int .i64 4)]) [] []) else Yi f (fun x0_0 x1_0 x2_0 x3_0 x4_0 x5_0 => bif decide (0 <= x3_0) && true && decide (x3_0.toNat <= x2_0.length) && true then bif Jk (0 + (List.take x3_0.toNat x2_0).length) 16 && true then bif Jk (0 + (List.take x3_0.toNat x2_0).length + 1) 16 && true then bif decide (0 <= x3_0) && true && decide (x3_0.toNat <= x2_0.length) && decide (x2_0.length <= x2_0.length) && true then bif Jk (0 + (List.take x3_0.toNat x2_0).length + 1 + (List.drop x3_0.toNat (List.take x2_0.length x2_0)).length) 16 && true then k (Res.mk (.tup [.ro 45 false false (List.take (0 + (List.take x3_0.toNat x2_0).length + 1 + (List.drop x3_0.toNat (List.take x2_0.length x2_0)).length) (List.take (0 + (List.take x3_0.toNat x2_0).length + 1) (List.take (0 + (List.take x3_0.toNat x2_0).length) (List.take x3_0.toNat x2_0) ++ [.st 45 [.sc (.int .i64 x4_0), .sc (.int .i64 x5_0)]]) ++ List.drop x3_0.toNat (List.take x2_0.length x2_0))), .sc (.int .i64 0)]) [] []) else none else none else none else none else none) f l_z l_f l (0) a_D a_U else none
theorem JAt (f : Nat) (l_z l_f : Bool) (l : List PV) (a_D a_U : Int) (k : Res -> Option Res) : JQ tau JmK Try.f119 (Try.f119.body.get!) (JjA (Vy f)) [.ro, .ro] 0 [.ro 45 l_z l_f l, .st 45 [.sc (.int .i64 a_D), .sc (.int .i64 a_U)]] [] k = Jtq f l_z l_f l a_D a_U k := by kernel_rfl
theorem JxE (f : Nat) : Jf (Try.f119.body.get!) (JjA (Vy f)) = [.l G4 WC Jcu (Vy f)] := by kernel_rfl
theorem JxF (f : Nat) : ∀ q ∈ Jf (Try.f119.body.get!) (JjA (Vy f)), q.Ok tau Try.prog 0 := by
 rw [JxE f]; simp only [List.forall_mem_cons, List.not_mem_nil, false_implies, implies_true, and_true]; exact Jtp f
theorem Jrc : Try.prog.funcs[119]? = some Try.f119 := by kernel_rfl
theorem Jrd : Try.f119.body = some (Try.f119.body.get!) := by kernel_rfl
theorem JxG : Enters Try.prog 119 := enters_of Jrc (by kernel_rfl) Jrd
def Jcv : Nat := 33
def JmM : Fns := JH 116 Ji2 (F0)
theorem JjB : Jy tau Try.prog JmM := (JD).add Jhr JkW
def G5 : Code := Qo (Try.f120.body.get!) [1, 1, 1, 0, 1, 0, 0]
def WD : Nm := [(0, .any), (3, .any), (6, .own), (7, .any)]
def Xe : Nm := [(6, .any)]
def Jb9 : An := (.seq (.seq .leaf (.cond .leaf .leaf)) (.seq (.block none (.seq .leaf (.cond .leaf .leaf))) .leaf))
def JjC (r0 : QE) : An := (.seq .leaf (.seq (.seq .leaf (.cond (.seq .leaf .leaf) .leaf)) (.seq .leaf (.seq (.seq .leaf (.block none (.sum WD Jcv r0))) (.seq .leaf .leaf)))))
def Zs (f : Nat) (rc : Bool -> Bool -> List PV -> Nat -> Int -> Int -> Int -> Bool -> List PV -> Option Res) (k0 : Nat -> Bool -> List PV -> Option Res) (v0 v1 : Bool) (v2 : List PV) (v3 : Nat) (v4 v5 v6 : Int) (v7 : Bool) (v8 : List PV) : Option Res := bif decide (v4 < zi v2.length) then bif decide (0 <= v4) && decide (v4 < zi v2.length) && (PV.isSt 45 #[Field.mk "D" 3 0 false "" "" 0, Field.mk "U" 3 1 false "" "" 8].size (v2.getD v4.toNat PV.top) && (PV.isInt IntKind.i64 (PV.child 0 (v2.getD v4.toNat PV.top)) && (PV.isInt IntKind.i64 (PV.child (0 + 1) (v2.getD v4.toNat PV.top)) && true))) && true then bif !((PV.child 0 (v2.getD v4.toNat PV.top)).int == v5 && ((PV.child (0 + 1) (v2.getD v4.toNat PV.top)).int == v6 && true)) then bif decide (0 <= v4) && decide (v4 < zi v2.length) && (PV.isSt 45 #[Field.mk "D" 3 0 false "" "" 0, Field.mk "U" 3 1 false "" "" 8].size (v2.getD v4.toNat PV.top) && (PV.isInt IntKind.i64 (PV.child 0 (v2.getD v4.toNat PV.top)) && (PV.isInt IntKind.i64 (PV.child (0 + 1) (v2.getD v4.toNat PV.top)) && true))) && true then bif Jk (v3 + 1) 16 && true then rc v0 v1 v2 (v3 + 1) (IntKind.i64.wrap (v4 + 1)) v5 v6 (v7 && false) (List.take v3 v8 ++ [.st 45 [.sc (.int .i64 (PV.child 0 (v2.getD v4.toNat PV.top)).int), .sc (.int .i64 (PV.child (0 + 1) (v2.getD v4.toNat PV.top)).int)]]) else none else none else rc v0 v1 v2 v3 (IntKind.i64.wrap (v4 + 1)) v5 v6 v7 v8 else none else k0 v3 v7 v8
def Yj (f : Nat) (k0 : Nat -> Bool -> List PV -> Option Res) : Nat -> Bool -> Bool -> List PV -> Nat -> Int -> Int -> Int -> Bool -> List PV -> Option Res
 | 0, _, _, _, _, _, _, _, _, _ => none
 | n + 1, v0, v1, v2, v3, v4, v5, v6, v7, v8 => Zs f (Yj f k0 n) k0 v0 v1 v2 v3 v4 v5 v6 v7 v8
theorem JmN (f : Nat) (k : Kont) (n : Nat) (v0 v1 : Bool) (v2 : List PV) (v3 : Nat) (v4 v5 v6 : Int) (v7 : Bool) (v8 : List PV) : Jl tau 0 WD (fun s k => ev tau JmM 0 0 G5 (Jb9 ) s k) (n + 1) (Jd WD Jcv [.ro 45 v0 v1 v2, .ptr 544 [], .ow 45 545 [] 0 v3 none, .sc (.int .i64 v4)] [(544, .box false 45 (PV.st 45 [.sc (.int .i64 v5), .sc (.int .i64 v6)])), (545, .vec false 45 v7 v8)]) (Jo tau 0 Xe k) = Zs f (fun v0 v1 v2 v3 v4 v5 v6 v7 v8 => Jl tau 0 WD (fun s k => ev tau JmM 0 0 G5 (Jb9 ) s k) n (Jd WD Jcv [.ro 45 v0 v1 v2, .ptr 544 [], .ow 45 545 [] 0 v3 none, .sc (.int .i64 v4)] [(544, .box false 45 (PV.st 45 [.sc (.int .i64 v5), .sc (.int .i64 v6)])), (545, .vec false 45 v7 v8)]) (Jo tau 0 Xe k)) (fun x0 x1 x2 => k (Ex.exit 0) (Jd Xe Jcv [.ow 45 544 [] 0 x0 none] [(544, .vec false 45 x1 x2)])) v0 v1 v2 v3 v4 v5 v6 v7 v8 := by kernel_rfl
theorem Jf9 (f : Nat) (k : Kont) : ∀ (n : Nat) (v0 v1 : Bool) (v2 : List PV) (v3 : Nat) (v4 v5 v6 : Int) (v7 : Bool) (v8 : List PV), Jl tau 0 WD (fun s k => ev tau JmM 0 0 G5 (Jb9 ) s k) n (Jd WD Jcv [.ro 45 v0 v1 v2, .ptr 544 [], .ow 45 545 [] 0 v3 none, .sc (.int .i64 v4)] [(544, .box false 45 (PV.st 45 [.sc (.int .i64 v5), .sc (.int .i64 v6)])), (545, .vec false 45 v7 v8)]) (Jo tau 0 Xe k) = Yj f (fun x0 x1 x2 => k (Ex.exit 0) (Jd Xe Jcv [.ow 45 544 [] 0 x0 none] [(544, .vec false 45 x1 x2)])) n v0 v1 v2 v3 v4 v5 v6 v7 v8 | 0, _, _, _, _, _, _, _, _, _ => rfl | n + 1, v0, v1, v2, v3, v4, v5, v6, v7, v8 => (JmN f k n v0 v1 v2 v3 v4 v5 v6 v7 v8).trans (congrArg (fun r => Zs f r (fun x0 x1 x2 => k (Ex.exit 0) (Jd Xe Jcv [.ow 45 544 [] 0 x0 none] [(544, .vec false 45 x1 x2)])) v0 v1 v2 v3 v4 v5 v6 v7 v8) (by funext v0 v1 v2 v3 v4 v5 v6 v7 v8; exact Jf9 f k n v0 v1 v2 v3 v4 v5 v6 v7 v8))
def Vz (f : Nat) : List PV -> List (Nat × Ent) -> Kont -> Option Res
 | [.ro 45 v0 v1 v2, .ptr 544 [], .ow 45 545 [] 0 v3 none,
 PV.sc
  (Value.int IntKind.i64
   v4)], [(544, .box false 45 (PV.st 45 [.sc (.int .i64 v5), .sc (.int .i64 v6)])),
 (545, .vec false 45 v7 v8)], k => Yj f (fun x0 x1 x2 => k (Ex.exit 0) (Jd Xe Jcv [.ow 45 544 [] 0 x0 none] [(544, .vec false 45 x1 x2)])) f v0 v1 v2 v3 v4 v5 v6 v7 v8
 | _, _, _ => none
theorem Jpb (f : Nat) : Jf G5 Jb9 = [] := by kernel_rfl
theorem Jtr (f : Nat) : (Item.l G5 WD Jcv (Vz f)).Ok tau Try.prog 0 := Jz Jp JjB Jq (x := Jb9) (nm2 := Xe) (Jm _ _ (by rw [Jpb f]; intro q hq; cases hq)) fun vs hp k res hr => by
 unfold Vz at hr
 split at hr
 · exact ⟨f, 0, (Jf9 f _ f _ _ _ _ _ _ _ _ _ ).trans hr⟩
 · cases hr
def Jts (f : Nat) (l_z l_f : Bool) (l : List PV) (a_D a_U : Int) (k : Res -> Option Res) : Option Res := bif pOk l then bif !hasP (PH.mk l (AV.mk a_D a_U)) then k (Res.mk (.tup [.ro 45 l_z l_f l, .sc (.int .i64 2)]) [] []) else Yj f (fun x0_0 x1_0 x2_0 => k (Res.mk (.tup [.ro 45 (Ent.vec false 45 x1_0 x2_0).nil false (List.take x0_0 x2_0), .sc (.int .i64 0)]) [] [])) f l_z l_f l (0) (0) a_D a_U true ([]) else none
theorem JAu (f : Nat) (l_z l_f : Bool) (l : List PV) (a_D a_U : Int) (k : Res -> Option Res) : JQ tau JmM Try.f120 (Try.f120.body.get!) (JjC (Vz f)) [.ro, .ro] 0 [.ro 45 l_z l_f l, .st 45 [.sc (.int .i64 a_D), .sc (.int .i64 a_U)]] [] k = Jts f l_z l_f l a_D a_U k := by kernel_rfl
theorem JxH (f : Nat) : Jf (Try.f120.body.get!) (JjC (Vz f)) = [.l G5 WD Jcv (Vz f)] := by kernel_rfl
theorem JxI (f : Nat) : ∀ q ∈ Jf (Try.f120.body.get!) (JjC (Vz f)), q.Ok tau Try.prog 0 := by
 rw [JxH f]; simp only [List.forall_mem_cons, List.not_mem_nil, false_implies, implies_true, and_true]; exact Jtr f
theorem Jre : Try.prog.funcs[120]? = some Try.f120 := by kernel_rfl
theorem Jrf : Try.f120.body = some (Try.f120.body.get!) := by kernel_rfl
theorem JxJ : Enters Try.prog 120 := enters_of Jre (by kernel_rfl) Jrf
-- FN ref12.Add | ref12.Remove
def G6 : List PV -> AV -> Nat
 | [], _ => 0
 | p :: ps, a => bif ltA (av p) a then G6 ps a + 1 else 0
def Jca (l : List PV) (a : AV) : List PV := l.take (G6 l a) ++ adP a :: l.drop (G6 l a)
theorem JeF : ∀ (l : List PV) (a : AV), G6 l a <= l.length
 | [], _ => Nat.zero_le _
 | p :: ps, a => by
  simp only [G6, List.length_cons]
  have := JeF ps a
  cases ltA (av p) a with
  | true => rw [cond_true]; omega
  | false => rw [cond_false]; omega
def Jcb (x : PH) : Int := bif !inA [x.a.d, 2, x.a.u, 7] then 1 else bif hasL x.l x.a then 12 else bif decide (x.l.length >= 8) then 4 else 0
def adE : PH -> Int := hid Jcb
def adL : PH -> List PV := hid fun x => bif Jcb x == 0 then Jca x.l x.a else x.l
def adF : PH -> Bool := hid fun x => !(Jcb x == 0)
theorem Jtt (x : PH) : adE x = Jcb x := by rw [adE, hid_eq]
theorem JhU (x : PH) : adL x = bif Jcb x == 0 then Jca x.l x.a else x.l := by rw [adL, hid_eq]
theorem Jtu (x : PH) : adF x = !(Jcb x == 0) := by rw [adF, hid_eq]
def Jtv (x : PH) : Int := bif hasL x.l x.a then 0 else 2
def rmA (l : List PV) (a : AV) : List PV := l.filter fun p => !eqA (av p) a
def rmE : PH -> Int := hid Jtv
def rmL : PH -> List PV := hid fun x => bif hasL x.l x.a then rmA x.l x.a else x.l
def rmZ : PH -> Bool -> Bool := hid fun x z => bif hasL x.l x.a then (rmA x.l x.a).isEmpty else z
def rmF : PH -> Bool -> Bool := hid fun x f => bif hasL x.l x.a then false else f
theorem Jtw (x : PH) : rmE x = Jtv x := by rw [rmE, hid_eq]
theorem JhV (x : PH) : rmL x = bif hasL x.l x.a then rmA x.l x.a else x.l := by rw [rmL, hid_eq]
theorem Jtx (x : PH) (z : Bool) : rmZ x z = bif hasL x.l x.a then (rmA x.l x.a).isEmpty else z := by rw [rmZ, hid_eq]
theorem Jty (x : PH) (z : Bool) : rmF x z = bif hasL x.l x.a then false else z := by rw [rmF, hid_eq]
theorem JmO (l : List PV) (d u : Int) (h1 : l.all XY = true) (h2 : l.length <= 8) (f : Nat) (k0 : Bool -> Bool -> List PV -> Int -> Int -> Int -> Option Res) (z fl : Bool) : ∀ (e i n : Nat), i + e = l.length -> e < n ->
  Yi f k0 n z fl l (i : Int) d u = k0 z fl l ((i + G6 (l.drop i) ⟨d, u⟩ : Nat) : Int) d u
 | 0, i, n + 1, hi, hn => by
   rw [List.drop_of_length_le (by omega)]
   simp only [Yi, Zr, G6, Nat.add_zero]
   exact Ji (by simp [zi]; omega)
 | e + 1, i, n + 1, hi, hn => by
   have g1 : ((i : Int)).toNat = i := by omega
   have w1 : IntKind.i64.wrap ((i : Int) + 1) = ((i + 1 : Nat) : Int) := by rw [wrap_i64 (by omega) (by omega)]; omega
   have hd := Qf (l := l) (i := i) (by omega)
   have hc := Xv (WH h1 (i := i) (by omega))
   unfold GZ at hc
   rw [hd]
   simp only [Yi, Zr, g1, w1, Ji1]
   refine (Jc (by simp [zi]; omega)).trans ((Jc (by rw [hc]; simp [zi]; omega)).trans ?_)
   have he : ltA ⟨(PV.child 0 (l.getD i PV.top)).int, (PV.child (0 + 1) (l.getD i PV.top)).int⟩ ⟨d, u⟩ = ltA (av (l.getD i .top)) ⟨d, u⟩ := rfl
   rw [he, G6]
   cases ltA (av (l.getD i .top)) ⟨d, u⟩ with
   | false => rfl
   | true =>
    refine (Jc rfl).trans ((JmO l d u h1 h2 f k0 z fl e (i + 1) n (by omega) (by omega)).trans ?_)
    rw [cond_true, show i + 1 + G6 (l.drop (i + 1)) ⟨d, u⟩ = i + (G6 (l.drop (i + 1)) ⟨d, u⟩ + 1) from by omega]
def JeG : List PV -> List Ent -> (Res -> Option Res) -> Option Res
 | [.ro 45 z f l, .st 45 [.sc (.int .i64 d), .sc (.int .i64 u)]], [], k => bif pOk l then k ⟨.tup [.ro 45 (adF ⟨l, ⟨d, u⟩⟩ && z) (adF ⟨l, ⟨d, u⟩⟩ && f) (adL ⟨l, ⟨d, u⟩⟩), .sc (.int .i64 (adE ⟨l, ⟨d, u⟩⟩))], [], []⟩ else none
 | _, _, _ => none
def Jrg : Sig := { own := [], run := JeG }
theorem Jpc (z f : Bool) (l : List PV) (d u : Int) (h : pOk l = true) (k : Res -> Option Res) : Jtq 20 z f l d u k = k ⟨.tup [.ro 45 (adF ⟨l, ⟨d, u⟩⟩ && z) (adF ⟨l, ⟨d, u⟩⟩ && f) (adL ⟨l, ⟨d, u⟩⟩), .sc (.int .i64 (adE ⟨l, ⟨d, u⟩⟩))], [], []⟩ := by
 obtain ⟨h1, _, h3⟩ := Q9.1 h
 unfold Jtq
 rw [hasP_eq, Jtt, JhU, Jtu, Jcb]
 cases hu : inA [d, 2, u, 7] with
 | false => rfl
 | true =>
  refine (Ji rfl).trans ((Jc h).trans ?_)
  cases hh : hasL l ⟨d, u⟩ with
  | true => rfl
  | false =>
   refine (Ji rfl).trans ?_
   by_cases h8 : l.length >= 8
   · refine (Jc (by simp [zi]; omega)).trans ?_
     simp only [decide_eq_true h8, Bool.not_true, cond_false, cond_true]; rfl
   · refine (Ji (by simp [zi]; omega)).trans ?_
     simp only [decide_eq_false h8, Bool.not_true, cond_false]
     refine (JmO l d u h1 (by omega) 20 _ z f l.length 0 20 (by omega) (by omega)).trans ?_
     rw [List.drop_zero, Nat.zero_add]
     have hc := JeF l ⟨d, u⟩
     unfold Jca
     simp only [Int.toNat_natCast]
     generalize G6 l ⟨d, u⟩ = c at *
     have e0 : List.take l.length l = l := List.take_length
     have e1 : List.take (0 + (List.take c l).length) (List.take c l) = List.take c l := List.take_of_length_le (by omega)
     have e2 : ∀ p : PV, List.take (0 + (List.take c l).length + 1) (List.take c l ++ [p]) = List.take c l ++ [p] := fun p => List.take_of_length_le (by simp)
     have e3 : ∀ p : PV, List.take (0 + (List.take c l).length + 1 + (List.drop c l).length) (List.take c l ++ [p] ++ List.drop c l) = List.take c l ++ [p] ++ List.drop c l := fun p => List.take_of_length_le (by simp; omega)
     simp only [e0, e1, e2, e3]
     refine (Jc (by simp; omega)).trans ((Jc (by simp [Jk]; omega)).trans ((Jc (by simp [Jk]; omega)).trans ((Jc (by simp; omega)).trans ((Jc (by simp [Jk]; omega)).trans ?_))))
     rw [List.append_assoc]; rfl
theorem Jtz : Jg tau Try.prog 119 Jrg := Jg.mk' fun xs es k res hl hr => by
 change JeG xs es k = some res at hr
 unfold JeG at hr
 split at hr
 · rename_i z f l d u
   obtain ⟨hc, hr⟩ := JE hr
   exact Qr Jp Jjz Jq Jrc Jrd (JjA (Vy 20)) [.ro, .ro] 0 0 (JxF 20) hl rfl ((JAt 20 z f l d u k).trans ((Jpc z f l d u hc k).trans hr))
 · cases hr
theorem JhW (l : List PV) (d u : Int) (h1 : l.all XY = true) (h2 : l.length <= 8) (f : Nat) (k0 : Nat -> Bool -> List PV -> Option Res) (z fl : Bool) : ∀ (e i n : Nat) (L : List PV), i + e = l.length -> e < n -> L.length <= i ->
  Yj f k0 n z fl l L.length (i : Int) d u L.isEmpty L = k0 (L ++ rmA (l.drop i) ⟨d, u⟩).length (L ++ rmA (l.drop i) ⟨d, u⟩).isEmpty (L ++ rmA (l.drop i) ⟨d, u⟩)
 | 0, i, n + 1, L, hi, hn, hL => by
   rw [List.drop_of_length_le (by omega)]
   simp only [Yj, Zs, rmA, List.filter_nil, List.append_nil]
   exact Ji (by simp [zi]; omega)
 | e + 1, i, n + 1, L, hi, hn, hL => by
   have g1 : ((i : Int)).toNat = i := by omega
   have w1 : IntKind.i64.wrap ((i : Int) + 1) = ((i + 1 : Nat) : Int) := by rw [wrap_i64 (by omega) (by omega)]; omega
   have hd := Qf (l := l) (i := i) (by omega)
   have ha := WH h1 (i := i) (by omega)
   have hc := Xv ha
   unfold GZ at hc
   rw [hd]
   simp only [Yj, Zs, g1, w1]
   have hrd : (decide (0 <= (i : Int)) && decide ((i : Int) < zi l.length) && (PV.isSt 45 #[Field.mk "D" 3 0 false "" "" 0, Field.mk "U" 3 1 false "" "" 8].size (l.getD i PV.top) && (PV.isInt IntKind.i64 (PV.child 0 (l.getD i PV.top)) && (PV.isInt IntKind.i64 (PV.child (0 + 1) (l.getD i PV.top)) && true))) && true) = true := by rw [hc]; simp [zi]; omega
   refine (Jc (by simp [zi]; omega)).trans ((Jc hrd).trans ?_)
   have he : ((PV.child 0 (l.getD i PV.top)).int == d && ((PV.child (0 + 1) (l.getD i PV.top)).int == u && true)) = eqA (av (l.getD i .top)) ⟨d, u⟩ := rfl
   have hp : PV.st 45 [.sc (.int .i64 (PV.child 0 (l.getD i PV.top)).int), .sc (.int .i64 (PV.child (0 + 1) (l.getD i PV.top)).int)] = l.getD i .top := Jeo ha
   rw [he, hp, rmA, List.filter_cons]
   have tk : List.take L.length L = L := List.take_length
   cases eqA (av (l.getD i .top)) ⟨d, u⟩ with
   | true =>
    refine (Ji rfl).trans ((JhW l d u h1 h2 f k0 z fl e (i + 1) n L (by omega) (by omega) (by omega)).trans ?_)
    rfl
   | false =>
    have e1 : L.length + 1 = (L ++ [l.getD i .top]).length := by simp
    have e2 : (L.isEmpty && false) = (L ++ [l.getD i .top]).isEmpty := by simp
    refine (Jc rfl).trans ((Jc hrd).trans ((Jc (by simp [Jk]; omega)).trans ?_))
    rw [tk, e1, e2]
    refine (JhW l d u h1 h2 f k0 z fl e (i + 1) n _ (by omega) (by omega) (by simp; omega)).trans ?_
    rw [List.append_assoc]; rfl
def JeH : List PV -> List Ent -> (Res -> Option Res) -> Option Res
 | [.ro 45 z f l, .st 45 [.sc (.int .i64 d), .sc (.int .i64 u)]], [], k => bif pOk l then k ⟨.tup [.ro 45 (rmZ ⟨l, ⟨d, u⟩⟩ z) (rmF ⟨l, ⟨d, u⟩⟩ f) (rmL ⟨l, ⟨d, u⟩⟩), .sc (.int .i64 (rmE ⟨l, ⟨d, u⟩⟩))], [], []⟩ else none
 | _, _, _ => none
def Jrh : Sig := { own := [], run := JeH }
theorem Jpd (z f : Bool) (l : List PV) (d u : Int) (h : pOk l = true) (k : Res -> Option Res) : Jts 20 z f l d u k = k ⟨.tup [.ro 45 (rmZ ⟨l, ⟨d, u⟩⟩ z) (rmF ⟨l, ⟨d, u⟩⟩ f) (rmL ⟨l, ⟨d, u⟩⟩), .sc (.int .i64 (rmE ⟨l, ⟨d, u⟩⟩))], [], []⟩ := by
 obtain ⟨h1, _, h3⟩ := Q9.1 h
 unfold Jts
 rw [hasP_eq, Jtw, JhV, Jtx, Jty, Jtv]
 refine (Jc h).trans ?_
 cases hh : hasL l ⟨d, u⟩ with
 | false => rfl
 | true =>
  refine (Ji rfl).trans ((JhW l d u h1 h3 20 _ z f l.length 0 20 [] (by omega) (by omega) (by simp)).trans ?_)
  rw [List.drop_zero, List.nil_append, List.take_length]; rfl
theorem JtA : Jg tau Try.prog 120 Jrh := Jg.mk' fun xs es k res hl hr => by
 change JeH xs es k = some res at hr
 unfold JeH at hr
 split at hr
 · rename_i z f l d u
   obtain ⟨hc, hr⟩ := JE hr
   exact Qr Jp JjB Jq Jre Jrf (JjC (Vz 20)) [.ro, .ro] 0 0 (JxI 20) hl rfl ((JAu 20 z f l d u k).trans ((Jpd z f l d u hc k).trans hr))
 · cases hr
/-! what stays -/
theorem Zt {p : PV} {l : List PV} : srt (p :: l) = true ↔ (∀ q ∈ l, ltA (av p) (av q) = true) /\ srt l = true := by
 simp only [srt, Bool.and_eq_true, List.all_eq_true]
theorem VA (P : PV -> Bool) : ∀ {l : List PV}, srt l = true -> srt (l.filter P) = true
 | [], _ => rfl
 | p :: l, h => by
  obtain ⟨h1, h2⟩ := Zt.1 h
  rw [List.filter_cons]
  cases P p with
  | false => exact VA P h2
  | true => exact Zt.2 ⟨fun q hq => h1 q (List.mem_filter.1 hq).1, VA P h2⟩
theorem Jkf {a b c : AV} (h : ltA a b = true) (h2 : ltA b c = true) : ltA a c = true := by
 rw [Jeq] at *; omega
theorem JtB {a b : AV} (h : ltA a b = false) (h2 : eqA a b = false) : ltA b a = true := by
 have h1 : ¬ ltA a b = true := by rw [h]; decide
 have h3 : ¬ eqA a b = true := by rw [h2]; decide
 rw [Jeq] at h1
 rw [Jep] at h3
 rw [Jeq]
 rcases a with ⟨p, q⟩; rcases b with ⟨r, s⟩
 have : ¬ (p = r /\ q = s) := fun ⟨x, y⟩ => h3 (by rw [x, y])
 simp only at h1 ⊢
 omega
theorem Jdq (p : PV) (l : List PV) (a : AV) : Jca (p :: l) a = bif ltA (av p) a then p :: Jca l a else adP a :: p :: l := by
 unfold Jca
 simp only [G6]
 cases ltA (av p) a with
 | true => simp
 | false => simp
theorem Gv {a : AV} {q : PV} : ∀ {l : List PV}, q ∈ Jca l a -> q = adP a ∨ q ∈ l
 | [], h => by simp [Jca, G6] at h; exact .inl h
 | p :: l, h => by
  rw [Jdq] at h
  cases hc : ltA (av p) a with
  | true =>
   rw [hc, cond_true] at h
   rcases List.mem_cons.1 h with h | h
   · exact .inr (h ▸ List.mem_cons_self)
   · rcases Gv h with h | h
     · exact .inl h
     · exact .inr (List.mem_cons_of_mem _ h)
  | false =>
   rw [hc, cond_false] at h
   exact List.mem_cons.1 h
theorem Jga {a : AV} : ∀ {l : List PV}, srt l = true -> hasL l a = false -> srt (Jca l a) = true
 | [], _, _ => rfl
 | p :: l, h, hh => by
  obtain ⟨h1, h2⟩ := Zt.1 h
  have hh2 : eqA (av p) a = false /\ hasL l a = false := by
   have : hasL (p :: l) a = (eqA (av p) a || hasL l a) := rfl
   rw [this, Bool.or_eq_false_iff] at hh; exact hh
  rw [Jdq]
  cases hc : ltA (av p) a with
  | true =>
   rw [cond_true]
   refine Zt.2 ⟨fun q hq => ?_, Jga h2 hh2.2⟩
   rcases Gv hq with rfl | hq
   · exact hc
   · exact h1 q hq
  | false =>
   rw [cond_false]
   have hl := JtB hc hh2.1
   refine Zt.2 ⟨fun q hq => ?_, h⟩
   rcases List.mem_cons.1 hq with rfl | hq
   · exact hl
   · exact Jkf hl (h1 q hq)
theorem Jgb (l : List PV) (a : AV) : (Jca l a).length = l.length + 1 := by
 have := JeF l a
 simp [Jca]; omega
theorem Jpe {x : PH} (h : pOk x.l = true) : pOk (adL x) = true := by
 rw [JhU]
 cases he : (Jcb x == 0) with
 | false => exact h
 | true =>
  rw [cond_true]
  obtain ⟨h1, h2, h3⟩ := Q9.1 h
  unfold Jcb at he
  cases hu : inA [x.a.d, 2, x.a.u, 7] with
  | false => rw [hu] at he; exact absurd (show false = true from he) (by decide)
  | true =>
   rw [hu] at he
   cases hh : hasL x.l x.a with
   | true => rw [hh] at he; exact absurd (show false = true from he) (by decide)
   | false =>
    rw [hh] at he
    by_cases h8 : x.l.length >= 8
    · rw [decide_eq_true h8] at he; exact absurd (show false = true from he) (by decide)
    · refine Q9.2 ⟨List.all_eq_true.2 fun q hq => ?_, Jga h2 hh, by rw [Jgb]; omega⟩
      rcases Gv hq with rfl | hq
      · rfl
      · exact List.all_eq_true.1 h1 q hq
theorem Jpf {x : PH} (h : pOk x.l = true) : pOk (rmL x) = true := by
 rw [JhV]
 cases hasL x.l x.a with
 | false => exact h
 | true =>
  obtain ⟨h1, h2, h3⟩ := Q9.1 h
  exact Q9.2 ⟨List.all_eq_true.2 fun q hq => List.all_eq_true.1 h1 q (List.mem_filter.1 hq).1, VA _ h2, by have := List.length_filter_le (fun p => !eqA (av p) x.a) x.l; show (rmA x.l x.a).length <= 8; unfold rmA; omega⟩
def F66 : Fns := JH 120 Jrh (JH 119 Jrg (JH 118 Jrb (JH 117 Jiz (JH 116 Ji2 (JH 62 Jxq (JH 52 JwP (F0)))))))
theorem JtC : Jy tau Try.prog F66 := (((((((JD).add JwQ Jz6).add Jxr Jxg).add Jhr JkW).add Jg1 Jk0).add Jto JxD).add Jtz JxG).add JtA JxJ
def Jpg : An := (.seq .leaf (.seq .leaf (.seq (.seq .leaf (.cond (.seq .leaf .leaf) .leaf)) (.seq (.seq .leaf (.cond (.seq .leaf .leaf) .leaf)) (.seq (.seq .leaf (.cond (.seq .leaf .leaf) .leaf)) (.seq .leaf (.seq (.block none (.seq .leaf (.cond (.seq .leaf (.seq .leaf (.cond .leaf .leaf))) (.seq .leaf (.cond .leaf (.seq .leaf (.cond .leaf .leaf))))))) (.seq (.seq .leaf (.cond (.seq .leaf .leaf) .leaf)) (.seq (.seq .leaf (.cond (.seq .leaf .leaf) .leaf)) (.seq .leaf (.seq .leaf (.seq .leaf .leaf))))))))))))
def g66 (f : Nat) (y0 y1 : Int) (y2 : ByteArray) (y3 y4 : Bool) (y5 : List PV) (y6 : Int) (y7 : List PV) (y8 y9 : Bool) (y10 y11 : List PV) (e_At : Int) (y12 y13 : Bool) (e_Op y14 y15 : List PV) (k : Res -> Option Res) : Option Res := bif byB y10 && y10.length.ble 1000000000 then bif dE y10 != 0 then k (Res.mk (.tup [.st 41 [.st 34 [.sc (.int .i64 y0), .sc (.int .i64 y1)], .sc (.string y2), .ro 45 y3 y4 y5, .sc (.int .i64 y6), .ar 37 y7], .sc (.int .i64 (dE y10))]) [] []) else bif e_At != y6 then k (Res.mk (.tup [.st 41 [.st 34 [.sc (.int .i64 y0), .sc (.int .i64 y1)], .sc (.string y2), .ro 45 y3 y4 y5, .sc (.int .i64 y6), .ar 37 y7], .sc (.int .i64 15)]) [] []) else bif decide (dF 3 y10 > y6) then k (Res.mk (.tup [.st 41 [.st 34 [.sc (.int .i64 y0), .sc (.int .i64 y1)], .sc (.string y2), .ro 45 y3 y4 y5, .sc (.int .i64 y6), .ar 37 y7], .sc (.int .i64 15)]) [] []) else bif pOk y5 then bif !hasP (PH.mk y5 (AV.mk (dF 0 y10) (dF 1 y10))) then k (Res.mk (.tup [.st 41 [.st 34 [.sc (.int .i64 y0), .sc (.int .i64 y1)], .sc (.string y2), .ro 45 y3 y4 y5, .sc (.int .i64 y6), .ar 37 y7], .sc (.int .i64 13)]) [] []) else bif dF 4 y10 == 1 then bif cOk e_Op then bif ckO e_Op == 0 then bif aOk e_Op then bif apE (AP.mk y2 e_Op) != 0 then k (Res.mk (.tup [.st 41 [.st 34 [.sc (.int .i64 y0), .sc (.int .i64 y1)], .sc (.string y2), .ro 45 y3 y4 y5, .sc (.int .i64 y6), .ar 37 y7], .sc (.int .i64 (apE (AP.mk y2 e_Op)))]) [] []) else bif h32 y7 && eOk (EV.mk y10 y11 e_At e_Op) then bif decide (y14.length = 32) && decide ((pu IntKind.u8 (nxP (NX.mk y7 (EV.mk y10 y11 e_At e_Op)))).length = 32) && Jj IntKind.u8 y14 && Jj IntKind.u8 (pu IntKind.u8 (nxP (NX.mk y7 (EV.mk y10 y11 e_At e_Op)))) && true then bif !Qa y14 (pu IntKind.u8 (nxP (NX.mk y7 (EV.mk y10 y11 e_At e_Op)))) then k (Res.mk (.tup [.st 41 [.st 34 [.sc (.int .i64 y0), .sc (.int .i64 y1)], .sc (.string y2), .ro 45 y3 y4 y5, .sc (.int .i64 y6), .ar 37 y7], .sc (.int .i64 16)]) [] []) else k (Res.mk (.tup [.st 41 [.st 34 [.sc (.int .i64 y0), .sc (.int .i64 y1)], .sc (.string (apD (AP.mk y2 e_Op))), .ro 45 y3 y4 y5, .sc (.int .i64 (IntKind.i64.wrap (y6 + 1))), .ar 37 y14], .sc (.int .i64 0)]) [] []) else none else none else none else bif ckO e_Op != 0 then k (Res.mk (.tup [.st 41 [.st 34 [.sc (.int .i64 y0), .sc (.int .i64 y1)], .sc (.string y2), .ro 45 y3 y4 y5, .sc (.int .i64 y6), .ar 37 y7], .sc (.int .i64 (ckO e_Op))]) [] []) else bif h32 y7 && eOk (EV.mk y10 y11 e_At e_Op) then bif decide (y14.length = 32) && decide ((pu IntKind.u8 (nxP (NX.mk y7 (EV.mk y10 y11 e_At e_Op)))).length = 32) && Jj IntKind.u8 y14 && Jj IntKind.u8 (pu IntKind.u8 (nxP (NX.mk y7 (EV.mk y10 y11 e_At e_Op)))) && true then bif !Qa y14 (pu IntKind.u8 (nxP (NX.mk y7 (EV.mk y10 y11 e_At e_Op)))) then k (Res.mk (.tup [.st 41 [.st 34 [.sc (.int .i64 y0), .sc (.int .i64 y1)], .sc (.string y2), .ro 45 y3 y4 y5, .sc (.int .i64 y6), .ar 37 y7], .sc (.int .i64 16)]) [] []) else k (Res.mk (.tup [.st 41 [.st 34 [.sc (.int .i64 y0), .sc (.int .i64 y1)], .sc (.string y2), .ro 45 y3 y4 y5, .sc (.int .i64 (IntKind.i64.wrap (y6 + 1))), .ar 37 y14], .sc (.int .i64 0)]) [] []) else none else none else none else bif decide (zi e_Op.length > 0) then k (Res.mk (.tup [.st 41 [.st 34 [.sc (.int .i64 y0), .sc (.int .i64 y1)], .sc (.string y2), .ro 45 y3 y4 y5, .sc (.int .i64 y6), .ar 37 y7], .sc (.int .i64 1)]) [] []) else bif dF 4 y10 == 2 then bif pOk y5 then bif adE (PH.mk y5 (AV.mk (dF 5 y10) (dF 6 y10))) != 0 then k (Res.mk (.tup [.st 41 [.st 34 [.sc (.int .i64 y0), .sc (.int .i64 y1)], .sc (.string y2), .ro 45 y3 y4 y5, .sc (.int .i64 y6), .ar 37 y7], .sc (.int .i64 (adE (PH.mk y5 (AV.mk (dF 5 y10) (dF 6 y10)))))]) [] []) else bif h32 y7 && eOk (EV.mk y10 y11 e_At e_Op) then bif decide (y14.length = 32) && decide ((pu IntKind.u8 (nxP (NX.mk y7 (EV.mk y10 y11 e_At e_Op)))).length = 32) && Jj IntKind.u8 y14 && Jj IntKind.u8 (pu IntKind.u8 (nxP (NX.mk y7 (EV.mk y10 y11 e_At e_Op)))) && true then bif !Qa y14 (pu IntKind.u8 (nxP (NX.mk y7 (EV.mk y10 y11 e_At e_Op)))) then k (Res.mk (.tup [.st 41 [.st 34 [.sc (.int .i64 y0), .sc (.int .i64 y1)], .sc (.string y2), .ro 45 y3 y4 y5, .sc (.int .i64 y6), .ar 37 y7], .sc (.int .i64 16)]) [] []) else k (Res.mk (.tup [.st 41 [.st 34 [.sc (.int .i64 y0), .sc (.int .i64 y1)], .sc (.string y2), .ro 45 (adF (PH.mk y5 (AV.mk (dF 5 y10) (dF 6 y10))) && y3) (adF (PH.mk y5 (AV.mk (dF 5 y10) (dF 6 y10))) && y4) (adL (PH.mk y5 (AV.mk (dF 5 y10) (dF 6 y10)))), .sc (.int .i64 (IntKind.i64.wrap (y6 + 1))), .ar 37 y14], .sc (.int .i64 0)]) [] []) else none else none else none else bif pOk y5 then bif rmE (PH.mk y5 (AV.mk (dF 5 y10) (dF 6 y10))) != 0 then k (Res.mk (.tup [.st 41 [.st 34 [.sc (.int .i64 y0), .sc (.int .i64 y1)], .sc (.string y2), .ro 45 y3 y4 y5, .sc (.int .i64 y6), .ar 37 y7], .sc (.int .i64 (rmE (PH.mk y5 (AV.mk (dF 5 y10) (dF 6 y10)))))]) [] []) else bif h32 y7 && eOk (EV.mk y10 y11 e_At e_Op) then bif decide (y14.length = 32) && decide ((pu IntKind.u8 (nxP (NX.mk y7 (EV.mk y10 y11 e_At e_Op)))).length = 32) && Jj IntKind.u8 y14 && Jj IntKind.u8 (pu IntKind.u8 (nxP (NX.mk y7 (EV.mk y10 y11 e_At e_Op)))) && true then bif !Qa y14 (pu IntKind.u8 (nxP (NX.mk y7 (EV.mk y10 y11 e_At e_Op)))) then k (Res.mk (.tup [.st 41 [.st 34 [.sc (.int .i64 y0), .sc (.int .i64 y1)], .sc (.string y2), .ro 45 y3 y4 y5, .sc (.int .i64 y6), .ar 37 y7], .sc (.int .i64 16)]) [] []) else k (Res.mk (.tup [.st 41 [.st 34 [.sc (.int .i64 y0), .sc (.int .i64 y1)], .sc (.string y2), .ro 45 (rmZ (PH.mk y5 (AV.mk (dF 5 y10) (dF 6 y10))) y3) (rmF (PH.mk y5 (AV.mk (dF 5 y10) (dF 6 y10))) y4) (rmL (PH.mk y5 (AV.mk (dF 5 y10) (dF 6 y10)))), .sc (.int .i64 (IntKind.i64.wrap (y6 + 1))), .ar 37 y14], .sc (.int .i64 0)]) [] []) else none else none else none else none else none
theorem e66 (f : Nat) (y0 y1 : Int) (y2 : ByteArray) (y3 y4 : Bool) (y5 : List PV) (y6 : Int) (y7 : List PV) (y8 y9 : Bool) (y10 y11 : List PV) (e_At : Int) (y12 y13 : Bool) (e_Op y14 y15 : List PV) (k : Res -> Option Res) : JQ tau F66 Try.f66 (Try.f66.body.get!) Jpg [.ro, .ro] 0 [.st 41 [.st 34 [.sc (.int .i64 y0), .sc (.int .i64 y1)], .sc (.string y2), .ro 45 y3 y4 y5, .sc (.int .i64 y6), .ar 37 y7], .st 93 [.st 77 [.ro 5 y8 y9 y10, .ar 37 y11], .sc (.int .i64 e_At), .ro 99 y12 y13 e_Op, .ar 37 y14, .ar 37 y15]] [] k = g66 f y0 y1 y2 y3 y4 y5 y6 y7 y8 y9 y10 y11 e_At y12 y13 e_Op y14 y15 k := by kernel_rfl
theorem JAv (f : Nat) : Jf (Try.f66.body.get!) Jpg = [] := by kernel_rfl
theorem JAw (f : Nat) : ∀ q ∈ Jf (Try.f66.body.get!) Jpg, q.Ok tau Try.prog 0 := by
 rw [JAv f]; intro q hq; cases hq
theorem JxK : Try.prog.funcs[66]? = some Try.f66 := by kernel_rfl
theorem JxL : Try.f66.body = some (Try.f66.body.get!) := by kernel_rfl
theorem JAx : Enters Try.prog 66 := enters_of JxK (by kernel_rfl) JxL
def JmP : List PV -> List Ent -> (Res -> Option Res) -> Option Res
 | [.st 41 [.st 34 [.sc (.int .i64 y0), .sc (.int .i64 y1)], .sc (.string y2), .ro 45 y3 y4 y5, .sc (.int .i64 y6), .ar 37 y7], .st 93 [.st 77 [.ro 5 y8 y9 y10, .ar 37 y11], .sc (.int .i64 e_At), .ro 99 y12 y13 e_Op, .ar 37 y14, .ar 37 y15]], [], k => g66 0 y0 y1 y2 y3 y4 y5 y6 y7 y8 y9 y10 y11 e_At y12 y13 e_Op y14 y15 k
 | _, _, _ => none
def s66 : Sig := { own := [], run := JmP }
theorem JAy : Jg tau Try.prog 66 s66 := J0 Jp JtC Jq JxK JxL Jpg [.ro, .ro] 0 [] JmP (JAw 0) fun xs es k res hr => by
 unfold JmP at hr
 split at hr
 · exact ⟨rfl, 0, (e66 0 _ _ _ _ _ _ _ _ _ _ _ _ _ _ _ _ _ _  _).trans hr⟩
 · cases hr
theorem JxM {τ : Tab} {m : Nat} {a b c : TypeId} {pvs : List PV} (h : TyL τ m [a, b, c] pvs) : ∃ p q r, pvs = [p, q, r] /\ Ty τ m a p /\ Ty τ m b q /\ Ty τ m c r := by
 match pvs, h with
 | [p, q, r], h => exact ⟨p, q, r, rfl, h.1, h.2.1, h.2.2.1⟩



def F21 : Fns := F0
theorem JtD : Jy tau Try.prog F21 := JD
def Jph : An := (.seq .leaf (.seq .leaf (.seq .leaf .leaf)))
def g21 (f : Nat) (b_z b_f : Bool) (b : List PV) (k : Res -> Option Res) : Option Res := bif decide (0 <= Qv (zi b.length) 60) && true && decide ((Qv (zi b.length) 60).toNat <= b.length) && true then bif Jk (2 + (List.take (Qv (zi b.length) 60).toNat b).length) 1 && true then bif Jk (2 + (List.take (Qv (zi b.length) 60).toNat b).length) 1 && true then bif Jk (2 + (List.take (Qv (zi b.length) 60).toNat b).length) 1 && true then k (Res.mk (.st 31 [.ro 5 false false (List.take (2 + (List.take (Qv (zi b.length) 60).toNat b).length) (.sc (.int .u8 107) :: .sc (.int .u8 48) :: id (List.take (Qv (zi b.length) 60).toNat b))), .ro 5 false false (List.take (2 + (List.take (Qv (zi b.length) 60).toNat b).length) (.sc (.int .u8 107) :: .sc (.int .u8 49) :: id (List.take (Qv (zi b.length) 60).toNat b))), .ro 5 false false (List.take (2 + (List.take (Qv (zi b.length) 60).toNat b).length) (.sc (.int .u8 107) :: .sc (.int .u8 50) :: id (List.take (Qv (zi b.length) 60).toNat b)))]) [] []) else none else none else none else none
theorem e21 (f : Nat) (b_z b_f : Bool) (b : List PV) (k : Res -> Option Res) : JQ tau F21 Try.f21 (Try.f21.body.get!) Jph [.ro] 0 [.ro 5 b_z b_f b] [] k = g21 f b_z b_f b k := by kernel_rfl
theorem JAz (f : Nat) : Jf (Try.f21.body.get!) Jph = [] := by kernel_rfl
theorem JAA (f : Nat) : ∀ q ∈ Jf (Try.f21.body.get!) Jph, q.Ok tau Try.prog 0 := by
 rw [JAz f]; intro q hq; cases hq
theorem JxN : Try.prog.funcs[21]? = some Try.f21 := by kernel_rfl
theorem JxO : Try.f21.body = some (Try.f21.body.get!) := by kernel_rfl
theorem JAB : Enters Try.prog 21 := enters_of JxN (by kernel_rfl) JxO
def JmQ : List PV -> List Ent -> (Res -> Option Res) -> Option Res
 | [.ro 5 b_z b_f b], [], k => g21 0 b_z b_f b k
 | _, _, _ => none
def s21 : Sig := { own := [], run := JmQ }
theorem JAC : Jg tau Try.prog 21 s21 := J0 Jp JtD Jq JxN JxO Jph [.ro] 0 [] JmQ (JAA 0) fun xs es k res hr => by
 unfold JmQ at hr
 split at hr
 · exact ⟨rfl, 0, (e21 0 _ _ _  _).trans hr⟩
 · cases hr


def i64B (n : Int) : Bool := decide (-9223372036854775808 <= n) && decide (n < 9223372036854775808)
structure MsgOk (ns : List Int) (ts : List ByteArray) (h : List Int) : Prop where
 len : ns.length = 12
 num : ∀ n, n < 12 -> i64B (ns.getD n 0) = true
 cnt : ts.length <= 4
 txt : ∀ t ∈ ts, t.size <= 65535
 sum : h.length = 32
 sumB : ∀ x ∈ h, 0 <= x /\ x < 256
-- FN law9.Keys | law16.Good | law16.Few
def kb : Nat -> List PV -> List PV := hid fun i b => pu .u8 [107, 48 + i] ++ b.take 60
theorem Jri (i : Nat) (b : List PV) : kb i b = pu .u8 [107, 48 + i] ++ b.take 60 := by rw [kb, hid_eq]
theorem JxP (i : Nat) {b : List PV} (h : Jj .u8 b = true) : kOk (kb i b) = true := by
 rw [Jri]; unfold kOk
 have h2 : Jj .u8 (b.take 60) = true := by
  rw [Qp h, W0]; simp
 rw [Q8, h2, JR]
 simp; omega
def JhX : List PV -> List Ent -> (Res -> Option Res) -> Option Res
 | [.ro 5 z f b], [], k => k ⟨.st 31 [.ro 5 false false (kb 0 b), .ro 5 false false (kb 1 b), .ro 5 false false (kb 2 b)], [], []⟩
 | _, _, _ => none
def JxQ : Sig := { own := [], run := JhX }
theorem JxR (n m : Nat) : (Qv (zi n) m).toNat = min n m := by unfold Qv; simp only [zi]; split <;> omega
theorem JxS : Jg tau Try.prog 21 JxQ := JAC.of fun xs es k res hr => by
 change JhX xs es k = some res at hr
 unfold JhX at hr
 split at hr
 · rename_i z f b
   show g21 0 z f b k = some res
   have hm : (Qv (zi b.length) 60).toNat = min b.length 60 := JxR b.length 60
   have ht : List.take (min b.length 60) b = b.take 60 := by rw [Nat.min_comm, List.take_eq_take_iff]; omega
   have hl : (b.take 60).length <= 60 := by simp; omega
   have e : ∀ x y : Int, List.take (2 + (b.take 60).length) (.sc (.int .u8 x) :: .sc (.int .u8 y) :: id (b.take 60)) = .sc (.int .u8 x) :: .sc (.int .u8 y) :: b.take 60 := fun x y => List.take_of_length_le (by simp; omega)
   have hk : ∀ i, kb i b = .sc (.int .u8 107) :: .sc (.int .u8 (48 + i)) :: b.take 60 := fun i => by rw [Jri]; simp
   unfold g21
   simp only [hm, ht, e]
   have hr4 : Jk (2 + (b.take 60).length) 1 = true := by simp only [Jk, Nat.mul_one, decide_eq_true_eq]; omega
   rw [Jc (by simp; unfold Qv; simp only [zi]; split <;> omega), hr4]
   simp only [hk] at hr
   exact hr
 · cases hr
def JtE : Nat -> C13 -> Int
 | 0, c => 1 + c.kd % 5
 | 1, c => c.fr % 3
 | 2, c => (c.fr % 3 + 1 + c.to % 2) % 3
 | 3, c => c.wh % 3
 | 4, c => c.wn % 100
 | 5, c => c.cd % 3
 | 6, c => c.cu % 8
 | 7, c => c.ve % 1073741824
 | 8, c => c.co % 1073741824
 | 9, c => c.ad % 3
 | 10, c => c.au % 8
 | 11, c => c.su % 1073741824
 | _, c => c.er % 256
def Xy : Nat -> C13 -> Int := hid JtE
noncomputable abbrev JA7 (c : C13) : C13 := ⟨Xy 0 c, Xy 1 c, Xy 2 c, Xy 3 c, Xy 4 c, Xy 5 c, Xy 6 c, Xy 7 c, Xy 8 c, Xy 9 c, Xy 10 c, Xy 11 c, Xy 12 c⟩
-- FN slices.EqualFunc[[][]byte,[][]byte,[]byte,[]byte] | ref16.Same
structure MS where
 (c : C13) (b : List PV)
def JmR (T : TypeId) : List TypeId := match tau.und T with | some (.struct fds) => fds.toList.map (·.type) | _ => []
theorem JmS {τ : Tab} {n : Nat} : ∀ (ts : List TypeId) (ps : List PV), ts.length = ps.length -> (∀ (i : Nat) (t : TypeId) (q : PV), ts[i]? = some t -> ps[i]? = some q -> Ty τ n t q) -> TyL τ n ts ps
 | [], [], _, _ => trivial
 | t :: ts, p :: ps, hl, h => ⟨h 0 t p rfl rfl, JmS ts ps (by simpa using hl) fun i t q h1 h2 => h (i + 1) t q (by simpa using h1) (by simpa using h2)⟩
 | [], _ :: _, hl, _ => by simp at hl
 | _ :: _, [], hl, _ => by simp at hl
theorem JmT {τ : Tab} {n : Nat} {t : TypeId} {ts : List TypeId} {ps : List PV} (h : TyL τ n (t :: ts) ps) : ∃ p r, ps = p :: r /\ Ty τ n t p /\ TyL τ n ts r := by
 cases ps with
 | nil => exact h.elim
 | cons p r => exact ⟨p, r, rfl, h.1, h.2⟩
theorem Jkg {n : Nat} {T : TypeId} {tys : List TypeId} {p : PV} (hc : JmR T = tys) (hne : tys ≠ []) (h : Ty tau (n + 1) T p) : ∃ fs, p = .st T fs /\ TyL tau n tys fs := by
 unfold JmR at hc
 split at hc
 · rename_i fds hu
   obtain ⟨fs, rfl, hl, hf⟩ := Jj5 hu h
   refine ⟨fs, rfl, JmS tys fs (by rw [← hc]; simpa using hl.symm) fun i t q h1 h2 => ?_⟩
   rw [← hc, List.getElem?_map] at h1
   rw [Array.getElem?_toList] at h1
   cases hfi : fds[i]? with
   | none => rw [hfi] at h1; cases h1
   | some f =>
    rw [hfi] at h1
    obtain rfl := Option.some.inj h1
    exact hf i f q hfi h2
 · exact absurd hc.symm hne
theorem Jcc {n : Nat} {p : PV} (h : Ty tau (n + 1) 3 p) : ∃ x, p = .sc (.int .i64 x) /\ i64B x = true := by
 have u : tau.und 3 = some (.int .i64) := by kernel_rfl
 obtain ⟨x, rfl, hx⟩ := JkS u h
 refine ⟨x, rfl, ?_⟩
 have e1 : IntKind.i64.min = -9223372036854775808 := rfl
 have e2 : IntKind.i64.max = 9223372036854775807 := rfl
 simp only [Lit.wf, e1, e2, Bool.and_eq_true, decide_eq_true_eq] at hx
 simp only [i64B, Bool.and_eq_true, decide_eq_true_eq]
 omega
theorem Jpi {n : Nat} {p : PV} (h : Ty tau (n + 2) 55 p) : ∃ z l, p = .ro 3 z false l /\ (z = true -> l = []) /\ l.length <= maxLen /\ Jj .i64 l = true := by
 have u : tau.und 55 = some (.slice 3) := by kernel_rfl
 have u2 : tau.und 3 = some (.int .i64) := by kernel_rfl
 obtain ⟨z, b, rfl, h1, h2, h3⟩ := Jfl u h
 exact ⟨z, b, rfl, h1, h2, Jir u2 b h3⟩

-- FN law9.within
-- FN
theorem JjD {n : Int} (h : 0 < n) (h2 : n < 1000000000000) : okW n = true := by rw [Vv, Bool.and_eq_true, decide_eq_true_eq, decide_eq_true_eq]; exact ⟨h, h2⟩
theorem Jkh (s : ByteArray) : Yw s s = true := by rw [JaS]; exact decide_eq_true rfl
theorem Jgc {l : List PV} (h : Jj .u8 l = true) : Qa l l = true := by
 rw [Qp h, GL]; exact beq_self_eq_true _

-- FN ref4.Same
structure O2 where
 (a b : List PV)


-- FN ref8.Same | ref9.Same
structure DD where
 (a b : DV)
structure EW where
 (b m : List PV) (at1 : Int) (o h mc : List PV)
structure EE where
 (a b : EW)
-- FN ref13.Do
structure SV where
 (ih iN : Int) (doc : ByteArray) (l : List PV) (ver : Int) (hash : List PV)
structure DX where
 (s : SV) (e : EW)
def Gw (e : EW) : EV := ⟨e.b, e.m, e.at1, e.o⟩
def auA (b : List PV) : AV := ⟨dF 0 b, dF 1 b⟩
def whA (b : List PV) : AV := ⟨dF 5 b, dF 6 b⟩
def chE (x : DX) : Int := bif dF 4 x.e.b == 1 then (bif ckO x.e.o == 0 then apE ⟨x.s.doc, x.e.o⟩ else ckO x.e.o) else bif decide (zi x.e.o.length > 0) then 1 else bif dF 4 x.e.b == 2 then adE ⟨x.s.l, whA x.e.b⟩ else rmE ⟨x.s.l, whA x.e.b⟩
def chD (x : DX) : ByteArray := bif dF 4 x.e.b == 1 then apD ⟨x.s.doc, x.e.o⟩ else x.s.doc
def chL (x : DX) : List PV := bif dF 4 x.e.b == 1 then x.s.l else bif dF 4 x.e.b == 2 then adL ⟨x.s.l, whA x.e.b⟩ else rmL ⟨x.s.l, whA x.e.b⟩
def chZ (x : DX) (z : Bool) : Bool := bif dF 4 x.e.b == 1 then z else bif dF 4 x.e.b == 2 then (adF ⟨x.s.l, whA x.e.b⟩ && z) else rmZ ⟨x.s.l, whA x.e.b⟩ z
def chF (x : DX) (f : Bool) : Bool := bif dF 4 x.e.b == 1 then f else bif dF 4 x.e.b == 2 then (adF ⟨x.s.l, whA x.e.b⟩ && f) else rmF ⟨x.s.l, whA x.e.b⟩ f
def QX (x : DX) : Int := bif dE x.e.b != 0 then dE x.e.b else bif x.e.at1 != x.s.ver then 15 else bif decide (dF 3 x.e.b > x.s.ver) then 15 else bif !hasP ⟨x.s.l, auA x.e.b⟩ then 13 else bif chE x != 0 then chE x else bif !Qa x.e.h (pu .u8 (nxP ⟨x.s.hash, Gw x.e⟩)) then 16 else 0
def dsE : DX -> Int := hid QX
def dsD : DX -> ByteArray := hid fun x => bif QX x == 0 then chD x else x.s.doc
def dsL : DX -> List PV := hid fun x => bif QX x == 0 then chL x else x.s.l
def dsZ : DX -> Bool -> Bool := hid fun x z => bif QX x == 0 then chZ x z else z
def dsF : DX -> Bool -> Bool := hid fun x z => bif QX x == 0 then chF x z else z
def dsV : DX -> Int := hid fun x => bif QX x == 0 then x.s.ver + 1 else x.s.ver
def dsH : DX -> List PV := hid fun x => bif QX x == 0 then x.e.h else x.s.hash
theorem JhY (x : DX) : dsE x = QX x := by rw [dsE, hid_eq]
theorem JhZ (x : DX) : dsD x = bif QX x == 0 then chD x else x.s.doc := by rw [dsD, hid_eq]
theorem Jh0 (x : DX) : dsL x = bif QX x == 0 then chL x else x.s.l := by rw [dsL, hid_eq]
theorem JmU (x : DX) (z : Bool) : dsZ x z = bif QX x == 0 then chZ x z else z := by rw [dsZ, hid_eq]
theorem JmV (x : DX) (z : Bool) : dsF x z = bif QX x == 0 then chF x z else z := by rw [dsF, hid_eq]
theorem JeI (x : DX) : dsV x = bif QX x == 0 then x.s.ver + 1 else x.s.ver := by rw [dsV, hid_eq]
theorem JeJ (x : DX) : dsH x = bif QX x == 0 then x.e.h else x.s.hash := by rw [dsH, hid_eq]
def uOk (l : List PV) : Bool := l.all fun p => inA [(av p).d, 2, (av p).u, 7]
def sOk : SV -> Bool := hid fun s => pOk s.l && (h32 s.hash && (decide (0 <= s.ver) && (decide (s.ver <= 1000000) && (decide (s.doc.size <= 120) && uOk s.l))))
theorem Yk {s : SV} : sOk s = true ↔ pOk s.l = true /\ h32 s.hash = true /\ 0 <= s.ver /\ s.ver <= 1000000 /\ s.doc.size <= 120 /\ uOk s.l = true := by
 rw [sOk, hid_eq]; simp only [Bool.and_eq_true, decide_eq_true_eq]
def eD : EW -> Bool := hid fun e => byB e.b && (eOk (Gw e) && (cOk e.o && h32 e.h))
theorem Jh1 {e : EW} : eD e = true ↔ byB e.b = true /\ eOk (Gw e) = true /\ cOk e.o = true /\ h32 e.h = true := by
 rw [eD, hid_eq]; simp only [Bool.and_eq_true]
def stP (s : SV) (z f : Bool) : PV := .st 41 [.st 34 [.sc (.int .i64 s.ih), .sc (.int .i64 s.iN)], .sc (.string s.doc), .ro 45 z f s.l, .sc (.int .i64 s.ver), .ar 37 s.hash]
def dsS (x : DX) : SV := ⟨x.s.ih, x.s.iN, dsD x, dsL x, dsV x, dsH x⟩
def dsP (x : DX) (z f : Bool) : PV := .tup [stP (dsS x) (dsZ x z) (dsF x f), .sc (.int .i64 (dsE x))]
theorem JjE {x : DX} (h0 : (QX x == 0) = false) : dsS x = x.s := by
 unfold dsS; rw [JhZ, Jh0, JeI, JeJ, h0]; rfl
theorem ZQ {x : DX} {e : Int} (h : QX x = e) (h0 : (e == 0) = false) (z f : Bool) : dsP x z f = .tup [stP x.s z f, .sc (.int .i64 e)] := by
 have h1 : (QX x == 0) = false := by rw [h]; exact h0
 unfold dsP; rw [JjE h1, JmU, JmV, JhY, h, h0]; rfl
theorem JtF {x : DX} (h : QX x = 0) (z f : Bool) : dsP x z f = .tup [stP ⟨x.s.ih, x.s.iN, chD x, chL x, x.s.ver + 1, x.e.h⟩ (chZ x z) (chF x f), .sc (.int .i64 0)] := by
 unfold dsP dsS; rw [JhZ, Jh0, JeI, JeJ, JmU, JmV, JhY, h]; rfl
def Jh2 : List PV -> List Ent -> (Res -> Option Res) -> Option Res
 | [.st 41 [.st 34 [.sc (.int .i64 ih), .sc (.int .i64 iN)], .sc (.string doc), .ro 45 z f l, .sc (.int .i64 ver), .ar 37 hash], .st 93 [.st 77 [.ro 5 bz bf b, .ar 37 m], .sc (.int .i64 at1), .ro 99 oz of o, .ar 37 h, .ar 37 mc]], [], k =>
  bif sOk ⟨ih, iN, doc, l, ver, hash⟩ && eD ⟨b, m, at1, o, h, mc⟩ then k ⟨.tup [.st 41 [.st 34 [.sc (.int .i64 ih), .sc (.int .i64 iN)], .sc (.string (dsD ⟨⟨ih, iN, doc, l, ver, hash⟩, ⟨b, m, at1, o, h, mc⟩⟩)), .ro 45 (dsZ ⟨⟨ih, iN, doc, l, ver, hash⟩, ⟨b, m, at1, o, h, mc⟩⟩ z) (dsF ⟨⟨ih, iN, doc, l, ver, hash⟩, ⟨b, m, at1, o, h, mc⟩⟩ f) (dsL ⟨⟨ih, iN, doc, l, ver, hash⟩, ⟨b, m, at1, o, h, mc⟩⟩), .sc (.int .i64 (dsV ⟨⟨ih, iN, doc, l, ver, hash⟩, ⟨b, m, at1, o, h, mc⟩⟩)), .ar 37 (dsH ⟨⟨ih, iN, doc, l, ver, hash⟩, ⟨b, m, at1, o, h, mc⟩⟩)], .sc (.int .i64 (dsE ⟨⟨ih, iN, doc, l, ver, hash⟩, ⟨b, m, at1, o, h, mc⟩⟩))], [], []⟩ else none
 | _, _, _ => none
def JxT : Sig := { own := [], run := Jh2 }
theorem JtG (x : DX) (z f bz bf oz of : Bool) (hs : sOk x.s = true) (he : eD x.e = true) (k : Res -> Option Res) :
  g66 0 x.s.ih x.s.iN x.s.doc z f x.s.l x.s.ver x.s.hash bz bf x.e.b x.e.m x.e.at1 oz of x.e.o x.e.h x.e.mc k = k ⟨dsP x z f, [], []⟩ := by
 obtain ⟨s1, s2, s3, s4, s5, s6⟩ := Yk.1 hs
 obtain ⟨e1, e2, e3, e4⟩ := Jh1.1 he
 have hbl : Nat.ble x.e.b.length 1000000000 = true := by have := (XW.1 e2).2.1; rw [Nat.ble_eq]; show x.e.b.length <= _; have : x.e.b.length <= 65535 := this; omega
 have hev : EV.mk x.e.b x.e.m x.e.at1 x.e.o = Gw x.e := rfl
 have hau : AV.mk (dF 0 x.e.b) (dF 1 x.e.b) = auA x.e.b := rfl
 have hwh : AV.mk (dF 5 x.e.b) (dF 6 x.e.b) = whA x.e.b := rfl
 have w1 : IntKind.i64.wrap (x.s.ver + 1) = x.s.ver + 1 := wrap_i64 (by omega) (by omega)
 unfold g66
 simp only [hev, hau, hwh, w1]
 have hnl : (pu .u8 (nxP ⟨x.s.hash, Gw x.e⟩)).length = 32 := by rw [JG]; exact Vs _
 have HP : ∀ (A B : Option Res), (bif h32 x.s.hash && eOk (Gw x.e) then bif decide (x.e.h.length = 32) && decide ((pu .u8 (nxP ⟨x.s.hash, Gw x.e⟩)).length = 32) && Jj .u8 x.e.h && Jj .u8 (pu .u8 (nxP ⟨x.s.hash, Gw x.e⟩)) && true then bif !Qa x.e.h (pu .u8 (nxP ⟨x.s.hash, Gw x.e⟩)) then A else B else none else none) = bif !Qa x.e.h (pu .u8 (nxP ⟨x.s.hash, Gw x.e⟩)) then A else B := fun A B =>
  (Jc (by rw [s2, e2]; rfl)).trans (Jc (by rw [(h32_iff.1 e4).1, (h32_iff.1 e4).2, hnl, JR]; rfl))
 refine (Jc (by rw [e1, hbl]; rfl)).trans ?_
 cases h1 : (dE x.e.b != 0) with
 | true => exact (Jc rfl).trans (by rw [ZQ (e := dE x.e.b) (Jc h1) (by simpa [bne] using h1)]; rfl)
 | false =>
 refine (Ji rfl).trans ?_
 cases h2 : (x.e.at1 != x.s.ver) with
 | true => exact (Jc rfl).trans (by rw [ZQ (e := 15) ((Ji h1).trans (Jc h2)) rfl]; rfl)
 | false =>
 refine (Ji rfl).trans ?_
 cases h3 : decide (dF 3 x.e.b > x.s.ver) with
 | true => exact (Jc rfl).trans (by rw [ZQ (e := 15) ((Ji h1).trans ((Ji h2).trans (Jc h3))) rfl]; rfl)
 | false =>
 refine (Ji rfl).trans ((Jc s1).trans ?_)
 cases h4 : (!hasP ⟨x.s.l, auA x.e.b⟩) with
 | true => exact (Jc rfl).trans (by rw [ZQ (e := 13) ((Ji h1).trans ((Ji h2).trans ((Ji h3).trans (Jc h4)))) rfl]; rfl)
 | false =>
 refine (Ji rfl).trans ?_
 have pre : ∀ {r : Int}, (bif chE x != 0 then chE x else bif !Qa x.e.h (pu .u8 (nxP ⟨x.s.hash, Gw x.e⟩)) then 16 else 0) = r -> QX x = r := fun h => (Ji h1).trans ((Ji h2).trans ((Ji h3).trans ((Ji h4).trans h)))
 have bad : ∀ {r : Int}, chE x = r -> (r != 0) = true -> dsP x z f = .tup [stP x.s z f, .sc (.int .i64 r)] := fun {r} h h0 => ZQ (pre ((Jc (by rw [h]; exact h0)).trans h)) (by simpa [bne] using h0) z f
 have fin : chE x = 0 -> (bif !Qa x.e.h (pu .u8 (nxP ⟨x.s.hash, Gw x.e⟩)) then k ⟨.tup [stP x.s z f, .sc (.int .i64 16)], [], []⟩ else k ⟨.tup [stP ⟨x.s.ih, x.s.iN, chD x, chL x, x.s.ver + 1, x.e.h⟩ (chZ x z) (chF x f), .sc (.int .i64 0)], [], []⟩) = k ⟨dsP x z f, [], []⟩ := fun h => by
  cases h6 : (!Qa x.e.h (pu .u8 (nxP ⟨x.s.hash, Gw x.e⟩))) with
  | true => rw [ZQ (pre ((Ji (by rw [h]; rfl)).trans (Jc h6))) rfl]; rfl
  | false => rw [JtF (pre ((Ji (by rw [h]; rfl)).trans (Ji h6)))]; rfl
 cases h5 : (dF 4 x.e.b == 1) with
 | true =>
  refine (Jc rfl).trans ((Jc e3).trans ?_)
  cases hc : (ckO x.e.o == 0) with
  | false =>
   have hE : chE x = ckO x.e.o := (Jc h5).trans (Ji hc)
   have hn : (ckO x.e.o != 0) = true := by simpa [bne] using hc
   refine (Ji rfl).trans ((Jc hn).trans ?_)
   rw [bad hE hn]; rfl
  | true =>
   refine (Jc rfl).trans ((Jc (JmC e3 (by simpa using hc))).trans ?_)
   have hE : chE x = apE ⟨x.s.doc, x.e.o⟩ := (Jc h5).trans (Jc hc)
   cases ha : (apE ⟨x.s.doc, x.e.o⟩ != 0) with
   | true => refine (Jc rfl).trans ?_; rw [bad hE ha]; rfl
   | false =>
    have cd : chD x = apD ⟨x.s.doc, x.e.o⟩ := Jc h5
    have cl : chL x = x.s.l := Jc h5
    have cz : chZ x z = z := Jc h5
    have cf : chF x f = f := Jc h5
    refine (Ji rfl).trans ((HP _ _).trans (Eq.trans ?_ (fin (hE.trans (by simpa [bne] using ha)))))
    rw [cd, cl, cz, cf]; rfl
 | false =>
  refine (Ji rfl).trans ?_
  have cd : chD x = x.s.doc := Ji h5
  cases h6 : decide (zi x.e.o.length > 0) with
  | true =>
   have hE : chE x = 1 := (Ji h5).trans (Jc h6)
   refine (Jc rfl).trans ?_; rw [bad hE rfl]; rfl
  | false =>
   refine (Ji rfl).trans ?_
   cases h7 : (dF 4 x.e.b == 2) with
   | true =>
    have hE : chE x = adE ⟨x.s.l, whA x.e.b⟩ := (Ji h5).trans ((Ji h6).trans (Jc h7))
    refine (Jc rfl).trans ((Jc s1).trans ?_)
    cases ha : (adE ⟨x.s.l, whA x.e.b⟩ != 0) with
    | true => refine (Jc rfl).trans ?_; rw [bad hE ha]; rfl
    | false =>
     have cl : chL x = adL ⟨x.s.l, whA x.e.b⟩ := (Ji h5).trans (Jc h7)
     have cz : chZ x z = (adF ⟨x.s.l, whA x.e.b⟩ && z) := (Ji h5).trans (Jc h7)
     have cf : chF x f = (adF ⟨x.s.l, whA x.e.b⟩ && f) := (Ji h5).trans (Jc h7)
     refine (Ji rfl).trans ((HP _ _).trans (Eq.trans ?_ (fin (hE.trans (by simpa [bne] using ha)))))
     rw [cd, cl, cz, cf]; rfl
   | false =>
    have hE : chE x = rmE ⟨x.s.l, whA x.e.b⟩ := (Ji h5).trans ((Ji h6).trans (Ji h7))
    refine (Ji rfl).trans ((Jc s1).trans ?_)
    cases ha : (rmE ⟨x.s.l, whA x.e.b⟩ != 0) with
    | true => refine (Jc rfl).trans ?_; rw [bad hE ha]; rfl
    | false =>
     have cl : chL x = rmL ⟨x.s.l, whA x.e.b⟩ := (Ji h5).trans (Ji h7)
     have cz : chZ x z = rmZ ⟨x.s.l, whA x.e.b⟩ z := (Ji h5).trans (Ji h7)
     have cf : chF x f = rmF ⟨x.s.l, whA x.e.b⟩ f := (Ji h5).trans (Ji h7)
     refine (Ji rfl).trans ((HP _ _).trans (Eq.trans ?_ (fin (hE.trans (by simpa [bne] using ha)))))
     rw [cd, cl, cz, cf]; rfl
theorem JxU : Jg tau Try.prog 66 JxT := JAy.of fun xs es k res hr => by
 change Jh2 xs es k = some res at hr
 unfold Jh2 at hr
 split at hr
 · rename_i ih iN doc z f l ver hash bz bf b m at1 oz of o h mc
   obtain ⟨hc, hr⟩ := JE hr
   rw [Bool.and_eq_true] at hc
   exact (JtG ⟨⟨ih, iN, doc, l, ver, hash⟩, ⟨b, m, at1, o, h, mc⟩⟩ z f bz bf oz of hc.1 hc.2 k).trans hr
 · cases hr
theorem Jpj {x : PH} (h : uOk x.l = true) : uOk (adL x) = true := by
 rw [JhU]
 cases he : (Jcb x == 0) with
 | false => exact h
 | true =>
  rw [cond_true]
  refine List.all_eq_true.2 fun q hq => ?_
  rcases Gv hq with rfl | hq
  · unfold Jcb at he
    cases hu : inA [x.a.d, 2, x.a.u, 7] with
    | false => rw [hu] at he; exact absurd (show false = true from he) (by decide)
    | true => exact hu
  · exact List.all_eq_true.1 h q hq
theorem Jpk {x : PH} (h : uOk x.l = true) : uOk (rmL x) = true := by
 rw [JhV]
 cases hasL x.l x.a with
 | false => exact h
 | true => exact List.all_eq_true.2 fun q hq => List.all_eq_true.1 h q (List.mem_filter.1 hq).1
theorem Jpl {x : DX} (hs : sOk x.s = true) (he : eD x.e = true) (hv : x.s.ver < 1000000) : sOk (dsS x) = true := by
 cases h : (QX x == 0) with
 | false => rw [JjE h]; exact hs
 | true =>
  obtain ⟨s1, s2, s3, s4, s5, s6⟩ := Yk.1 hs
  obtain ⟨e1, e2, e3, e4⟩ := Jh1.1 he
  have hE : QX x = 0 := by simpa using h
  unfold dsS
  rw [JhZ, Jh0, JeI, JeJ, h]
  refine Yk.2 ⟨?_, e4, by show 0 <= x.s.ver + 1; omega, by show x.s.ver + 1 <= 1000000; omega, ?_, ?_⟩
  rotate_left 2
  · show uOk (chL x) = true
    unfold chL
    cases dF 4 x.e.b == 1 with
    | true => exact s6
    | false =>
     cases dF 4 x.e.b == 2 with
     | true => exact Jpj (x := ⟨x.s.l, whA x.e.b⟩) s6
     | false => exact Jpk (x := ⟨x.s.l, whA x.e.b⟩) s6
  · show pOk (chL x) = true
    unfold chL
    cases dF 4 x.e.b == 1 with
    | true => exact s1
    | false =>
     cases dF 4 x.e.b == 2 with
     | true => exact Jpe (x := ⟨x.s.l, whA x.e.b⟩) s1
     | false => exact Jpf (x := ⟨x.s.l, whA x.e.b⟩) s1
  · show (chD x).size <= 120
    unfold chD
    cases h5 : (dF 4 x.e.b == 1) with
    | false => exact s5
    | true =>
     show (apD ⟨x.s.doc, x.e.o⟩).size <= 120
     cases hc : (ckO x.e.o == 0) with
     | true => exact JmJ (x := ⟨x.s.doc, x.e.o⟩) (JmC e3 (by simpa using hc))
     | false =>
      have hn : ckO x.e.o ≠ 0 := by simpa using hc
      have hE2 : chE x = ckO x.e.o := (Jc h5).trans (Ji hc)
      exfalso
      unfold QX at hE
      rw [hE2] at hE
      cases h1 : (dE x.e.b != 0) with
      | true => rw [h1] at hE; rw [show dE x.e.b = 0 from hE] at h1; exact absurd h1 (by decide)
      | false =>
       rw [h1] at hE
       cases h2 : (x.e.at1 != x.s.ver) with
       | true => rw [h2] at hE; exact absurd (show (15 : Int) = 0 from hE) (by decide)
       | false =>
        rw [h2] at hE
        cases h3 : decide (dF 3 x.e.b > x.s.ver) with
        | true => rw [h3] at hE; exact absurd (show (15 : Int) = 0 from hE) (by decide)
        | false =>
         rw [h3] at hE
         cases h4 : (!hasP ⟨x.s.l, auA x.e.b⟩) with
         | true => rw [h4] at hE; exact absurd (show (13 : Int) = 0 from hE) (by decide)
         | false =>
          rw [h4] at hE
          have hE : (bif ckO x.e.o != 0 then ckO x.e.o else bif !Qa x.e.h (pu .u8 (nxP ⟨x.s.hash, Gw x.e⟩)) then 16 else 0) = 0 := hE
          rw [show (ckO x.e.o != 0) = true from by simpa [bne] using hn] at hE
          exact hn hE
-- FN wavelet.Same | law13.known
structure SW where
 (a b : SV)
def QC : SW -> Bool := hid fun x => (x.a.ih == x.b.ih && (x.a.iN == x.b.iN && true)) && (Yw x.a.doc x.b.doc && (JfL ⟨x.a.l, x.b.l⟩ && (x.a.ver == x.b.ver && Qa x.a.hash x.b.hash)))
theorem Qj (x : SW) : QC x = ((x.a.ih == x.b.ih && (x.a.iN == x.b.iN && true)) && (Yw x.a.doc x.b.doc && (JfL ⟨x.a.l, x.b.l⟩ && (x.a.ver == x.b.ver && Qa x.a.hash x.b.hash)))) := by rw [QC, hid_eq]
def wOk : SV -> Bool := hid fun s => JbP s.l && h32 s.hash
theorem WE {s : SV} : wOk s = true ↔ JbP s.l = true /\ h32 s.hash = true := by rw [wOk, hid_eq, Bool.and_eq_true]
def Jh3 : List PV -> List Ent -> (Res -> Option Res) -> Option Res
 | [.st 39 [.st 34 [.sc (.int .i64 ih), .sc (.int .i64 iN)], .sc (.string doc), .ro 45 z f l, .sc (.int .i64 ver), .ar 37 hash], .st 39 [.st 34 [.sc (.int .i64 ih2), .sc (.int .i64 iN2)], .sc (.string doc2), .ro 45 z2 f2 l2, .sc (.int .i64 ver2), .ar 37 hash2]], [], k =>
  bif wOk ⟨ih, iN, doc, l, ver, hash⟩ && wOk ⟨ih2, iN2, doc2, l2, ver2, hash2⟩ then k ⟨.sc (.bool (QC ⟨⟨ih, iN, doc, l, ver, hash⟩, ⟨ih2, iN2, doc2, l2, ver2, hash2⟩⟩)), [], []⟩ else none
 | _, _, _ => none
def JxV : Sig := { own := [], run := Jh3 }
theorem JxW : Jg tau Try.prog 23 JxV := Jzy.of fun xs es k res hr => by
 change Jh3 xs es k = some res at hr
 unfold Jh3 at hr
 split at hr
 · rename_i ih iN doc z f l ver hash ih2 iN2 doc2 z2 f2 l2 ver2 hash2
   obtain ⟨hc, hr⟩ := JE hr
   rw [Bool.and_eq_true, WE, WE, h32_iff, h32_iff] at hc
   obtain ⟨⟨a1, a2, a3⟩, b1, b2, b3⟩ := hc
   refine Eq.trans ?_ hr
   show g23 0 ih iN doc z f l ver hash ih2 iN2 doc2 z2 f2 l2 ver2 hash2 k = _
   rw [Qj]
   unfold g23
   simp only [a1, a2, a3, b1, b2, b3, decide_true, Bool.and_true, Bool.and_self, cond_true]
   cases (ih == ih2 && iN == iN2) <;> cases (Yw doc doc2) <;> cases (JfL ⟨l, l2⟩) <;> cases (ver == ver2) <;> rfl
 · cases hr
def Jh4 : List PV -> List Ent -> (Res -> Option Res) -> Option Res
 | [], [], k => k ⟨.sc (.bool true), [], []⟩
 | _, _, _ => none
def JxX : Sig := { own := [], run := Jh4 }
theorem JxY : Jg tau Try.prog 18 JxX := JzT.of fun xs es k res hr => by
 change Jh4 xs es k = some res at hr
 unfold Jh4 at hr
 split at hr
 · refine Eq.trans ?_ hr
   show g18 0 _ = _
   unfold g18
   exact Jc (by rw [JbU, hid_eq]; rfl)
 · cases hr
def F19 : Fns := F0
theorem JtH : Jy tau Try.prog F19 := JD
def Jpm : An := (.seq .leaf (.seq .leaf .leaf))
def g19 (f : Nat) (l_z l_f : Bool) (l : List PV) (k : Res -> Option Res) : Option Res := k (Res.mk (.sc (.bool (decide (zi l.length <= 25)))) [] [])
theorem e19 (f : Nat) (l_z l_f : Bool) (l : List PV) (k : Res -> Option Res) : JQ tau F19 Try.f19 (Try.f19.body.get!) Jpm [.ro] 0 [.ro 106 l_z l_f l] [] k = g19 f l_z l_f l k := by kernel_rfl
theorem JAD (f : Nat) : Jf (Try.f19.body.get!) Jpm = [] := by kernel_rfl
theorem JAE (f : Nat) : ∀ q ∈ Jf (Try.f19.body.get!) Jpm, q.Ok tau Try.prog 0 := by
 rw [JAD f]; intro q hq; cases hq
theorem JxZ : Try.prog.funcs[19]? = some Try.f19 := by kernel_rfl
theorem Jx0 : Try.f19.body = some (Try.f19.body.get!) := by kernel_rfl
theorem JAF : Enters Try.prog 19 := enters_of JxZ (by kernel_rfl) Jx0
def JmW : List PV -> List Ent -> (Res -> Option Res) -> Option Res
 | [.ro 106 l_z l_f l], [], k => g19 0 l_z l_f l k
 | _, _, _ => none
def s19 : Sig := { own := [], run := JmW }
theorem JAG : Jg tau Try.prog 19 s19 := J0 Jp JtH Jq JxZ Jx0 Jpm [.ro] 0 [] JmW (JAE 0) fun xs es k res hr => by
 unfold JmW at hr
 split at hr
 · exact ⟨rfl, 0, (e19 0 _ _ _  _).trans hr⟩
 · cases hr
def F64 : Fns := JH 108 JiW (JH 28 JoY (F0))
theorem JtI : Jy tau Try.prog F64 := ((JD).add Jmk Js8).add Jhm JiU
def Jpn : An := (.seq .leaf (.seq .leaf (.seq .leaf (.seq .leaf .leaf))))
def g64 (f : Nat) (y0 id_N y1 y2 : Int) (k : Res -> Option Res) : Option Res := bif okL (apI [] y0).length (apI [] y0) then bif okL (apI (apI [] y0) id_N).length (apI (apI [] y0) id_N) then bif okL (apI (apI (apI [] y0) id_N) y1).length (apI (apI (apI [] y0) id_N) y1) then bif Jj IntKind.u8 (List.take (apI (apI (apI (apI [] y0) id_N) y1) y2).length (apI (apI (apI (apI [] y0) id_N) y1) y2)) && decide ((List.take (apI (apI (apI (apI [] y0) id_N) y1) y2).length (apI (apI (apI (apI [] y0) id_N) y1) y2)).length <= 140737488355000) then k (Res.mk (.st 41 [.st 34 [.sc (.int .i64 y0), .sc (.int .i64 id_N)], .sc (.string (ByteArray.mk #[])), .ro 45 false false [.st 45 [.sc (.int .i64 y1), .sc (.int .i64 y2)]], .sc (.int .i64 0), .ar 37 (pu IntKind.u8 (JT (Jw (List.take (apI (apI (apI (apI [] y0) id_N) y1) y2).length (apI (apI (apI (apI [] y0) id_N) y1) y2)))))]) [] []) else none else none else none else none
theorem e64 (f : Nat) (y0 id_N y1 y2 : Int) (k : Res -> Option Res) : JQ tau F64 Try.f64 (Try.f64.body.get!) Jpn [.ro] 0 [.st 34 [.sc (.int .i64 y0), .sc (.int .i64 id_N)], .st 45 [.sc (.int .i64 y1), .sc (.int .i64 y2)]] [] k = g64 f y0 id_N y1 y2 k := by kernel_rfl
theorem JAH (f : Nat) : Jf (Try.f64.body.get!) Jpn = [] := by kernel_rfl
theorem JAI (f : Nat) : ∀ q ∈ Jf (Try.f64.body.get!) Jpn, q.Ok tau Try.prog 0 := by
 rw [JAH f]; intro q hq; cases hq
theorem Jx1 : Try.prog.funcs[64]? = some Try.f64 := by kernel_rfl
theorem Jx2 : Try.f64.body = some (Try.f64.body.get!) := by kernel_rfl
theorem JAJ : Enters Try.prog 64 := enters_of Jx1 (by kernel_rfl) Jx2
def JmX : List PV -> List Ent -> (Res -> Option Res) -> Option Res
 | [.st 34 [.sc (.int .i64 y0), .sc (.int .i64 id_N)], .st 45 [.sc (.int .i64 y1), .sc (.int .i64 y2)]], [], k => g64 0 y0 id_N y1 y2 k
 | _, _, _ => none
def s64 : Sig := { own := [], run := JmX }
theorem JAK : Jg tau Try.prog 64 s64 := J0 Jp JtI Jq Jx1 Jx2 Jpn [.ro] 0 [] JmX (JAI 0) fun xs es k res hr => by
 unfold JmX at hr
 split at hr
 · exact ⟨rfl, 0, (e64 0 _ _ _ _  _).trans hr⟩
 · cases hr
def F24 : Fns := F0
theorem JtJ : Jy tau Try.prog F24 := JD
def Jpo : An := (.seq .leaf (.seq .leaf (.seq (.seq .leaf (.cond .leaf .leaf)) (.seq .leaf .leaf))))
def g24 (f : Nat) (at1 n : Int) (k : Res -> Option Res) : Option Res := bif !decide (n = 0) && true then bif decide (at1.tmod n < 0) then k (Res.mk (.sc (.int .i64 (IntKind.i64.wrap (at1.tmod n + n)))) [] []) else k (Res.mk (.sc (.int .i64 (at1.tmod n))) [] []) else none
theorem e24 (f : Nat) (at1 n : Int) (k : Res -> Option Res) : JQ tau F24 Try.f24 (Try.f24.body.get!) Jpo [.ro] 0 [.sc (.int .i64 at1), .sc (.int .i64 n)] [] k = g24 f at1 n k := by kernel_rfl
theorem JAL (f : Nat) : Jf (Try.f24.body.get!) Jpo = [] := by kernel_rfl
theorem JAM (f : Nat) : ∀ q ∈ Jf (Try.f24.body.get!) Jpo, q.Ok tau Try.prog 0 := by
 rw [JAL f]; intro q hq; cases hq
theorem Jx3 : Try.prog.funcs[24]? = some Try.f24 := by kernel_rfl
theorem Jx4 : Try.f24.body = some (Try.f24.body.get!) := by kernel_rfl
theorem JtK : Enters Try.prog 24 := enters_of Jx3 (by kernel_rfl) Jx4
def JmY : List PV -> List Ent -> (Res -> Option Res) -> Option Res
 | [.sc (.int .i64 at1), .sc (.int .i64 n)], [], k => g24 0 at1 n k
 | _, _, _ => none
def s24 : Sig := { own := [], run := JmY }
theorem JAN : Jg tau Try.prog 24 s24 := J0 Jp JtJ Jq Jx3 Jx4 Jpo [.ro] 0 [] JmY (JAM 0) fun xs es k res hr => by
 unfold JmY at hr
 split at hr
 · exact ⟨rfl, 0, (e24 0 _ _  _).trans hr⟩
 · cases hr
-- FN law13.within
def Jh5 : List PV -> List Ent -> (Res -> Option Res) -> Option Res
 | [.sc (.int .i64 a), .sc (.int .i64 n)], [], k => bif okW n then k ⟨.sc (.int .i64 (a % n)), [], []⟩ else none
 | _, _, _ => none
def Jpp : Sig := { own := [], run := Jh5 }
theorem JtL (a n : Int) (h : 0 < n) (h2 : n < 1000000000000) (k : Res -> Option Res) : g24 0 a n k = k ⟨.sc (.int .i64 (a % n)), [], []⟩ := by
 have hn : (n == 0) = false := by simp; omega
 have e := Int.tmod_eq_emod (a := a) (b := n)
 have e0 := Int.emod_nonneg a (show n ≠ 0 by omega)
 have e1 := Int.emod_lt_of_pos a h
 have hna : (n.natAbs : Int) = n := by omega
 unfold g24
 refine (Jc (by simp; omega)).trans ?_
 by_cases hc : a.tmod n < 0
 · refine (Jc (by simpa using hc)).trans ?_
   have : IntKind.i64.wrap (a.tmod n + n) = a % n := by
    split at e <;> (rw [wrap_i64 (by omega) (by omega)]; omega)
   rw [this]
 · refine (Ji (by simpa using hc)).trans ?_
   have : a.tmod n = a % n := by split at e <;> omega
   rw [this]
theorem JmZ : Jg tau Try.prog 24 Jpp := JAN.of fun xs es k res hr => by
 change Jh5 xs es k = some res at hr
 unfold Jh5 at hr
 split at hr
 · obtain ⟨hc, hr⟩ := JE hr
   simp only [Vv, Bool.and_eq_true, decide_eq_true_eq] at hc
   exact (JtL _ _ hc.1 hc.2 _).trans hr
 · cases hr
def Jx5 : Fns := F0
theorem Jpq : Jy tau Try.prog Jx5 := JD
def JjF : An := (.seq .leaf (.seq .leaf (.seq (.seq .leaf (.cond .leaf .leaf)) (.seq .leaf .leaf))))
def Jpr (f : Nat) (at1 n : Int) (k : Res -> Option Res) : Option Res := bif !decide (n = 0) && true then bif decide (at1.tmod n < 0) then k (Res.mk (.sc (.int .i64 (IntKind.i64.wrap (at1.tmod n + n)))) [] []) else k (Res.mk (.sc (.int .i64 (at1.tmod n))) [] []) else none
theorem JAO (f : Nat) (at1 n : Int) (k : Res -> Option Res) : JQ tau Jx5 Try.f112 (Try.f112.body.get!) JjF [.ro] 0 [.sc (.int .i64 at1), .sc (.int .i64 n)] [] k = Jpr f at1 n k := by kernel_rfl
theorem Jx6 (f : Nat) : Jf (Try.f112.body.get!) JjF = [] := by kernel_rfl
theorem Jx7 (f : Nat) : ∀ q ∈ Jf (Try.f112.body.get!) JjF, q.Ok tau Try.prog 0 := by
 rw [Jx6 f]; intro q hq; cases hq
theorem Jrj : Try.prog.funcs[112]? = some Try.f112 := by kernel_rfl
theorem Jrk : Try.f112.body = some (Try.f112.body.get!) := by kernel_rfl
theorem Jx8 : Enters Try.prog 112 := enters_of Jrj (by kernel_rfl) Jrk
def Jh6 : List PV -> List Ent -> (Res -> Option Res) -> Option Res
 | [.sc (.int .i64 at1), .sc (.int .i64 n)], [], k => Jpr 0 at1 n k
 | _, _, _ => none
def JAP : Sig := { own := [], run := Jh6 }
theorem Jx9 : Jg tau Try.prog 112 JAP := J0 Jp Jpq Jq Jrj Jrk JjF [.ro] 0 [] Jh6 (Jx7 0) fun xs es k res hr => by
 unfold Jh6 at hr
 split at hr
 · exact ⟨rfl, 0, (JAO 0 _ _  _).trans hr⟩
 · cases hr
-- FN law4.within
def JeK : List PV -> List Ent -> (Res -> Option Res) -> Option Res
 | [.sc (.int .i64 a), .sc (.int .i64 n)], [], k => bif okW n then k ⟨.sc (.int .i64 (a % n)), [], []⟩ else none
 | _, _, _ => none
def Jrl : Sig := { own := [], run := JeK }
theorem Jps (a n : Int) (h : 0 < n) (h2 : n < 1000000000000) (k : Res -> Option Res) : Jpr 0 a n k = k ⟨.sc (.int .i64 (a % n)), [], []⟩ := by
 have hn : (n == 0) = false := by simp; omega
 have e := Int.tmod_eq_emod (a := a) (b := n)
 have e0 := Int.emod_nonneg a (show n ≠ 0 by omega)
 have e1 := Int.emod_lt_of_pos a h
 have hna : (n.natAbs : Int) = n := by omega
 unfold Jpr
 refine (Jc (by simp; omega)).trans ?_
 by_cases hc : a.tmod n < 0
 · refine (Jc (by simpa using hc)).trans ?_
   have : IntKind.i64.wrap (a.tmod n + n) = a % n := by
    split at e <;> (rw [wrap_i64 (by omega) (by omega)]; omega)
   rw [this]
 · refine (Ji (by simpa using hc)).trans ?_
   have : a.tmod n = a % n := by split at e <;> omega
   rw [this]
theorem JtM : Jg tau Try.prog 112 Jrl := Jx9.of fun xs es k res hr => by
 change JeK xs es k = some res at hr
 unfold JeK at hr
 split at hr
 · obtain ⟨hc, hr⟩ := JE hr
   simp only [Vv, Bool.and_eq_true, decide_eq_true_eq] at hc
   exact (Jps _ _ hc.1 hc.2 _).trans hr
 · cases hr
def N54 : Nat := 114
def F54 : Fns := JH 112 Jrl (F0)
theorem Jm0 : Jy tau Try.prog F54 := (JD).add JtM Jx8
def Jdr : Code := Qo (Try.f54.body.get!) [1, 1, 1, 0, 1, 0, 0]
def Yl : Nm := [(0, .any), (1, .any), (5, .own), (6, .any), (7, .any)]
def Zu : Nm := [(0, .any), (1, .any), (5, .any), (6, .any)]
def Jgd : An := (.seq (.seq .leaf (.cond .leaf .leaf)) (.seq (.block none (.seq .leaf (.seq .leaf (.block none (.seq (.seq .leaf (.cond .leaf .leaf)) (.cond (.seq .leaf .leaf) (.seq .leaf (.cond (.seq .leaf .leaf) (.seq .leaf (.cond (.seq .leaf (.seq .leaf (.cond (.seq .leaf .leaf) .leaf))) .leaf)))))))))) .leaf))
def Jpt (r0 : QE) : An := (.seq .leaf (.seq .leaf (.seq .leaf (.seq (.seq .leaf (.block none (.sum Yl N54 r0))) (.seq (.seq .leaf (.cond .leaf .leaf)) (.seq (.seq .leaf (.cond .leaf .leaf)) (.seq .leaf .leaf)))))))
def ZR (f : Nat) (rc : Int -> Bool -> Bool -> List PV -> Nat -> Int -> Int -> Bool -> List PV -> Option Res) (k0 : Int -> Bool -> Bool -> List PV -> Nat -> Int -> Bool -> List PV -> Option Res) (v0 : Int) (v1 v2 : Bool) (v3 : List PV) (v4 : Nat) (v5 v6 : Int) (v7 : Bool) (v8 : List PV) : Option Res := bif decide (v6 < zi v3.length) then bif decide (v6 < 12) then bif decide (v0 > 0) then bif decide (0 <= v6) && decide (v6 < zi v3.length) && PV.isInt IntKind.i64 (v3.getD v6.toNat PV.top) && true then bif okW (Qv v0 9) then bif decide (0 <= v6) && decide (v6 < zi v3.length) && PV.isInt IntKind.i64 (v3.getD v6.toNat PV.top) && true then bif okW 4 then bif (v3.getD v6.toNat PV.top).int % 4 == 0 then bif (v3.getD v6.toNat PV.top).int % 4 == 0 then bif Jk (v4 + 1) 32 && true then rc (IntKind.i64.wrap (v0 - IntKind.i64.wrap (1 + IntKind.i64.wrap ((v3.getD v6.toNat PV.top).int.tdiv 7) % Qv v0 9))) v1 v2 v3 (v4 + 1) v5 (IntKind.i64.wrap (v6 + 1)) (v7 && false) (List.take v4 v8 ++ [.st 99 [.sc (.int .i64 1), .sc (.int .i64 (IntKind.i64.wrap (1 + IntKind.i64.wrap ((v3.getD v6.toNat PV.top).int.tdiv 7) % Qv v0 9))), .sc (.string (ByteArray.mk #[]))]]) else none else bif (v3.getD v6.toNat PV.top).int % 4 == 2 then bif Jk (v4 + 1) 32 && true then rc (IntKind.i64.wrap (v0 - IntKind.i64.wrap (1 + IntKind.i64.wrap ((v3.getD v6.toNat PV.top).int.tdiv 7) % Qv v0 9))) v1 v2 v3 (v4 + 1) (IntKind.i64.wrap (v5 - IntKind.i64.wrap (1 + IntKind.i64.wrap ((v3.getD v6.toNat PV.top).int.tdiv 7) % Qv v0 9))) (IntKind.i64.wrap (v6 + 1)) (v7 && false) (List.take v4 v8 ++ [.st 99 [.sc (.int .i64 3), .sc (.int .i64 (IntKind.i64.wrap (1 + IntKind.i64.wrap ((v3.getD v6.toNat PV.top).int.tdiv 7) % Qv v0 9))), .sc (.string (ByteArray.mk #[]))]]) else none else bif (v3.getD v6.toNat PV.top).int % 4 == 3 then bif decide (0 <= v6) && decide (v6 < zi v3.length) && PV.isInt IntKind.i64 (v3.getD v6.toNat PV.top) && true then bif okW 5 then bif decide (0 <= IntKind.i64.wrap (1 + IntKind.i64.wrap ((v3.getD v6.toNat PV.top).int.tdiv 7) % 5)) && true && decide ((IntKind.i64.wrap (1 + IntKind.i64.wrap ((v3.getD v6.toNat PV.top).int.tdiv 7) % 5)).toNat <= 10) && true then bif decide (IntKind.i64.wrap (v5 + zi ((ByteArray.mk (Array.mk (u8l [97, 98, 99, 100, 101, 102, 103, 104, 105, 106]))).extract 0 (IntKind.i64.wrap (1 + IntKind.i64.wrap ((v3.getD v6.toNat PV.top).int.tdiv 7) % 5)).toNat).size) <= 120) then bif Jk (v4 + 1) 32 && true then rc v0 v1 v2 v3 (v4 + 1) (IntKind.i64.wrap (v5 + zi ((ByteArray.mk (Array.mk (u8l [97, 98, 99, 100, 101, 102, 103, 104, 105, 106]))).extract 0 (IntKind.i64.wrap (1 + IntKind.i64.wrap ((v3.getD v6.toNat PV.top).int.tdiv 7) % 5)).toNat).size)) (IntKind.i64.wrap (v6 + 1)) (v7 && false) (List.take v4 v8 ++ [.st 99 [.sc (.int .i64 2), .sc (.int .i64 0), .sc (.string ((ByteArray.mk (Array.mk (u8l [97, 98, 99, 100, 101, 102, 103, 104, 105, 106]))).extract 0 (IntKind.i64.wrap (1 + IntKind.i64.wrap ((v3.getD v6.toNat PV.top).int.tdiv 7) % 5)).toNat))]]) else none else rc v0 v1 v2 v3 v4 v5 (IntKind.i64.wrap (v6 + 1)) v7 v8 else none else none else none else rc v0 v1 v2 v3 v4 v5 (IntKind.i64.wrap (v6 + 1)) v7 v8 else bif (v3.getD v6.toNat PV.top).int % 4 == 1 then bif Jk (v4 + 1) 32 && true then rc (IntKind.i64.wrap (v0 - IntKind.i64.wrap (1 + IntKind.i64.wrap ((v3.getD v6.toNat PV.top).int.tdiv 7) % Qv v0 9))) v1 v2 v3 (v4 + 1) v5 (IntKind.i64.wrap (v6 + 1)) (v7 && false) (List.take v4 v8 ++ [.st 99 [.sc (.int .i64 1), .sc (.int .i64 (IntKind.i64.wrap (1 + IntKind.i64.wrap ((v3.getD v6.toNat PV.top).int.tdiv 7) % Qv v0 9))), .sc (.string (ByteArray.mk #[]))]]) else none else bif (v3.getD v6.toNat PV.top).int % 4 == 2 then bif Jk (v4 + 1) 32 && true then rc (IntKind.i64.wrap (v0 - IntKind.i64.wrap (1 + IntKind.i64.wrap ((v3.getD v6.toNat PV.top).int.tdiv 7) % Qv v0 9))) v1 v2 v3 (v4 + 1) (IntKind.i64.wrap (v5 - IntKind.i64.wrap (1 + IntKind.i64.wrap ((v3.getD v6.toNat PV.top).int.tdiv 7) % Qv v0 9))) (IntKind.i64.wrap (v6 + 1)) (v7 && false) (List.take v4 v8 ++ [.st 99 [.sc (.int .i64 3), .sc (.int .i64 (IntKind.i64.wrap (1 + IntKind.i64.wrap ((v3.getD v6.toNat PV.top).int.tdiv 7) % Qv v0 9))), .sc (.string (ByteArray.mk #[]))]]) else none else bif (v3.getD v6.toNat PV.top).int % 4 == 3 then bif decide (0 <= v6) && decide (v6 < zi v3.length) && PV.isInt IntKind.i64 (v3.getD v6.toNat PV.top) && true then bif okW 5 then bif decide (0 <= IntKind.i64.wrap (1 + IntKind.i64.wrap ((v3.getD v6.toNat PV.top).int.tdiv 7) % 5)) && true && decide ((IntKind.i64.wrap (1 + IntKind.i64.wrap ((v3.getD v6.toNat PV.top).int.tdiv 7) % 5)).toNat <= 10) && true then bif decide (IntKind.i64.wrap (v5 + zi ((ByteArray.mk (Array.mk (u8l [97, 98, 99, 100, 101, 102, 103, 104, 105, 106]))).extract 0 (IntKind.i64.wrap (1 + IntKind.i64.wrap ((v3.getD v6.toNat PV.top).int.tdiv 7) % 5)).toNat).size) <= 120) then bif Jk (v4 + 1) 32 && true then rc v0 v1 v2 v3 (v4 + 1) (IntKind.i64.wrap (v5 + zi ((ByteArray.mk (Array.mk (u8l [97, 98, 99, 100, 101, 102, 103, 104, 105, 106]))).extract 0 (IntKind.i64.wrap (1 + IntKind.i64.wrap ((v3.getD v6.toNat PV.top).int.tdiv 7) % 5)).toNat).size)) (IntKind.i64.wrap (v6 + 1)) (v7 && false) (List.take v4 v8 ++ [.st 99 [.sc (.int .i64 2), .sc (.int .i64 0), .sc (.string ((ByteArray.mk (Array.mk (u8l [97, 98, 99, 100, 101, 102, 103, 104, 105, 106]))).extract 0 (IntKind.i64.wrap (1 + IntKind.i64.wrap ((v3.getD v6.toNat PV.top).int.tdiv 7) % 5)).toNat))]]) else none else rc v0 v1 v2 v3 v4 v5 (IntKind.i64.wrap (v6 + 1)) v7 v8 else none else none else none else rc v0 v1 v2 v3 v4 v5 (IntKind.i64.wrap (v6 + 1)) v7 v8 else none else none else none else none else k0 v0 v1 v2 v3 v4 v5 v7 v8 else k0 v0 v1 v2 v3 v4 v5 v7 v8 else k0 v0 v1 v2 v3 v4 v5 v7 v8
def Xj (f : Nat) (k0 : Int -> Bool -> Bool -> List PV -> Nat -> Int -> Bool -> List PV -> Option Res) : Nat -> Int -> Bool -> Bool -> List PV -> Nat -> Int -> Int -> Bool -> List PV -> Option Res
 | 0, _, _, _, _, _, _, _, _, _ => none
 | n + 1, v0, v1, v2, v3, v4, v5, v6, v7, v8 => ZR f (Xj f k0 n) k0 v0 v1 v2 v3 v4 v5 v6 v7 v8
theorem Jpu (f : Nat) (k : Kont) (n : Nat) (v0 : Int) (v1 v2 : Bool) (v3 : List PV) (v4 : Nat) (v5 v6 : Int) (v7 : Bool) (v8 : List PV) : Jl tau 0 Yl (fun s k => ev tau F54 0 0 Jdr (Jgd ) s k) (n + 1) (Jd Yl N54 [.sc (.int .i64 v0), .ro 3 v1 v2 v3, .ow 99 1840 [] 0 v4 none, .sc (.int .i64 v5), .sc (.int .i64 v6)] [(1840, .vec false 99 v7 v8)]) (Jo tau 0 Zu k) = ZR f (fun v0 v1 v2 v3 v4 v5 v6 v7 v8 => Jl tau 0 Yl (fun s k => ev tau F54 0 0 Jdr (Jgd ) s k) n (Jd Yl N54 [.sc (.int .i64 v0), .ro 3 v1 v2 v3, .ow 99 1840 [] 0 v4 none, .sc (.int .i64 v5), .sc (.int .i64 v6)] [(1840, .vec false 99 v7 v8)]) (Jo tau 0 Zu k)) (fun x0 x1 x2 x3 x4 x5 x6 x7 => k (Ex.exit 0) (Jd Zu N54 [.sc (.int .i64 x0), .ro 3 x1 x2 x3, .ow 99 1840 [] 0 x4 none, .sc (.int .i64 x5)] [(1840, .vec false 99 x6 x7)])) v0 v1 v2 v3 v4 v5 v6 v7 v8 := by kernel_rfl
theorem JjG (f : Nat) (k : Kont) : ∀ (n : Nat) (v0 : Int) (v1 v2 : Bool) (v3 : List PV) (v4 : Nat) (v5 v6 : Int) (v7 : Bool) (v8 : List PV), Jl tau 0 Yl (fun s k => ev tau F54 0 0 Jdr (Jgd ) s k) n (Jd Yl N54 [.sc (.int .i64 v0), .ro 3 v1 v2 v3, .ow 99 1840 [] 0 v4 none, .sc (.int .i64 v5), .sc (.int .i64 v6)] [(1840, .vec false 99 v7 v8)]) (Jo tau 0 Zu k) = Xj f (fun x0 x1 x2 x3 x4 x5 x6 x7 => k (Ex.exit 0) (Jd Zu N54 [.sc (.int .i64 x0), .ro 3 x1 x2 x3, .ow 99 1840 [] 0 x4 none, .sc (.int .i64 x5)] [(1840, .vec false 99 x6 x7)])) n v0 v1 v2 v3 v4 v5 v6 v7 v8 | 0, _, _, _, _, _, _, _, _, _ => rfl | n + 1, v0, v1, v2, v3, v4, v5, v6, v7, v8 => (Jpu f k n v0 v1 v2 v3 v4 v5 v6 v7 v8).trans (congrArg (fun r => ZR f r (fun x0 x1 x2 x3 x4 x5 x6 x7 => k (Ex.exit 0) (Jd Zu N54 [.sc (.int .i64 x0), .ro 3 x1 x2 x3, .ow 99 1840 [] 0 x4 none, .sc (.int .i64 x5)] [(1840, .vec false 99 x6 x7)])) v0 v1 v2 v3 v4 v5 v6 v7 v8) (by funext v0 v1 v2 v3 v4 v5 v6 v7 v8; exact JjG f k n v0 v1 v2 v3 v4 v5 v6 v7 v8))
def Jcd (f : Nat) : List PV -> List (Nat × Ent) -> Kont -> Option Res
 | [.sc (.int .i64 v0), .ro 3 v1 v2 v3, .ow 99 1840 [] 0 v4 none, .sc (.int .i64 v5),
 PV.sc
  (Value.int IntKind.i64
   v6)], [(1840,
  Ent.vec false 99 v7
   v8)], k => Xj f (fun x0 x1 x2 x3 x4 x5 x6 x7 => k (Ex.exit
 0) (Jd Zu N54 [.sc (.int .i64 x0), .ro 3 x1 x2 x3, .ow 99 1840 [] 0 x4 none,
 .sc (.int .i64 x5)] [(1840, .vec false 99 x6 x7)])) f v0 v1 v2 v3 v4 v5 v6 v7 v8
 | _, _, _ => none
theorem JtN (f : Nat) : Jf Jdr Jgd = [] := by kernel_rfl
theorem Jya (f : Nat) : (Item.l Jdr Yl N54 (Jcd f)).Ok tau Try.prog 0 := Jz Jp Jm0 Jq (x := Jgd) (nm2 := Zu) (Jm _ _ (by rw [JtN f]; intro q hq; cases hq)) fun vs hp k res hr => by
 unfold Jcd at hr
 split at hr
 · exact ⟨f, 0, (JjG f _ f _ _ _ _ _ _ _ _ _ ).trans hr⟩
 · cases hr
def g54 (f : Nat) (n : Int) (ns_z ns_f : Bool) (ns : List PV) (k : Res -> Option Res) : Option Res := Xj f (fun x0_0 x1_0 x2_0 x3_0 x4_0 x5_0 x6_0 x7_0 => bif decide (x0_0 > 0) then bif Jk (x4_0 + 1) 32 && true then bif decide (zi x3_0.length > 0) then bif decide (0 < zi x3_0.length) && PV.isInt IntKind.i64 (x3_0.getD 0 PV.top) && true then bif okW 3 then bif IntKind.i64.wrap ((x3_0.getD 0 PV.top).int.tdiv 3) % 3 == 0 then bif decide (x5_0 <= 115) then bif Jk (x4_0 + 1 + 1) 32 && true then k (Res.mk (.ro 99 (Ent.vec false 99 (x6_0 && false && false) (List.take (x4_0 + 1) (List.take x4_0 x7_0 ++ [.st 99 [.sc (.int .i64 1), .sc (.int .i64 x0_0), .sc (.string (ByteArray.mk #[]))]]) ++ [.st 99 [.sc (.int .i64 2), .sc (.int .i64 0), .sc (.string (ByteArray.mk (Array.mk (u8l [122]))))]])).nil false (List.take (x4_0 + 1 + 1) (List.take (x4_0 + 1) (List.take x4_0 x7_0 ++ [.st 99 [.sc (.int .i64 1), .sc (.int .i64 x0_0), .sc (.string (ByteArray.mk #[]))]]) ++ [.st 99 [.sc (.int .i64 2), .sc (.int .i64 0), .sc (.string (ByteArray.mk (Array.mk (u8l [122]))))]]))) [] []) else none else k (Res.mk (.ro 99 (Ent.vec false 99 (x6_0 && false) (List.take x4_0 x7_0 ++ [.st 99 [.sc (.int .i64 1), .sc (.int .i64 x0_0), .sc (.string (ByteArray.mk #[]))]])).nil false (List.take (x4_0 + 1) (List.take x4_0 x7_0 ++ [.st 99 [.sc (.int .i64 1), .sc (.int .i64 x0_0), .sc (.string (ByteArray.mk #[]))]]))) [] []) else k (Res.mk (.ro 99 (Ent.vec false 99 (x6_0 && false) (List.take x4_0 x7_0 ++ [.st 99 [.sc (.int .i64 1), .sc (.int .i64 x0_0), .sc (.string (ByteArray.mk #[]))]])).nil false (List.take (x4_0 + 1) (List.take x4_0 x7_0 ++ [.st 99 [.sc (.int .i64 1), .sc (.int .i64 x0_0), .sc (.string (ByteArray.mk #[]))]]))) [] []) else none else none else k (Res.mk (.ro 99 (Ent.vec false 99 (x6_0 && false) (List.take x4_0 x7_0 ++ [.st 99 [.sc (.int .i64 1), .sc (.int .i64 x0_0), .sc (.string (ByteArray.mk #[]))]])).nil false (List.take (x4_0 + 1) (List.take x4_0 x7_0 ++ [.st 99 [.sc (.int .i64 1), .sc (.int .i64 x0_0), .sc (.string (ByteArray.mk #[]))]]))) [] []) else none else bif decide (zi x3_0.length > 0) then bif decide (0 < zi x3_0.length) && PV.isInt IntKind.i64 (x3_0.getD 0 PV.top) && true then bif okW 3 then bif IntKind.i64.wrap ((x3_0.getD 0 PV.top).int.tdiv 3) % 3 == 0 then bif decide (x5_0 <= 115) then bif Jk (x4_0 + 1) 32 && true then k (Res.mk (.ro 99 (Ent.vec false 99 (x6_0 && false) (List.take x4_0 x7_0 ++ [.st 99 [.sc (.int .i64 2), .sc (.int .i64 0), .sc (.string (ByteArray.mk (Array.mk (u8l [122]))))]])).nil false (List.take (x4_0 + 1) (List.take x4_0 x7_0 ++ [.st 99 [.sc (.int .i64 2), .sc (.int .i64 0), .sc (.string (ByteArray.mk (Array.mk (u8l [122]))))]]))) [] []) else none else k (Res.mk (.ro 99 (Ent.vec false 99 x6_0 x7_0).nil false (List.take x4_0 x7_0)) [] []) else k (Res.mk (.ro 99 (Ent.vec false 99 x6_0 x7_0).nil false (List.take x4_0 x7_0)) [] []) else none else none else k (Res.mk (.ro 99 (Ent.vec false 99 x6_0 x7_0).nil false (List.take x4_0 x7_0)) [] [])) f n ns_z ns_f ns (0) n (0) true ([])
theorem e54 (f : Nat) (n : Int) (ns_z ns_f : Bool) (ns : List PV) (k : Res -> Option Res) : JQ tau F54 Try.f54 (Try.f54.body.get!) (Jpt (Jcd f)) [.ro] 0 [.sc (.int .i64 n), .ro 3 ns_z ns_f ns] [] k = g54 f n ns_z ns_f ns k := by kernel_rfl
theorem JAQ (f : Nat) : Jf (Try.f54.body.get!) (Jpt (Jcd f)) = [.l Jdr Yl N54 (Jcd f)] := by kernel_rfl
theorem JAR (f : Nat) : ∀ q ∈ Jf (Try.f54.body.get!) (Jpt (Jcd f)), q.Ok tau Try.prog 0 := by
 rw [JAQ f]; simp only [List.forall_mem_cons, List.not_mem_nil, false_implies, implies_true, and_true]; exact Jya f
theorem Jyb : Try.prog.funcs[54]? = some Try.f54 := by kernel_rfl
theorem Jyc : Try.f54.body = some (Try.f54.body.get!) := by kernel_rfl
theorem JAS : Enters Try.prog 54 := enters_of Jyb (by kernel_rfl) Jyc
-- FN law4.Make
theorem Zv {l : List PV} (h : Jj .i64 l = true) {i : Nat} (hi : i < l.length) : (l.getD i .top).isInt .i64 = true := by
 induction l generalizing i with
 | nil => simp at hi
 | cons p ps ih =>
  have e : Jj .i64 (p :: ps) = (p.isInt .i64 && Jj .i64 ps) := rfl
  rw [e, Bool.and_eq_true] at h
  cases i with
  | zero => exact h.1
  | succ i => simpa using ih h.2 (by simpa using hi)
theorem isE (L : List PV) (x : PV) : (L ++ [x]).isEmpty = false := by cases L <;> rfl
theorem Jge (L : List PV) (x y : PV) : (L ++ [x, y]).isEmpty = false := by cases L <;> rfl
theorem Jm1 (c z fl : Bool) (ns : List PV) (hns : Jj .i64 ns = true) (h2 : ns.length <= 9223372036854775807) (f : Nat) (k0 : Int -> Bool -> Bool -> List PV -> Nat -> Int -> Bool -> List PV -> Option Res) (R : List PV -> Option Res)
  (hk : ∀ (n out : Int) (L : List PV), 0 <= n -> n <= out -> out <= 120 -> L.length <= 12 -> k0 n z fl ns L.length out L.isEmpty L = R (L ++ mkE c n out)) :
  ∀ (b i m : Nat) (n out : Int) (L : List PV), i + b = 12 -> b < m -> 0 <= n -> n <= out -> out <= 120 -> L.length <= i ->
   Xj f k0 m n z fl ns L.length out (i : Int) L.isEmpty L = R (L ++ Xx c b n out (ns.drop i))
 | 0, i, m + 1, n, out, L, hi, hm, h3, h4, h5, hL => by
   have e : Xx c 0 n out (ns.drop i) = mkE c n out := rfl
   rw [e]
   simp only [Xj, ZR]
   by_cases hc : i < ns.length
   · refine (Jc (by simp [zi]; omega)).trans ((Ji (by simp; omega)).trans (hk n out L h3 h4 h5 (by omega)))
   · exact (Ji (by simp [zi]; omega)).trans (hk n out L h3 h4 h5 (by omega))
 | b + 1, i, m + 1, n, out, L, hi, hm, h3, h4, h5, hL => by
   by_cases hc : ¬ i < ns.length
   · rw [List.drop_of_length_le (by omega)]
     simp only [Xj, ZR]
     exact (Ji (by simp [zi]; omega)).trans (hk n out L h3 h4 h5 (by omega))
   have hc := Decidable.not_not.1 hc
   rw [Qf hc]
   have g1 : ((i : Int)).toNat = i := by omega
   have w1 : IntKind.i64.wrap ((i : Int) + 1) = ((i + 1 : Nat) : Int) := by rw [wrap_i64 (by omega) (by omega)]; omega
   have hin := Zv hns hc
   have tk : List.take L.length L = L := List.take_length
   have e1 : ∀ x : PV, L.length + 1 = (L ++ [x]).length := fun x => by simp
   have e2 : ∀ x : PV, (L.isEmpty && false) = (L ++ [x]).isEmpty := fun x => by simp
   simp only [Xj, ZR, g1, w1, hin, tk]
   generalize ns.getD i .top = p at *
   refine (Jc (by simp [zi]; omega)).trans ((Jc (by simp; omega)).trans ?_)
   have hrd : (decide (0 <= (i : Int)) && decide ((i : Int) < zi ns.length) && true && true) = true := by simp [zi]; omega
   have hro : (Jk (L.length + 1) 32 && true) = true := by simp [Jk]; omega
   by_cases hn : ¬ n > 0
   · refine (Ji (by simp; omega)).trans ((hk n out L h3 h4 h5 (by omega)).trans ?_)
     have : Xx c (b + 1) n out (p :: ns.drop (i + 1)) = mkE c n out := by simp only [Xx]; exact Ji (by simp; omega)
     rw [this]
   have hn := Decidable.not_not.1 hn
   obtain ⟨k1, k2, k3⟩ := Jmw (x := p.int) hn
   obtain ⟨m1, m2, m3⟩ := Jju hn
   obtain ⟨s1, s2⟩ := Jmx p.int
   have wK : IntKind.i64.wrap (1 + IntKind.i64.wrap (p.int.tdiv 7) % Qv n 9) = mkK p.int n := wrap_i64 (by show _ <= mkK p.int n; omega) (by show mkK p.int n < _; omega)
   have wS : IntKind.i64.wrap (1 + IntKind.i64.wrap (p.int.tdiv 7) % 5) = mkS p.int := wrap_i64 (by show _ <= mkS p.int; omega) (by show mkS p.int < _; omega)
   have wN : IntKind.i64.wrap (n - mkK p.int n) = n - mkK p.int n := wrap_i64 (by omega) (by omega)
   have wO : IntKind.i64.wrap (out - mkK p.int n) = out - mkK p.int n := wrap_i64 (by omega) (by omega)
   have hab : (ByteArray.mk (Array.mk (u8l [97, 98, 99, 100, 101, 102, 103, 104, 105, 106]))).extract 0 (mkS p.int).toNat = Jcs (mkS p.int) := rfl
   have hsz : zi (Jcs (mkS p.int)).size = mkS p.int := Jdo (by omega) (by omega)
   have wP : IntKind.i64.wrap (out + mkS p.int) = out + mkS p.int := wrap_i64 (by omega) (by omega)
   simp only [wK, wS, wN, wO, hab, hsz, wP]
   refine (Jc (by simpa using hn)).trans ((Jc hrd).trans ((Jc (by rw [Vv, Bool.and_eq_true, decide_eq_true_eq, decide_eq_true_eq]; omega)).trans ((Jc hrd).trans ((Jc (by rw [Vv]; rfl)).trans ?_))))
   have hmk : Xx c (b + 1) n out (p :: ns.drop (i + 1)) = (bif p.int % 4 == 0 || p.int % 4 == 1 then kpP (mkK p.int n) :: Xx c b (n - mkK p.int n) out (ns.drop (i + 1))
     else bif p.int % 4 == 2 then ctP (mkK p.int n) :: Xx c b (n - mkK p.int n) (out - mkK p.int n) (ns.drop (i + 1))
     else bif decide (out + mkS p.int <= 120) then ptP (Jcs (mkS p.int)) :: Xx c b n (out + mkS p.int) (ns.drop (i + 1))
     else Xx c b n out (ns.drop (i + 1))) := by simp only [Xx]; exact Jc (by simpa using hn)
   have A : ∀ (x : PV) (n' out' : Int), 0 <= n' -> n' <= out' -> out' <= 120 -> Xj f k0 m n' z fl ns (L.length + 1) out' ((i + 1 : Nat) : Int) (L.isEmpty && false) (L ++ [x]) = R (L ++ x :: Xx c b n' out' (ns.drop (i + 1))) := fun x n' out' a1 a2 a3 => by
     rw [e1 x, e2 x, Jm1 c z fl ns hns h2 f k0 R hk b (i + 1) m n' out' (L ++ [x]) (by omega) (by omega) a1 a2 a3 (by simp; omega), List.append_assoc]; rfl
   have B : Xj f k0 m n z fl ns L.length out ((i + 1 : Nat) : Int) L.isEmpty L = R (L ++ Xx c b n out (ns.drop (i + 1))) :=
     Jm1 c z fl ns hns h2 f k0 R hk b (i + 1) m n out L (by omega) (by omega) h3 h4 h5 (by omega)
   rw [hmk]
   have q0 := Int.emod_nonneg p.int (show (4 : Int) ≠ 0 by omega)
   have q1 := Int.emod_lt_of_pos p.int (show (0 : Int) < 4 by omega)
   have : p.int % 4 = 0 ∨ p.int % 4 = 1 ∨ p.int % 4 = 2 ∨ p.int % 4 = 3 := by omega
   rcases this with hq | hq | hq | hq
   · rw [hq]
     exact (Jc rfl).trans ((Jc rfl).trans ((Jc hro).trans (A _ _ _ (by omega) (by omega) h5)))
   · rw [hq]
     exact (Ji rfl).trans ((Jc rfl).trans ((Jc hro).trans (A _ _ _ (by omega) (by omega) h5)))
   · rw [hq]
     exact (Ji rfl).trans ((Ji rfl).trans ((Jc rfl).trans ((Jc hro).trans (A _ _ _ (by omega) (by omega) (by omega)))))
   · rw [hq]
     refine (Ji rfl).trans ((Ji rfl).trans ((Ji rfl).trans ((Jc rfl).trans ((Jc hrd).trans ((Jc (by rw [Vv]; rfl)).trans ((Jc (by simp; omega)).trans ?_))))))
     by_cases hz : out + mkS p.int <= 120
     · refine (Jc (decide_eq_true hz)).trans ((Jc hro).trans ((A _ _ _ (by omega) (by omega) hz).trans ?_))
       rw [decide_eq_true hz]; rfl
     · refine (Ji (decide_eq_false hz)).trans (B.trans ?_)
       rw [decide_eq_false hz]; rfl
def Jh7 : List PV -> List Ent -> (Res -> Option Res) -> Option Res
 | [.sc (.int .i64 n), .ro 3 z f ns], [], k => bif Jez n ns then k ⟨.ro 99 (JI ⟨n, ns⟩).isEmpty false (JI ⟨n, ns⟩), [], []⟩ else none
 | _, _, _ => none
def Jyd : Sig := { own := [], run := Jh7 }
theorem JtO (n : Int) (z f : Bool) (ns : List PV) (h : Jez n ns = true) (k : Res -> Option Res) : g54 20 n z f ns k = k ⟨.ro 99 (JI ⟨n, ns⟩).isEmpty false (JI ⟨n, ns⟩), [], []⟩ := by
 obtain ⟨h1, h2, h3, h4⟩ := Jf6.1 h
 unfold g54
 rw [Jf5]
 refine (Jm1 (mkC ns) z f ns h3 h4 20 _ (fun M => k ⟨.ro 99 M.isEmpty false M, [], []⟩) ?_ 12 0 20 n n [] rfl (by omega) h1 (by omega) h2 (by simp)).trans ?_
 · intro n' out L a1 a2 a3 a4
   have tk : List.take L.length L = L := List.take_length
   have tk1 : ∀ x : PV, List.take (L.length + 1) (L ++ [x]) = L ++ [x] := fun x => List.take_of_length_le (by simp)
   have tk2 : ∀ x y : PV, List.take (L.length + 1 + 1) (L ++ [x] ++ [y]) = L ++ [x] ++ [y] := fun x y => List.take_of_length_le (by simp)
   have hro : (Jk (L.length + 1) 32 && true) = true := by simp [Jk]; omega
   have hro2 : (Jk (L.length + 1 + 1) 32 && true) = true := by simp [Jk]; omega
   have em : ∀ x : PV, (L.isEmpty && false) = (L ++ [x]).isEmpty := fun x => by simp
   have hz : PV.st 99 [PV.sc (Value.int IntKind.i64 2), PV.sc (Value.int IntKind.i64 0), PV.sc (Value.string (ByteArray.mk (Array.mk (u8l [122]))))] = ptP zed := rfl
   have hk' : PV.st 99 [PV.sc (Value.int IntKind.i64 1), PV.sc (Value.int IntKind.i64 n'), PV.sc (Value.string (ByteArray.mk #[]))] = kpP n' := rfl
   have okw : okW 3 = true := by rw [Vv]; rfl
   simp only [tk, tk1, tk2, hz, hk', Ent.nil, okw, hro, hro2]
   unfold mkE mkC
   cases hn : decide (n' > 0) with
   | true =>
    refine (Jc rfl).trans ((Jc rfl).trans ?_)
    by_cases hl : ns.length > 0
    · have hl' : decide (zi ns.length > 0) = true := by simp [zi]; omega
      have hin := Zv h3 hl
      rw [hl', decide_eq_true hl]
      refine (Jc rfl).trans ((Jc (by rw [hin]; simp [zi, hl])).trans ((Jc rfl).trans ?_))
      cases hc : (IntKind.i64.wrap ((ns.getD 0 PV.top).int.tdiv 3) % 3 == 0) with
      | false => refine (Ji rfl).trans ?_; simp only [List.append_assoc, List.singleton_append, List.append_nil, Bool.and_false, Bool.and_true, Bool.false_and, Bool.true_and, cond_true, cond_false, isE, Jge, List.cons_append, List.nil_append]
      | true =>
       refine (Jc rfl).trans ?_
       cases ho : decide (out <= 115) with
       | false => refine (Ji rfl).trans ?_; simp only [List.append_assoc, List.singleton_append, List.append_nil, Bool.and_false, Bool.and_true, Bool.false_and, Bool.true_and, cond_true, cond_false, isE, Jge, List.cons_append, List.nil_append]
       | true => refine (Jc rfl).trans ((Jc rfl).trans ?_); simp [isE, Jge]
    · have hl' : decide (zi ns.length > 0) = false := decide_eq_false (by simp only [zi]; omega)
      rw [hl', decide_eq_false hl]
      refine (Ji rfl).trans ?_; simp only [List.append_assoc, List.singleton_append, List.append_nil, Bool.and_false, Bool.and_true, Bool.false_and, Bool.true_and, cond_true, cond_false, isE, Jge, List.cons_append, List.nil_append]
   | false =>
    refine (Ji rfl).trans ?_
    by_cases hl : ns.length > 0
    · have hl' : decide (zi ns.length > 0) = true := by simp [zi]; omega
      have hin := Zv h3 hl
      rw [hl', decide_eq_true hl]
      refine (Jc rfl).trans ((Jc (by rw [hin]; simp [zi, hl])).trans ((Jc rfl).trans ?_))
      cases hc : (IntKind.i64.wrap ((ns.getD 0 PV.top).int.tdiv 3) % 3 == 0) with
      | false => refine (Ji rfl).trans ?_; simp only [List.append_assoc, List.singleton_append, List.append_nil, Bool.and_false, Bool.and_true, Bool.false_and, Bool.true_and, cond_true, cond_false, isE, Jge, List.cons_append, List.nil_append]
      | true =>
       refine (Jc rfl).trans ?_
       cases ho : decide (out <= 115) with
       | false => refine (Ji rfl).trans ?_; simp only [List.append_assoc, List.singleton_append, List.append_nil, Bool.and_false, Bool.and_true, Bool.false_and, Bool.true_and, cond_true, cond_false, isE, Jge, List.cons_append, List.nil_append]
       | true => refine (Jc rfl).trans ((Jc rfl).trans ?_); simp [isE, Jge]
    · have hl' : decide (zi ns.length > 0) = false := decide_eq_false (by simp only [zi]; omega)
      rw [hl', decide_eq_false hl]
      refine (Ji rfl).trans ?_; simp only [List.append_assoc, List.singleton_append, List.append_nil, Bool.and_false, Bool.and_true, Bool.false_and, Bool.true_and, cond_true, cond_false, isE, Jge, List.cons_append, List.nil_append]
 · simp
theorem Jye : Jg tau Try.prog 54 Jyd := Jg.mk' fun xs es k res hl hr => by
 change Jh7 xs es k = some res at hr
 unfold Jh7 at hr
 split at hr
 · rename_i n z f ns
   obtain ⟨hc, hr⟩ := JE hr
   exact Qr Jp Jm0 Jq Jyb Jyc (Jpt (Jcd 20)) [.ro] 0 0 (JAR 20) hl rfl ((e54 20 n z f ns k).trans ((JtO n z f ns hc k).trans hr))
 · cases hr
def Jyf : Fns := JH 24 Jpp (F0)
theorem Jpv : Jy tau Try.prog Jyf := (JD).add JmZ JtK
def JjH : An := (.seq .leaf (.seq .leaf .leaf))
def Jyg (f : Nat) (n : Int) (k : Res -> Option Res) : Option Res := bif okW 3 then bif okW 4 then k (Res.mk (.st 45 [.sc (.int .i64 (n % 3)), .sc (.int .i64 (IntKind.i64.wrap (n.tdiv 3) % 4))]) [] []) else none else none
theorem JAT (f : Nat) (n : Int) (k : Res -> Option Res) : JQ tau Jyf Try.f115 (Try.f115.body.get!) JjH [.ro] 0 [.sc (.int .i64 n)] [] k = Jyg f n k := by kernel_rfl
theorem Jyh (f : Nat) : Jf (Try.f115.body.get!) JjH = [] := by kernel_rfl
theorem Jyi (f : Nat) : ∀ q ∈ Jf (Try.f115.body.get!) JjH, q.Ok tau Try.prog 0 := by
 rw [Jyh f]; intro q hq; cases hq
theorem Jrm : Try.prog.funcs[115]? = some Try.f115 := by kernel_rfl
theorem Jrn : Try.f115.body = some (Try.f115.body.get!) := by kernel_rfl
theorem Jyj : Enters Try.prog 115 := enters_of Jrm (by kernel_rfl) Jrn
def Jh8 : List PV -> List Ent -> (Res -> Option Res) -> Option Res
 | [.sc (.int .i64 n)], [], k => Jyg 0 n k
 | _, _, _ => none
def Jyk : Sig := { own := [], run := Jh8 }
theorem Jyl : Jg tau Try.prog 115 Jyk := J0 Jp Jpv Jq Jrm Jrn JjH [.ro] 0 [] Jh8 (Jyi 0) fun xs es k res hr => by
 unfold Jh8 at hr
 split at hr
 · exact ⟨rfl, 0, (JAT 0 _  _).trans hr⟩
 · cases hr
def F65 : Fns := JH 115 Jyk (JH 57 Jxo (JH 54 Jyd (JH 48 Jxm (JH 24 Jpp (F0)))))
theorem JtP : Jy tau Try.prog F65 := (((((JD).add JmZ JtK).add Jxn JAi).add Jye JAS).add Jxp JAo).add Jyl Jyj
def Jpw : An := (.seq .leaf (.seq .leaf (.seq (.seq .leaf (.cond .leaf .leaf)) (.seq .leaf (.seq (.seq .leaf (.block none (.seq .leaf (.cond .leaf (.seq .leaf (.cond .leaf (.seq .leaf .leaf))))))) (.seq .leaf .leaf))))))
def g65 (f : Nat) (y0 p_By y1 : Int) (y2 y3 : Bool) (p_Ns : List PV) (k0_z k0_f : Bool) (k0 : List PV) (k1_z k1_f : Bool) (k1 : List PV) (k2_z k2_f : Bool) (k2 : List PV) (y4 y5 : Int) (y6 : ByteArray) (y7 y8 : Bool) (y9 : List PV) (y10 : Int) (y11 : List PV) (id : Int) (k : Res -> Option Res) : Option Res := bif okW 3 then bif okW 4 then bif decide (zi y9.length > 0) then bif okW 9 then bif decide (p_By % 9 > 0) then bif okW (zi y9.length) then bif decide (0 <= p_By % zi y9.length) && decide (p_By % zi y9.length < zi y9.length) && (PV.isSt 45 #[Field.mk "D" 3 0 false "" "" 0, Field.mk "U" 3 1 false "" "" 8].size (y9.getD (p_By % zi y9.length).toNat PV.top) && (PV.isInt IntKind.i64 (PV.child 0 (y9.getD (p_By % zi y9.length).toNat PV.top)) && (PV.isInt IntKind.i64 (PV.child (0 + 1) (y9.getD (p_By % zi y9.length).toNat PV.top)) && true))) && true then bif okW 6 then bif y0 % 6 == 4 then bif okW 3 then bif okW 4 then bif dOk (DV.mk (PV.child 0 (y9.getD (p_By % zi y9.length).toNat PV.top)).int (PV.child (0 + 1) (y9.getD (p_By % zi y9.length).toNat PV.top)).int id y10 y11 2 [] (y1 % 3) (IntKind.i64.wrap (y1.tdiv 3) % 4)) && (kO3 [.ro 5 k0_z k0_f k0, .ro 5 k1_z k1_f k1, .ro 5 k2_z k2_f k2] && kIn (PV.child 0 (y9.getD (p_By % zi y9.length).toNat PV.top)).int) then bif kIn y4 && eOk (EV.mk (pu IntKind.u8 (dlB (DV.mk (PV.child 0 (y9.getD (p_By % zi y9.length).toNat PV.top)).int (PV.child (0 + 1) (y9.getD (p_By % zi y9.length).toNat PV.top)).int id y10 y11 2 [] (y1 % 3) (IntKind.i64.wrap (y1.tdiv 3) % 4)))) (pu IntKind.u8 (mcK (MK.mk [.ro 5 k0_z k0_f k0, .ro 5 k1_z k1_f k1, .ro 5 k2_z k2_f k2] (PV.child 0 (y9.getD (p_By % zi y9.length).toNat PV.top)).int (dlB (DV.mk (PV.child 0 (y9.getD (p_By % zi y9.length).toNat PV.top)).int (PV.child (0 + 1) (y9.getD (p_By % zi y9.length).toNat PV.top)).int id y10 y11 2 [] (y1 % 3) (IntKind.i64.wrap (y1.tdiv 3) % 4)))))) y10 []) && (h32 y11 && kO3 [.ro 5 k0_z k0_f k0, .ro 5 k1_z k1_f k1, .ro 5 k2_z k2_f k2]) then k (Res.mk (.st 93 [.st 77 [.ro 5 false false (pu IntKind.u8 (dlB (DV.mk (PV.child 0 (y9.getD (p_By % zi y9.length).toNat PV.top)).int (PV.child (0 + 1) (y9.getD (p_By % zi y9.length).toNat PV.top)).int id y10 y11 2 [] (y1 % 3) (IntKind.i64.wrap (y1.tdiv 3) % 4)))), .ar 37 (pu IntKind.u8 (mcK (MK.mk [.ro 5 k0_z k0_f k0, .ro 5 k1_z k1_f k1, .ro 5 k2_z k2_f k2] (PV.child 0 (y9.getD (p_By % zi y9.length).toNat PV.top)).int (dlB (DV.mk (PV.child 0 (y9.getD (p_By % zi y9.length).toNat PV.top)).int (PV.child (0 + 1) (y9.getD (p_By % zi y9.length).toNat PV.top)).int id y10 y11 2 [] (y1 % 3) (IntKind.i64.wrap (y1.tdiv 3) % 4))))))], .sc (.int .i64 y10), .ro 99 false false [], .ar 37 (pu IntKind.u8 (nxP (NX.mk y11 (EV.mk (pu IntKind.u8 (dlB (DV.mk (PV.child 0 (y9.getD (p_By % zi y9.length).toNat PV.top)).int (PV.child (0 + 1) (y9.getD (p_By % zi y9.length).toNat PV.top)).int id y10 y11 2 [] (y1 % 3) (IntKind.i64.wrap (y1.tdiv 3) % 4)))) (pu IntKind.u8 (mcK (MK.mk [.ro 5 k0_z k0_f k0, .ro 5 k1_z k1_f k1, .ro 5 k2_z k2_f k2] (PV.child 0 (y9.getD (p_By % zi y9.length).toNat PV.top)).int (dlB (DV.mk (PV.child 0 (y9.getD (p_By % zi y9.length).toNat PV.top)).int (PV.child (0 + 1) (y9.getD (p_By % zi y9.length).toNat PV.top)).int id y10 y11 2 [] (y1 % 3) (IntKind.i64.wrap (y1.tdiv 3) % 4)))))) y10 [])))), .ar 37 (pu IntKind.u8 (emP (EM.mk [.ro 5 k0_z k0_f k0, .ro 5 k1_z k1_f k1, .ro 5 k2_z k2_f k2] y4 (EV.mk (pu IntKind.u8 (dlB (DV.mk (PV.child 0 (y9.getD (p_By % zi y9.length).toNat PV.top)).int (PV.child (0 + 1) (y9.getD (p_By % zi y9.length).toNat PV.top)).int id y10 y11 2 [] (y1 % 3) (IntKind.i64.wrap (y1.tdiv 3) % 4)))) (pu IntKind.u8 (mcK (MK.mk [.ro 5 k0_z k0_f k0, .ro 5 k1_z k1_f k1, .ro 5 k2_z k2_f k2] (PV.child 0 (y9.getD (p_By % zi y9.length).toNat PV.top)).int (dlB (DV.mk (PV.child 0 (y9.getD (p_By % zi y9.length).toNat PV.top)).int (PV.child (0 + 1) (y9.getD (p_By % zi y9.length).toNat PV.top)).int id y10 y11 2 [] (y1 % 3) (IntKind.i64.wrap (y1.tdiv 3) % 4)))))) y10 []) (pu IntKind.u8 (nxP (NX.mk y11 (EV.mk (pu IntKind.u8 (dlB (DV.mk (PV.child 0 (y9.getD (p_By % zi y9.length).toNat PV.top)).int (PV.child (0 + 1) (y9.getD (p_By % zi y9.length).toNat PV.top)).int id y10 y11 2 [] (y1 % 3) (IntKind.i64.wrap (y1.tdiv 3) % 4)))) (pu IntKind.u8 (mcK (MK.mk [.ro 5 k0_z k0_f k0, .ro 5 k1_z k1_f k1, .ro 5 k2_z k2_f k2] (PV.child 0 (y9.getD (p_By % zi y9.length).toNat PV.top)).int (dlB (DV.mk (PV.child 0 (y9.getD (p_By % zi y9.length).toNat PV.top)).int (PV.child (0 + 1) (y9.getD (p_By % zi y9.length).toNat PV.top)).int id y10 y11 2 [] (y1 % 3) (IntKind.i64.wrap (y1.tdiv 3) % 4)))))) y10 [])))))))]) [] []) else none else none else none else none else bif y0 % 6 == 5 then bif okW 3 then bif okW 4 then bif dOk (DV.mk (PV.child 0 (y9.getD (p_By % zi y9.length).toNat PV.top)).int (PV.child (0 + 1) (y9.getD (p_By % zi y9.length).toNat PV.top)).int id y10 y11 3 [] (y1 % 3) (IntKind.i64.wrap (y1.tdiv 3) % 4)) && (kO3 [.ro 5 k0_z k0_f k0, .ro 5 k1_z k1_f k1, .ro 5 k2_z k2_f k2] && kIn (PV.child 0 (y9.getD (p_By % zi y9.length).toNat PV.top)).int) then bif kIn y4 && eOk (EV.mk (pu IntKind.u8 (dlB (DV.mk (PV.child 0 (y9.getD (p_By % zi y9.length).toNat PV.top)).int (PV.child (0 + 1) (y9.getD (p_By % zi y9.length).toNat PV.top)).int id y10 y11 3 [] (y1 % 3) (IntKind.i64.wrap (y1.tdiv 3) % 4)))) (pu IntKind.u8 (mcK (MK.mk [.ro 5 k0_z k0_f k0, .ro 5 k1_z k1_f k1, .ro 5 k2_z k2_f k2] (PV.child 0 (y9.getD (p_By % zi y9.length).toNat PV.top)).int (dlB (DV.mk (PV.child 0 (y9.getD (p_By % zi y9.length).toNat PV.top)).int (PV.child (0 + 1) (y9.getD (p_By % zi y9.length).toNat PV.top)).int id y10 y11 3 [] (y1 % 3) (IntKind.i64.wrap (y1.tdiv 3) % 4)))))) y10 []) && (h32 y11 && kO3 [.ro 5 k0_z k0_f k0, .ro 5 k1_z k1_f k1, .ro 5 k2_z k2_f k2]) then k (Res.mk (.st 93 [.st 77 [.ro 5 false false (pu IntKind.u8 (dlB (DV.mk (PV.child 0 (y9.getD (p_By % zi y9.length).toNat PV.top)).int (PV.child (0 + 1) (y9.getD (p_By % zi y9.length).toNat PV.top)).int id y10 y11 3 [] (y1 % 3) (IntKind.i64.wrap (y1.tdiv 3) % 4)))), .ar 37 (pu IntKind.u8 (mcK (MK.mk [.ro 5 k0_z k0_f k0, .ro 5 k1_z k1_f k1, .ro 5 k2_z k2_f k2] (PV.child 0 (y9.getD (p_By % zi y9.length).toNat PV.top)).int (dlB (DV.mk (PV.child 0 (y9.getD (p_By % zi y9.length).toNat PV.top)).int (PV.child (0 + 1) (y9.getD (p_By % zi y9.length).toNat PV.top)).int id y10 y11 3 [] (y1 % 3) (IntKind.i64.wrap (y1.tdiv 3) % 4))))))], .sc (.int .i64 y10), .ro 99 false false [], .ar 37 (pu IntKind.u8 (nxP (NX.mk y11 (EV.mk (pu IntKind.u8 (dlB (DV.mk (PV.child 0 (y9.getD (p_By % zi y9.length).toNat PV.top)).int (PV.child (0 + 1) (y9.getD (p_By % zi y9.length).toNat PV.top)).int id y10 y11 3 [] (y1 % 3) (IntKind.i64.wrap (y1.tdiv 3) % 4)))) (pu IntKind.u8 (mcK (MK.mk [.ro 5 k0_z k0_f k0, .ro 5 k1_z k1_f k1, .ro 5 k2_z k2_f k2] (PV.child 0 (y9.getD (p_By % zi y9.length).toNat PV.top)).int (dlB (DV.mk (PV.child 0 (y9.getD (p_By % zi y9.length).toNat PV.top)).int (PV.child (0 + 1) (y9.getD (p_By % zi y9.length).toNat PV.top)).int id y10 y11 3 [] (y1 % 3) (IntKind.i64.wrap (y1.tdiv 3) % 4)))))) y10 [])))), .ar 37 (pu IntKind.u8 (emP (EM.mk [.ro 5 k0_z k0_f k0, .ro 5 k1_z k1_f k1, .ro 5 k2_z k2_f k2] y4 (EV.mk (pu IntKind.u8 (dlB (DV.mk (PV.child 0 (y9.getD (p_By % zi y9.length).toNat PV.top)).int (PV.child (0 + 1) (y9.getD (p_By % zi y9.length).toNat PV.top)).int id y10 y11 3 [] (y1 % 3) (IntKind.i64.wrap (y1.tdiv 3) % 4)))) (pu IntKind.u8 (mcK (MK.mk [.ro 5 k0_z k0_f k0, .ro 5 k1_z k1_f k1, .ro 5 k2_z k2_f k2] (PV.child 0 (y9.getD (p_By % zi y9.length).toNat PV.top)).int (dlB (DV.mk (PV.child 0 (y9.getD (p_By % zi y9.length).toNat PV.top)).int (PV.child (0 + 1) (y9.getD (p_By % zi y9.length).toNat PV.top)).int id y10 y11 3 [] (y1 % 3) (IntKind.i64.wrap (y1.tdiv 3) % 4)))))) y10 []) (pu IntKind.u8 (nxP (NX.mk y11 (EV.mk (pu IntKind.u8 (dlB (DV.mk (PV.child 0 (y9.getD (p_By % zi y9.length).toNat PV.top)).int (PV.child (0 + 1) (y9.getD (p_By % zi y9.length).toNat PV.top)).int id y10 y11 3 [] (y1 % 3) (IntKind.i64.wrap (y1.tdiv 3) % 4)))) (pu IntKind.u8 (mcK (MK.mk [.ro 5 k0_z k0_f k0, .ro 5 k1_z k1_f k1, .ro 5 k2_z k2_f k2] (PV.child 0 (y9.getD (p_By % zi y9.length).toNat PV.top)).int (dlB (DV.mk (PV.child 0 (y9.getD (p_By % zi y9.length).toNat PV.top)).int (PV.child (0 + 1) (y9.getD (p_By % zi y9.length).toNat PV.top)).int id y10 y11 3 [] (y1 % 3) (IntKind.i64.wrap (y1.tdiv 3) % 4)))))) y10 [])))))))]) [] []) else none else none else none else none else bif Jez (zi y6.size) p_Ns then bif dOk (DV.mk (PV.child 0 (y9.getD (p_By % zi y9.length).toNat PV.top)).int (PV.child (0 + 1) (y9.getD (p_By % zi y9.length).toNat PV.top)).int id y10 y11 1 (JI (MN.mk (zi y6.size) p_Ns)) 0 0) && (kO3 [.ro 5 k0_z k0_f k0, .ro 5 k1_z k1_f k1, .ro 5 k2_z k2_f k2] && kIn (PV.child 0 (y9.getD (p_By % zi y9.length).toNat PV.top)).int) then bif kIn y4 && eOk (EV.mk (pu IntKind.u8 (dlB (DV.mk (PV.child 0 (y9.getD (p_By % zi y9.length).toNat PV.top)).int (PV.child (0 + 1) (y9.getD (p_By % zi y9.length).toNat PV.top)).int id y10 y11 1 (JI (MN.mk (zi y6.size) p_Ns)) 0 0))) (pu IntKind.u8 (mcK (MK.mk [.ro 5 k0_z k0_f k0, .ro 5 k1_z k1_f k1, .ro 5 k2_z k2_f k2] (PV.child 0 (y9.getD (p_By % zi y9.length).toNat PV.top)).int (dlB (DV.mk (PV.child 0 (y9.getD (p_By % zi y9.length).toNat PV.top)).int (PV.child (0 + 1) (y9.getD (p_By % zi y9.length).toNat PV.top)).int id y10 y11 1 (JI (MN.mk (zi y6.size) p_Ns)) 0 0))))) y10 (JI (MN.mk (zi y6.size) p_Ns))) && (h32 y11 && kO3 [.ro 5 k0_z k0_f k0, .ro 5 k1_z k1_f k1, .ro 5 k2_z k2_f k2]) then k (Res.mk (.st 93 [.st 77 [.ro 5 false false (pu IntKind.u8 (dlB (DV.mk (PV.child 0 (y9.getD (p_By % zi y9.length).toNat PV.top)).int (PV.child (0 + 1) (y9.getD (p_By % zi y9.length).toNat PV.top)).int id y10 y11 1 (JI (MN.mk (zi y6.size) p_Ns)) 0 0))), .ar 37 (pu IntKind.u8 (mcK (MK.mk [.ro 5 k0_z k0_f k0, .ro 5 k1_z k1_f k1, .ro 5 k2_z k2_f k2] (PV.child 0 (y9.getD (p_By % zi y9.length).toNat PV.top)).int (dlB (DV.mk (PV.child 0 (y9.getD (p_By % zi y9.length).toNat PV.top)).int (PV.child (0 + 1) (y9.getD (p_By % zi y9.length).toNat PV.top)).int id y10 y11 1 (JI (MN.mk (zi y6.size) p_Ns)) 0 0)))))], .sc (.int .i64 y10), .ro 99 false false (JI (MN.mk (zi y6.size) p_Ns)), .ar 37 (pu IntKind.u8 (nxP (NX.mk y11 (EV.mk (pu IntKind.u8 (dlB (DV.mk (PV.child 0 (y9.getD (p_By % zi y9.length).toNat PV.top)).int (PV.child (0 + 1) (y9.getD (p_By % zi y9.length).toNat PV.top)).int id y10 y11 1 (JI (MN.mk (zi y6.size) p_Ns)) 0 0))) (pu IntKind.u8 (mcK (MK.mk [.ro 5 k0_z k0_f k0, .ro 5 k1_z k1_f k1, .ro 5 k2_z k2_f k2] (PV.child 0 (y9.getD (p_By % zi y9.length).toNat PV.top)).int (dlB (DV.mk (PV.child 0 (y9.getD (p_By % zi y9.length).toNat PV.top)).int (PV.child (0 + 1) (y9.getD (p_By % zi y9.length).toNat PV.top)).int id y10 y11 1 (JI (MN.mk (zi y6.size) p_Ns)) 0 0))))) y10 (JI (MN.mk (zi y6.size) p_Ns)))))), .ar 37 (pu IntKind.u8 (emP (EM.mk [.ro 5 k0_z k0_f k0, .ro 5 k1_z k1_f k1, .ro 5 k2_z k2_f k2] y4 (EV.mk (pu IntKind.u8 (dlB (DV.mk (PV.child 0 (y9.getD (p_By % zi y9.length).toNat PV.top)).int (PV.child (0 + 1) (y9.getD (p_By % zi y9.length).toNat PV.top)).int id y10 y11 1 (JI (MN.mk (zi y6.size) p_Ns)) 0 0))) (pu IntKind.u8 (mcK (MK.mk [.ro 5 k0_z k0_f k0, .ro 5 k1_z k1_f k1, .ro 5 k2_z k2_f k2] (PV.child 0 (y9.getD (p_By % zi y9.length).toNat PV.top)).int (dlB (DV.mk (PV.child 0 (y9.getD (p_By % zi y9.length).toNat PV.top)).int (PV.child (0 + 1) (y9.getD (p_By % zi y9.length).toNat PV.top)).int id y10 y11 1 (JI (MN.mk (zi y6.size) p_Ns)) 0 0))))) y10 (JI (MN.mk (zi y6.size) p_Ns))) (pu IntKind.u8 (nxP (NX.mk y11 (EV.mk (pu IntKind.u8 (dlB (DV.mk (PV.child 0 (y9.getD (p_By % zi y9.length).toNat PV.top)).int (PV.child (0 + 1) (y9.getD (p_By % zi y9.length).toNat PV.top)).int id y10 y11 1 (JI (MN.mk (zi y6.size) p_Ns)) 0 0))) (pu IntKind.u8 (mcK (MK.mk [.ro 5 k0_z k0_f k0, .ro 5 k1_z k1_f k1, .ro 5 k2_z k2_f k2] (PV.child 0 (y9.getD (p_By % zi y9.length).toNat PV.top)).int (dlB (DV.mk (PV.child 0 (y9.getD (p_By % zi y9.length).toNat PV.top)).int (PV.child (0 + 1) (y9.getD (p_By % zi y9.length).toNat PV.top)).int id y10 y11 1 (JI (MN.mk (zi y6.size) p_Ns)) 0 0))))) y10 (JI (MN.mk (zi y6.size) p_Ns)))))))))]) [] []) else none else none else none else none else none else none else bif okW 6 then bif y0 % 6 == 4 then bif okW 3 then bif okW 4 then bif dOk (DV.mk (p_By % 3) (IntKind.i64.wrap (p_By.tdiv 3) % 4) id y10 y11 2 [] (y1 % 3) (IntKind.i64.wrap (y1.tdiv 3) % 4)) && (kO3 [.ro 5 k0_z k0_f k0, .ro 5 k1_z k1_f k1, .ro 5 k2_z k2_f k2] && kIn (p_By % 3)) then bif kIn y4 && eOk (EV.mk (pu IntKind.u8 (dlB (DV.mk (p_By % 3) (IntKind.i64.wrap (p_By.tdiv 3) % 4) id y10 y11 2 [] (y1 % 3) (IntKind.i64.wrap (y1.tdiv 3) % 4)))) (pu IntKind.u8 (mcK (MK.mk [.ro 5 k0_z k0_f k0, .ro 5 k1_z k1_f k1, .ro 5 k2_z k2_f k2] (p_By % 3) (dlB (DV.mk (p_By % 3) (IntKind.i64.wrap (p_By.tdiv 3) % 4) id y10 y11 2 [] (y1 % 3) (IntKind.i64.wrap (y1.tdiv 3) % 4)))))) y10 []) && (h32 y11 && kO3 [.ro 5 k0_z k0_f k0, .ro 5 k1_z k1_f k1, .ro 5 k2_z k2_f k2]) then k (Res.mk (.st 93 [.st 77 [.ro 5 false false (pu IntKind.u8 (dlB (DV.mk (p_By % 3) (IntKind.i64.wrap (p_By.tdiv 3) % 4) id y10 y11 2 [] (y1 % 3) (IntKind.i64.wrap (y1.tdiv 3) % 4)))), .ar 37 (pu IntKind.u8 (mcK (MK.mk [.ro 5 k0_z k0_f k0, .ro 5 k1_z k1_f k1, .ro 5 k2_z k2_f k2] (p_By % 3) (dlB (DV.mk (p_By % 3) (IntKind.i64.wrap (p_By.tdiv 3) % 4) id y10 y11 2 [] (y1 % 3) (IntKind.i64.wrap (y1.tdiv 3) % 4))))))], .sc (.int .i64 y10), .ro 99 false false [], .ar 37 (pu IntKind.u8 (nxP (NX.mk y11 (EV.mk (pu IntKind.u8 (dlB (DV.mk (p_By % 3) (IntKind.i64.wrap (p_By.tdiv 3) % 4) id y10 y11 2 [] (y1 % 3) (IntKind.i64.wrap (y1.tdiv 3) % 4)))) (pu IntKind.u8 (mcK (MK.mk [.ro 5 k0_z k0_f k0, .ro 5 k1_z k1_f k1, .ro 5 k2_z k2_f k2] (p_By % 3) (dlB (DV.mk (p_By % 3) (IntKind.i64.wrap (p_By.tdiv 3) % 4) id y10 y11 2 [] (y1 % 3) (IntKind.i64.wrap (y1.tdiv 3) % 4)))))) y10 [])))), .ar 37 (pu IntKind.u8 (emP (EM.mk [.ro 5 k0_z k0_f k0, .ro 5 k1_z k1_f k1, .ro 5 k2_z k2_f k2] y4 (EV.mk (pu IntKind.u8 (dlB (DV.mk (p_By % 3) (IntKind.i64.wrap (p_By.tdiv 3) % 4) id y10 y11 2 [] (y1 % 3) (IntKind.i64.wrap (y1.tdiv 3) % 4)))) (pu IntKind.u8 (mcK (MK.mk [.ro 5 k0_z k0_f k0, .ro 5 k1_z k1_f k1, .ro 5 k2_z k2_f k2] (p_By % 3) (dlB (DV.mk (p_By % 3) (IntKind.i64.wrap (p_By.tdiv 3) % 4) id y10 y11 2 [] (y1 % 3) (IntKind.i64.wrap (y1.tdiv 3) % 4)))))) y10 []) (pu IntKind.u8 (nxP (NX.mk y11 (EV.mk (pu IntKind.u8 (dlB (DV.mk (p_By % 3) (IntKind.i64.wrap (p_By.tdiv 3) % 4) id y10 y11 2 [] (y1 % 3) (IntKind.i64.wrap (y1.tdiv 3) % 4)))) (pu IntKind.u8 (mcK (MK.mk [.ro 5 k0_z k0_f k0, .ro 5 k1_z k1_f k1, .ro 5 k2_z k2_f k2] (p_By % 3) (dlB (DV.mk (p_By % 3) (IntKind.i64.wrap (p_By.tdiv 3) % 4) id y10 y11 2 [] (y1 % 3) (IntKind.i64.wrap (y1.tdiv 3) % 4)))))) y10 [])))))))]) [] []) else none else none else none else none else bif y0 % 6 == 5 then bif okW 3 then bif okW 4 then bif dOk (DV.mk (p_By % 3) (IntKind.i64.wrap (p_By.tdiv 3) % 4) id y10 y11 3 [] (y1 % 3) (IntKind.i64.wrap (y1.tdiv 3) % 4)) && (kO3 [.ro 5 k0_z k0_f k0, .ro 5 k1_z k1_f k1, .ro 5 k2_z k2_f k2] && kIn (p_By % 3)) then bif kIn y4 && eOk (EV.mk (pu IntKind.u8 (dlB (DV.mk (p_By % 3) (IntKind.i64.wrap (p_By.tdiv 3) % 4) id y10 y11 3 [] (y1 % 3) (IntKind.i64.wrap (y1.tdiv 3) % 4)))) (pu IntKind.u8 (mcK (MK.mk [.ro 5 k0_z k0_f k0, .ro 5 k1_z k1_f k1, .ro 5 k2_z k2_f k2] (p_By % 3) (dlB (DV.mk (p_By % 3) (IntKind.i64.wrap (p_By.tdiv 3) % 4) id y10 y11 3 [] (y1 % 3) (IntKind.i64.wrap (y1.tdiv 3) % 4)))))) y10 []) && (h32 y11 && kO3 [.ro 5 k0_z k0_f k0, .ro 5 k1_z k1_f k1, .ro 5 k2_z k2_f k2]) then k (Res.mk (.st 93 [.st 77 [.ro 5 false false (pu IntKind.u8 (dlB (DV.mk (p_By % 3) (IntKind.i64.wrap (p_By.tdiv 3) % 4) id y10 y11 3 [] (y1 % 3) (IntKind.i64.wrap (y1.tdiv 3) % 4)))), .ar 37 (pu IntKind.u8 (mcK (MK.mk [.ro 5 k0_z k0_f k0, .ro 5 k1_z k1_f k1, .ro 5 k2_z k2_f k2] (p_By % 3) (dlB (DV.mk (p_By % 3) (IntKind.i64.wrap (p_By.tdiv 3) % 4) id y10 y11 3 [] (y1 % 3) (IntKind.i64.wrap (y1.tdiv 3) % 4))))))], .sc (.int .i64 y10), .ro 99 false false [], .ar 37 (pu IntKind.u8 (nxP (NX.mk y11 (EV.mk (pu IntKind.u8 (dlB (DV.mk (p_By % 3) (IntKind.i64.wrap (p_By.tdiv 3) % 4) id y10 y11 3 [] (y1 % 3) (IntKind.i64.wrap (y1.tdiv 3) % 4)))) (pu IntKind.u8 (mcK (MK.mk [.ro 5 k0_z k0_f k0, .ro 5 k1_z k1_f k1, .ro 5 k2_z k2_f k2] (p_By % 3) (dlB (DV.mk (p_By % 3) (IntKind.i64.wrap (p_By.tdiv 3) % 4) id y10 y11 3 [] (y1 % 3) (IntKind.i64.wrap (y1.tdiv 3) % 4)))))) y10 [])))), .ar 37 (pu IntKind.u8 (emP (EM.mk [.ro 5 k0_z k0_f k0, .ro 5 k1_z k1_f k1, .ro 5 k2_z k2_f k2] y4 (EV.mk (pu IntKind.u8 (dlB (DV.mk (p_By % 3) (IntKind.i64.wrap (p_By.tdiv 3) % 4) id y10 y11 3 [] (y1 % 3) (IntKind.i64.wrap (y1.tdiv 3) % 4)))) (pu IntKind.u8 (mcK (MK.mk [.ro 5 k0_z k0_f k0, .ro 5 k1_z k1_f k1, .ro 5 k2_z k2_f k2] (p_By % 3) (dlB (DV.mk (p_By % 3) (IntKind.i64.wrap (p_By.tdiv 3) % 4) id y10 y11 3 [] (y1 % 3) (IntKind.i64.wrap (y1.tdiv 3) % 4)))))) y10 []) (pu IntKind.u8 (nxP (NX.mk y11 (EV.mk (pu IntKind.u8 (dlB (DV.mk (p_By % 3) (IntKind.i64.wrap (p_By.tdiv 3) % 4) id y10 y11 3 [] (y1 % 3) (IntKind.i64.wrap (y1.tdiv 3) % 4)))) (pu IntKind.u8 (mcK (MK.mk [.ro 5 k0_z k0_f k0, .ro 5 k1_z k1_f k1, .ro 5 k2_z k2_f k2] (p_By % 3) (dlB (DV.mk (p_By % 3) (IntKind.i64.wrap (p_By.tdiv 3) % 4) id y10 y11 3 [] (y1 % 3) (IntKind.i64.wrap (y1.tdiv 3) % 4)))))) y10 [])))))))]) [] []) else none else none else none else none else bif Jez (zi y6.size) p_Ns then bif dOk (DV.mk (p_By % 3) (IntKind.i64.wrap (p_By.tdiv 3) % 4) id y10 y11 1 (JI (MN.mk (zi y6.size) p_Ns)) 0 0) && (kO3 [.ro 5 k0_z k0_f k0, .ro 5 k1_z k1_f k1, .ro 5 k2_z k2_f k2] && kIn (p_By % 3)) then bif kIn y4 && eOk (EV.mk (pu IntKind.u8 (dlB (DV.mk (p_By % 3) (IntKind.i64.wrap (p_By.tdiv 3) % 4) id y10 y11 1 (JI (MN.mk (zi y6.size) p_Ns)) 0 0))) (pu IntKind.u8 (mcK (MK.mk [.ro 5 k0_z k0_f k0, .ro 5 k1_z k1_f k1, .ro 5 k2_z k2_f k2] (p_By % 3) (dlB (DV.mk (p_By % 3) (IntKind.i64.wrap (p_By.tdiv 3) % 4) id y10 y11 1 (JI (MN.mk (zi y6.size) p_Ns)) 0 0))))) y10 (JI (MN.mk (zi y6.size) p_Ns))) && (h32 y11 && kO3 [.ro 5 k0_z k0_f k0, .ro 5 k1_z k1_f k1, .ro 5 k2_z k2_f k2]) then k (Res.mk (.st 93 [.st 77 [.ro 5 false false (pu IntKind.u8 (dlB (DV.mk (p_By % 3) (IntKind.i64.wrap (p_By.tdiv 3) % 4) id y10 y11 1 (JI (MN.mk (zi y6.size) p_Ns)) 0 0))), .ar 37 (pu IntKind.u8 (mcK (MK.mk [.ro 5 k0_z k0_f k0, .ro 5 k1_z k1_f k1, .ro 5 k2_z k2_f k2] (p_By % 3) (dlB (DV.mk (p_By % 3) (IntKind.i64.wrap (p_By.tdiv 3) % 4) id y10 y11 1 (JI (MN.mk (zi y6.size) p_Ns)) 0 0)))))], .sc (.int .i64 y10), .ro 99 false false (JI (MN.mk (zi y6.size) p_Ns)), .ar 37 (pu IntKind.u8 (nxP (NX.mk y11 (EV.mk (pu IntKind.u8 (dlB (DV.mk (p_By % 3) (IntKind.i64.wrap (p_By.tdiv 3) % 4) id y10 y11 1 (JI (MN.mk (zi y6.size) p_Ns)) 0 0))) (pu IntKind.u8 (mcK (MK.mk [.ro 5 k0_z k0_f k0, .ro 5 k1_z k1_f k1, .ro 5 k2_z k2_f k2] (p_By % 3) (dlB (DV.mk (p_By % 3) (IntKind.i64.wrap (p_By.tdiv 3) % 4) id y10 y11 1 (JI (MN.mk (zi y6.size) p_Ns)) 0 0))))) y10 (JI (MN.mk (zi y6.size) p_Ns)))))), .ar 37 (pu IntKind.u8 (emP (EM.mk [.ro 5 k0_z k0_f k0, .ro 5 k1_z k1_f k1, .ro 5 k2_z k2_f k2] y4 (EV.mk (pu IntKind.u8 (dlB (DV.mk (p_By % 3) (IntKind.i64.wrap (p_By.tdiv 3) % 4) id y10 y11 1 (JI (MN.mk (zi y6.size) p_Ns)) 0 0))) (pu IntKind.u8 (mcK (MK.mk [.ro 5 k0_z k0_f k0, .ro 5 k1_z k1_f k1, .ro 5 k2_z k2_f k2] (p_By % 3) (dlB (DV.mk (p_By % 3) (IntKind.i64.wrap (p_By.tdiv 3) % 4) id y10 y11 1 (JI (MN.mk (zi y6.size) p_Ns)) 0 0))))) y10 (JI (MN.mk (zi y6.size) p_Ns))) (pu IntKind.u8 (nxP (NX.mk y11 (EV.mk (pu IntKind.u8 (dlB (DV.mk (p_By % 3) (IntKind.i64.wrap (p_By.tdiv 3) % 4) id y10 y11 1 (JI (MN.mk (zi y6.size) p_Ns)) 0 0))) (pu IntKind.u8 (mcK (MK.mk [.ro 5 k0_z k0_f k0, .ro 5 k1_z k1_f k1, .ro 5 k2_z k2_f k2] (p_By % 3) (dlB (DV.mk (p_By % 3) (IntKind.i64.wrap (p_By.tdiv 3) % 4) id y10 y11 1 (JI (MN.mk (zi y6.size) p_Ns)) 0 0))))) y10 (JI (MN.mk (zi y6.size) p_Ns)))))))))]) [] []) else none else none else none else none else none else bif okW 6 then bif y0 % 6 == 4 then bif okW 3 then bif okW 4 then bif dOk (DV.mk (p_By % 3) (IntKind.i64.wrap (p_By.tdiv 3) % 4) id y10 y11 2 [] (y1 % 3) (IntKind.i64.wrap (y1.tdiv 3) % 4)) && (kO3 [.ro 5 k0_z k0_f k0, .ro 5 k1_z k1_f k1, .ro 5 k2_z k2_f k2] && kIn (p_By % 3)) then bif kIn y4 && eOk (EV.mk (pu IntKind.u8 (dlB (DV.mk (p_By % 3) (IntKind.i64.wrap (p_By.tdiv 3) % 4) id y10 y11 2 [] (y1 % 3) (IntKind.i64.wrap (y1.tdiv 3) % 4)))) (pu IntKind.u8 (mcK (MK.mk [.ro 5 k0_z k0_f k0, .ro 5 k1_z k1_f k1, .ro 5 k2_z k2_f k2] (p_By % 3) (dlB (DV.mk (p_By % 3) (IntKind.i64.wrap (p_By.tdiv 3) % 4) id y10 y11 2 [] (y1 % 3) (IntKind.i64.wrap (y1.tdiv 3) % 4)))))) y10 []) && (h32 y11 && kO3 [.ro 5 k0_z k0_f k0, .ro 5 k1_z k1_f k1, .ro 5 k2_z k2_f k2]) then k (Res.mk (.st 93 [.st 77 [.ro 5 false false (pu IntKind.u8 (dlB (DV.mk (p_By % 3) (IntKind.i64.wrap (p_By.tdiv 3) % 4) id y10 y11 2 [] (y1 % 3) (IntKind.i64.wrap (y1.tdiv 3) % 4)))), .ar 37 (pu IntKind.u8 (mcK (MK.mk [.ro 5 k0_z k0_f k0, .ro 5 k1_z k1_f k1, .ro 5 k2_z k2_f k2] (p_By % 3) (dlB (DV.mk (p_By % 3) (IntKind.i64.wrap (p_By.tdiv 3) % 4) id y10 y11 2 [] (y1 % 3) (IntKind.i64.wrap (y1.tdiv 3) % 4))))))], .sc (.int .i64 y10), .ro 99 false false [], .ar 37 (pu IntKind.u8 (nxP (NX.mk y11 (EV.mk (pu IntKind.u8 (dlB (DV.mk (p_By % 3) (IntKind.i64.wrap (p_By.tdiv 3) % 4) id y10 y11 2 [] (y1 % 3) (IntKind.i64.wrap (y1.tdiv 3) % 4)))) (pu IntKind.u8 (mcK (MK.mk [.ro 5 k0_z k0_f k0, .ro 5 k1_z k1_f k1, .ro 5 k2_z k2_f k2] (p_By % 3) (dlB (DV.mk (p_By % 3) (IntKind.i64.wrap (p_By.tdiv 3) % 4) id y10 y11 2 [] (y1 % 3) (IntKind.i64.wrap (y1.tdiv 3) % 4)))))) y10 [])))), .ar 37 (pu IntKind.u8 (emP (EM.mk [.ro 5 k0_z k0_f k0, .ro 5 k1_z k1_f k1, .ro 5 k2_z k2_f k2] y4 (EV.mk (pu IntKind.u8 (dlB (DV.mk (p_By % 3) (IntKind.i64.wrap (p_By.tdiv 3) % 4) id y10 y11 2 [] (y1 % 3) (IntKind.i64.wrap (y1.tdiv 3) % 4)))) (pu IntKind.u8 (mcK (MK.mk [.ro 5 k0_z k0_f k0, .ro 5 k1_z k1_f k1, .ro 5 k2_z k2_f k2] (p_By % 3) (dlB (DV.mk (p_By % 3) (IntKind.i64.wrap (p_By.tdiv 3) % 4) id y10 y11 2 [] (y1 % 3) (IntKind.i64.wrap (y1.tdiv 3) % 4)))))) y10 []) (pu IntKind.u8 (nxP (NX.mk y11 (EV.mk (pu IntKind.u8 (dlB (DV.mk (p_By % 3) (IntKind.i64.wrap (p_By.tdiv 3) % 4) id y10 y11 2 [] (y1 % 3) (IntKind.i64.wrap (y1.tdiv 3) % 4)))) (pu IntKind.u8 (mcK (MK.mk [.ro 5 k0_z k0_f k0, .ro 5 k1_z k1_f k1, .ro 5 k2_z k2_f k2] (p_By % 3) (dlB (DV.mk (p_By % 3) (IntKind.i64.wrap (p_By.tdiv 3) % 4) id y10 y11 2 [] (y1 % 3) (IntKind.i64.wrap (y1.tdiv 3) % 4)))))) y10 [])))))))]) [] []) else none else none else none else none else bif y0 % 6 == 5 then bif okW 3 then bif okW 4 then bif dOk (DV.mk (p_By % 3) (IntKind.i64.wrap (p_By.tdiv 3) % 4) id y10 y11 3 [] (y1 % 3) (IntKind.i64.wrap (y1.tdiv 3) % 4)) && (kO3 [.ro 5 k0_z k0_f k0, .ro 5 k1_z k1_f k1, .ro 5 k2_z k2_f k2] && kIn (p_By % 3)) then bif kIn y4 && eOk (EV.mk (pu IntKind.u8 (dlB (DV.mk (p_By % 3) (IntKind.i64.wrap (p_By.tdiv 3) % 4) id y10 y11 3 [] (y1 % 3) (IntKind.i64.wrap (y1.tdiv 3) % 4)))) (pu IntKind.u8 (mcK (MK.mk [.ro 5 k0_z k0_f k0, .ro 5 k1_z k1_f k1, .ro 5 k2_z k2_f k2] (p_By % 3) (dlB (DV.mk (p_By % 3) (IntKind.i64.wrap (p_By.tdiv 3) % 4) id y10 y11 3 [] (y1 % 3) (IntKind.i64.wrap (y1.tdiv 3) % 4)))))) y10 []) && (h32 y11 && kO3 [.ro 5 k0_z k0_f k0, .ro 5 k1_z k1_f k1, .ro 5 k2_z k2_f k2]) then k (Res.mk (.st 93 [.st 77 [.ro 5 false false (pu IntKind.u8 (dlB (DV.mk (p_By % 3) (IntKind.i64.wrap (p_By.tdiv 3) % 4) id y10 y11 3 [] (y1 % 3) (IntKind.i64.wrap (y1.tdiv 3) % 4)))), .ar 37 (pu IntKind.u8 (mcK (MK.mk [.ro 5 k0_z k0_f k0, .ro 5 k1_z k1_f k1, .ro 5 k2_z k2_f k2] (p_By % 3) (dlB (DV.mk (p_By % 3) (IntKind.i64.wrap (p_By.tdiv 3) % 4) id y10 y11 3 [] (y1 % 3) (IntKind.i64.wrap (y1.tdiv 3) % 4))))))], .sc (.int .i64 y10), .ro 99 false false [], .ar 37 (pu IntKind.u8 (nxP (NX.mk y11 (EV.mk (pu IntKind.u8 (dlB (DV.mk (p_By % 3) (IntKind.i64.wrap (p_By.tdiv 3) % 4) id y10 y11 3 [] (y1 % 3) (IntKind.i64.wrap (y1.tdiv 3) % 4)))) (pu IntKind.u8 (mcK (MK.mk [.ro 5 k0_z k0_f k0, .ro 5 k1_z k1_f k1, .ro 5 k2_z k2_f k2] (p_By % 3) (dlB (DV.mk (p_By % 3) (IntKind.i64.wrap (p_By.tdiv 3) % 4) id y10 y11 3 [] (y1 % 3) (IntKind.i64.wrap (y1.tdiv 3) % 4)))))) y10 [])))), .ar 37 (pu IntKind.u8 (emP (EM.mk [.ro 5 k0_z k0_f k0, .ro 5 k1_z k1_f k1, .ro 5 k2_z k2_f k2] y4 (EV.mk (pu IntKind.u8 (dlB (DV.mk (p_By % 3) (IntKind.i64.wrap (p_By.tdiv 3) % 4) id y10 y11 3 [] (y1 % 3) (IntKind.i64.wrap (y1.tdiv 3) % 4)))) (pu IntKind.u8 (mcK (MK.mk [.ro 5 k0_z k0_f k0, .ro 5 k1_z k1_f k1, .ro 5 k2_z k2_f k2] (p_By % 3) (dlB (DV.mk (p_By % 3) (IntKind.i64.wrap (p_By.tdiv 3) % 4) id y10 y11 3 [] (y1 % 3) (IntKind.i64.wrap (y1.tdiv 3) % 4)))))) y10 []) (pu IntKind.u8 (nxP (NX.mk y11 (EV.mk (pu IntKind.u8 (dlB (DV.mk (p_By % 3) (IntKind.i64.wrap (p_By.tdiv 3) % 4) id y10 y11 3 [] (y1 % 3) (IntKind.i64.wrap (y1.tdiv 3) % 4)))) (pu IntKind.u8 (mcK (MK.mk [.ro 5 k0_z k0_f k0, .ro 5 k1_z k1_f k1, .ro 5 k2_z k2_f k2] (p_By % 3) (dlB (DV.mk (p_By % 3) (IntKind.i64.wrap (p_By.tdiv 3) % 4) id y10 y11 3 [] (y1 % 3) (IntKind.i64.wrap (y1.tdiv 3) % 4)))))) y10 [])))))))]) [] []) else none else none else none else none else bif Jez (zi y6.size) p_Ns then bif dOk (DV.mk (p_By % 3) (IntKind.i64.wrap (p_By.tdiv 3) % 4) id y10 y11 1 (JI (MN.mk (zi y6.size) p_Ns)) 0 0) && (kO3 [.ro 5 k0_z k0_f k0, .ro 5 k1_z k1_f k1, .ro 5 k2_z k2_f k2] && kIn (p_By % 3)) then bif kIn y4 && eOk (EV.mk (pu IntKind.u8 (dlB (DV.mk (p_By % 3) (IntKind.i64.wrap (p_By.tdiv 3) % 4) id y10 y11 1 (JI (MN.mk (zi y6.size) p_Ns)) 0 0))) (pu IntKind.u8 (mcK (MK.mk [.ro 5 k0_z k0_f k0, .ro 5 k1_z k1_f k1, .ro 5 k2_z k2_f k2] (p_By % 3) (dlB (DV.mk (p_By % 3) (IntKind.i64.wrap (p_By.tdiv 3) % 4) id y10 y11 1 (JI (MN.mk (zi y6.size) p_Ns)) 0 0))))) y10 (JI (MN.mk (zi y6.size) p_Ns))) && (h32 y11 && kO3 [.ro 5 k0_z k0_f k0, .ro 5 k1_z k1_f k1, .ro 5 k2_z k2_f k2]) then k (Res.mk (.st 93 [.st 77 [.ro 5 false false (pu IntKind.u8 (dlB (DV.mk (p_By % 3) (IntKind.i64.wrap (p_By.tdiv 3) % 4) id y10 y11 1 (JI (MN.mk (zi y6.size) p_Ns)) 0 0))), .ar 37 (pu IntKind.u8 (mcK (MK.mk [.ro 5 k0_z k0_f k0, .ro 5 k1_z k1_f k1, .ro 5 k2_z k2_f k2] (p_By % 3) (dlB (DV.mk (p_By % 3) (IntKind.i64.wrap (p_By.tdiv 3) % 4) id y10 y11 1 (JI (MN.mk (zi y6.size) p_Ns)) 0 0)))))], .sc (.int .i64 y10), .ro 99 false false (JI (MN.mk (zi y6.size) p_Ns)), .ar 37 (pu IntKind.u8 (nxP (NX.mk y11 (EV.mk (pu IntKind.u8 (dlB (DV.mk (p_By % 3) (IntKind.i64.wrap (p_By.tdiv 3) % 4) id y10 y11 1 (JI (MN.mk (zi y6.size) p_Ns)) 0 0))) (pu IntKind.u8 (mcK (MK.mk [.ro 5 k0_z k0_f k0, .ro 5 k1_z k1_f k1, .ro 5 k2_z k2_f k2] (p_By % 3) (dlB (DV.mk (p_By % 3) (IntKind.i64.wrap (p_By.tdiv 3) % 4) id y10 y11 1 (JI (MN.mk (zi y6.size) p_Ns)) 0 0))))) y10 (JI (MN.mk (zi y6.size) p_Ns)))))), .ar 37 (pu IntKind.u8 (emP (EM.mk [.ro 5 k0_z k0_f k0, .ro 5 k1_z k1_f k1, .ro 5 k2_z k2_f k2] y4 (EV.mk (pu IntKind.u8 (dlB (DV.mk (p_By % 3) (IntKind.i64.wrap (p_By.tdiv 3) % 4) id y10 y11 1 (JI (MN.mk (zi y6.size) p_Ns)) 0 0))) (pu IntKind.u8 (mcK (MK.mk [.ro 5 k0_z k0_f k0, .ro 5 k1_z k1_f k1, .ro 5 k2_z k2_f k2] (p_By % 3) (dlB (DV.mk (p_By % 3) (IntKind.i64.wrap (p_By.tdiv 3) % 4) id y10 y11 1 (JI (MN.mk (zi y6.size) p_Ns)) 0 0))))) y10 (JI (MN.mk (zi y6.size) p_Ns))) (pu IntKind.u8 (nxP (NX.mk y11 (EV.mk (pu IntKind.u8 (dlB (DV.mk (p_By % 3) (IntKind.i64.wrap (p_By.tdiv 3) % 4) id y10 y11 1 (JI (MN.mk (zi y6.size) p_Ns)) 0 0))) (pu IntKind.u8 (mcK (MK.mk [.ro 5 k0_z k0_f k0, .ro 5 k1_z k1_f k1, .ro 5 k2_z k2_f k2] (p_By % 3) (dlB (DV.mk (p_By % 3) (IntKind.i64.wrap (p_By.tdiv 3) % 4) id y10 y11 1 (JI (MN.mk (zi y6.size) p_Ns)) 0 0))))) y10 (JI (MN.mk (zi y6.size) p_Ns)))))))))]) [] []) else none else none else none else none else none else none
theorem e65 (f : Nat) (y0 p_By y1 : Int) (y2 y3 : Bool) (p_Ns : List PV) (k0_z k0_f : Bool) (k0 : List PV) (k1_z k1_f : Bool) (k1 : List PV) (k2_z k2_f : Bool) (k2 : List PV) (y4 y5 : Int) (y6 : ByteArray) (y7 y8 : Bool) (y9 : List PV) (y10 : Int) (y11 : List PV) (id : Int) (k : Res -> Option Res) : JQ tau F65 Try.f65 (Try.f65.body.get!) Jpw [.ro] 0 [.st 106 [.sc (.int .i64 y0), .sc (.int .i64 p_By), .sc (.int .i64 y1), .ro 3 y2 y3 p_Ns], .st 31 [.ro 5 k0_z k0_f k0, .ro 5 k1_z k1_f k1, .ro 5 k2_z k2_f k2], .st 41 [.st 34 [.sc (.int .i64 y4), .sc (.int .i64 y5)], .sc (.string y6), .ro 45 y7 y8 y9, .sc (.int .i64 y10), .ar 37 y11], .sc (.int .i64 id)] [] k = g65 f y0 p_By y1 y2 y3 p_Ns k0_z k0_f k0 k1_z k1_f k1 k2_z k2_f k2 y4 y5 y6 y7 y8 y9 y10 y11 id k := by kernel_rfl
theorem JAU (f : Nat) : Jf (Try.f65.body.get!) Jpw = [] := by kernel_rfl
theorem JAV (f : Nat) : ∀ q ∈ Jf (Try.f65.body.get!) Jpw, q.Ok tau Try.prog 0 := by
 rw [JAU f]; intro q hq; cases hq
theorem Jym : Try.prog.funcs[65]? = some Try.f65 := by kernel_rfl
theorem Jyn : Try.f65.body = some (Try.f65.body.get!) := by kernel_rfl
theorem JAW : Enters Try.prog 65 := enters_of Jym (by kernel_rfl) Jyn
def Jm2 : List PV -> List Ent -> (Res -> Option Res) -> Option Res
 | [.st 106 [.sc (.int .i64 y0), .sc (.int .i64 p_By), .sc (.int .i64 y1), .ro 3 y2 y3 p_Ns], .st 31 [.ro 5 k0_z k0_f k0, .ro 5 k1_z k1_f k1, .ro 5 k2_z k2_f k2], .st 41 [.st 34 [.sc (.int .i64 y4), .sc (.int .i64 y5)], .sc (.string y6), .ro 45 y7 y8 y9, .sc (.int .i64 y10), .ar 37 y11], .sc (.int .i64 id)], [], k => g65 0 y0 p_By y1 y2 y3 p_Ns k0_z k0_f k0 k1_z k1_f k1 k2_z k2_f k2 y4 y5 y6 y7 y8 y9 y10 y11 id k
 | _, _, _ => none
def s65 : Sig := { own := [], run := Jm2 }
theorem JAX : Jg tau Try.prog 65 s65 := J0 Jp JtP Jq Jym Jyn Jpw [.ro] 0 [] Jm2 (JAV 0) fun xs es k res hr => by
 unfold Jm2 at hr
 split at hr
 · exact ⟨rfl, 0, (e65 0 _ _ _ _ _ _ _ _ _ _ _ _ _ _ _ _ _ _ _ _ _ _ _ _  _).trans hr⟩
 · cases hr

-- FN law8.within

-- FN
theorem Jm3 {n : Int} (h : 0 <= n) (h2 : n < 256) : IntKind.u8.wrap n = n := by
 have := Jbu n; omega
-- FN law8.Good
structure GO where
 (kd n : Int) (ns : List PV)
theorem Ym (x : Int) {m : Int} (h : 0 < m) : 0 <= x % m /\ x % m < m := ⟨Int.emod_nonneg _ (by omega), Int.emod_lt_of_pos _ h⟩


-- FN law9.known
theorem JtQ (d : DV) (h : byB d.h = true := by rfl) : byB (pu .u8 (dlB d)) = true := by
 rw [Jg4]
 intro x hx
 rw [Jhp] at hx
 simp only [JlW, List.mem_append, List.mem_singleton] at hx
 rcases hx with h1 | h1 | h1 | h1 | h1 | h1 | h1 | h1 | h1
 · exact ZK _ x h1
 · exact ZK _ x h1
 · exact ZK _ x h1
 · exact ZK _ x h1
 · exact (Wt.1 h).2 x h1
 · rw [h1]; exact JaW _
 · exact JlF _ x h1
 · exact ZK _ x h1
 · exact ZK _ x h1
-- FN (law13.Step).Entry
structure SP where
 (kd by1 who : Int) (ns : List PV)
structure SX where
 (p : SP) (K : List PV) (s : SV) (id : Int)
def Zw : SP -> Bool := hid fun p => Jj .i64 p.ns && decide (p.ns.length <= 9223372036854775807)
theorem Jce {p : SP} : Zw p = true ↔ Jj .i64 p.ns = true /\ p.ns.length <= 9223372036854775807 := by
 rw [Zw, hid_eq]; simp only [Bool.and_eq_true, decide_eq_true_eq]
def twA (n : Int) : AV := ⟨n % 3, IntKind.i64.wrap (n.tdiv 3) % 4⟩
def seA (p : SP) (l : List PV) : AV := bif decide (zi l.length > 0) && decide (p.by1 % 9 > 0) then av (l.getD (p.by1 % zi l.length).toNat .top) else twA p.by1
def seV (x : SX) : DV :=
 bif x.p.kd % 6 == 4 then ⟨(seA x.p x.s.l).d, (seA x.p x.s.l).u, x.id, x.s.ver, x.s.hash, 2, [], (twA x.p.who).d, (twA x.p.who).u⟩
 else bif x.p.kd % 6 == 5 then ⟨(seA x.p x.s.l).d, (seA x.p x.s.l).u, x.id, x.s.ver, x.s.hash, 3, [], (twA x.p.who).d, (twA x.p.who).u⟩
 else ⟨(seA x.p x.s.l).d, (seA x.p x.s.l).u, x.id, x.s.ver, x.s.hash, 1, JI ⟨zi x.s.doc.size, x.p.ns⟩, 0, 0⟩
def enV (K : List PV) (s : SV) (d : DV) : EV := ⟨pu .u8 (dlB d), pu .u8 (mcK ⟨K, d.ad, dlB d⟩), s.ver, d.o⟩
def enW (K : List PV) (s : SV) (d : DV) : EW := ⟨pu .u8 (dlB d), pu .u8 (mcK ⟨K, d.ad, dlB d⟩), s.ver, d.o, pu .u8 (nxP ⟨s.hash, enV K s d⟩), pu .u8 (emP ⟨K, s.ih, enV K s d, pu .u8 (nxP ⟨s.hash, enV K s d⟩)⟩)⟩
def ewP (w : EW) : PV := .st 93 [.st 77 [.ro 5 false false w.b, .ar 37 w.m], .sc (.int .i64 w.at1), .ro 99 false false w.o, .ar 37 w.h, .ar 37 w.mc]
def seW (x : SX) : EW := enW x.K x.s (seV x)
def seB : SX -> List PV := hid fun x => (seW x).b
def seS : SX -> List PV := hid fun x => (seW x).m
def seO : SX -> List PV := hid fun x => (seW x).o
def seH : SX -> List PV := hid fun x => (seW x).h
def seM : SX -> List PV := hid fun x => (seW x).mc
theorem G7 (x : SX) : EW.mk (seB x) (seS x) x.s.ver (seO x) (seH x) (seM x) = seW x := by
 rw [seB, seS, seO, seH, seM, hid_eq, hid_eq, hid_eq, hid_eq, hid_eq]; rfl
theorem Jgf {d u : Int} (h : inA [d, 2, u, 7] = true) : (0 <= d /\ d <= 2) /\ 0 <= u /\ u <= 7 := by
 rw [JiA] at h
 simp only [Ji0, Bool.and_eq_true, decide_eq_true_eq] at h
 omega
theorem JtR {p : SP} {l : List PV} (h : uOk l = true) : (0 <= (seA p l).d /\ (seA p l).d <= 2) /\ 0 <= (seA p l).u /\ (seA p l).u <= 7 := by
 unfold seA
 cases hc : (decide (zi l.length > 0) && decide (p.by1 % 9 > 0)) with
 | false =>
  obtain ⟨a, b⟩ := Ym p.by1 (m := 3) (by decide)
  obtain ⟨c, d⟩ := Ym (IntKind.i64.wrap (p.by1.tdiv 3)) (m := 4) (by decide)
  simp only [cond_false, twA]; omega
 | true =>
  rw [Bool.and_eq_true, decide_eq_true_eq] at hc
  have hz : zi l.length = (l.length : Int) := rfl
  obtain ⟨a, b⟩ := Ym p.by1 (m := zi l.length) (by omega)
  have hi : (p.by1 % zi l.length).toNat < l.length := by omega
  rw [cond_true, List.getD_eq_getElem?_getD, List.getElem?_eq_getElem hi]
  exact Jgf (List.all_eq_true.1 h _ (List.getElem_mem hi))
theorem Jm4 {x : SX} (hs : sOk x.s = true) (hp : Zw x.p = true) : dOk (seV x) = true /\ (opB (seV x).o).length <= 400 /\ cBy (seV x).o = true /\ cOk (seV x).o = true /\ kIn (seV x).ad = true /\ (seV x).h = x.s.hash := by
 obtain ⟨s1, s2, s3, s4, s5, s6⟩ := Yk.1 hs
 obtain ⟨p1, p2⟩ := Jce.1 hp
 have ha := JtR (p := x.p) s6
 have hk : kIn (seA x.p x.s.l).d = true := by rw [Jew]; simp only [WR, Bool.and_eq_true, decide_eq_true_eq]; omega
 obtain ⟨h1, h2⟩ := h32_iff.1 s2
 have nil := JeA (done := 0) (by decide)
 have n1 := JmA (Yr nil (by decide : (0 : Int) <= 14))
 have n2 := JmB (Yr nil (by decide : (0 : Int) <= 14))
 have mk := Jmy (n := zi x.s.doc.size) x.p.ns (by simp only [zi]; omega) (by simp only [zi]; omega)
 have m1 := JmA mk
 have m2 := JmB mk
 have m3 : cOk (JI ⟨zi x.s.doc.size, x.p.ns⟩) = true := XN.2 ⟨List.all_eq_true.2 mk.cp, by have := mk.len; omega⟩
 unfold seV
 cases x.p.kd % 6 == 4 with
 | true => exact ⟨XX.2 ⟨h1, h2, n1, by show (opB []).length <= _; omega⟩, n2, n1, XN.2 ⟨rfl, Nat.zero_le _⟩, hk, rfl⟩
 | false =>
  cases x.p.kd % 6 == 5 with
  | true => exact ⟨XX.2 ⟨h1, h2, n1, by show (opB []).length <= _; omega⟩, n2, n1, XN.2 ⟨rfl, Nat.zero_le _⟩, hk, rfl⟩
  | false => exact ⟨XX.2 ⟨h1, h2, m1, by show (opB (JI ⟨zi x.s.doc.size, x.p.ns⟩)).length <= _; omega⟩, m2, m1, m3, hk, rfl⟩
theorem Jm5 {K : List PV} {s : SV} {d : DV} (h : dOk d = true) (h2 : (opB d.o).length <= 400) (h3 : cBy d.o = true) : eOk (enV K s d) = true :=
 XW.2 ⟨JR _ _, by show (pu .u8 (dlB d)).length <= _; rw [JG, Vh h]; omega, JR _ _, by show (pu .u8 (mcK ⟨K, d.ad, dlB d⟩)).length = 32; rw [JG]; exact JhL _, h3, by show (opB d.o).length <= _; omega⟩
theorem Jm6 {x : SX} (hs : sOk x.s = true) (hp : Zw x.p = true) (hb : byB x.s.hash = true) : eD (seW x) = true := by
 obtain ⟨v1, v2, v3, v4, v5, v6⟩ := Jm4 hs hp
 refine Jh1.2 ⟨JtQ _ (by rw [v6]; exact hb), Jm5 v1 v2 v3, v4, h32_iff.2 ⟨JR _ _, ?_⟩⟩
 show (pu .u8 (nxP ⟨x.s.hash, enV x.K x.s (seV x)⟩)).length = 32
 rw [JG]; exact Vs _
def Jh9 : List PV -> List Ent -> (Res -> Option Res) -> Option Res
 | [.st 106 [.sc (.int .i64 kd), .sc (.int .i64 by1), .sc (.int .i64 who), .ro 3 nz nf ns], .st 31 [.ro 5 z0 f0 k0, .ro 5 z1 f1 k1, .ro 5 z2 f2 k2], .st 41 [.st 34 [.sc (.int .i64 ih), .sc (.int .i64 iN)], .sc (.string doc), .ro 45 z f l, .sc (.int .i64 ver), .ar 37 hash], .sc (.int .i64 id1)], [], k =>
  bif (sOk ⟨ih, iN, doc, l, ver, hash⟩ && Zw ⟨kd, by1, who, ns⟩) && (kO3 [.ro 5 z0 f0 k0, .ro 5 z1 f1 k1, .ro 5 z2 f2 k2] && kIn ih) then
   k ⟨.st 93 [.st 77 [.ro 5 false false (seB ⟨⟨kd, by1, who, ns⟩, [.ro 5 z0 f0 k0, .ro 5 z1 f1 k1, .ro 5 z2 f2 k2], ⟨ih, iN, doc, l, ver, hash⟩, id1⟩), .ar 37 (seS ⟨⟨kd, by1, who, ns⟩, [.ro 5 z0 f0 k0, .ro 5 z1 f1 k1, .ro 5 z2 f2 k2], ⟨ih, iN, doc, l, ver, hash⟩, id1⟩)], .sc (.int .i64 ver), .ro 99 false false (seO ⟨⟨kd, by1, who, ns⟩, [.ro 5 z0 f0 k0, .ro 5 z1 f1 k1, .ro 5 z2 f2 k2], ⟨ih, iN, doc, l, ver, hash⟩, id1⟩), .ar 37 (seH ⟨⟨kd, by1, who, ns⟩, [.ro 5 z0 f0 k0, .ro 5 z1 f1 k1, .ro 5 z2 f2 k2], ⟨ih, iN, doc, l, ver, hash⟩, id1⟩), .ar 37 (seM ⟨⟨kd, by1, who, ns⟩, [.ro 5 z0 f0 k0, .ro 5 z1 f1 k1, .ro 5 z2 f2 k2], ⟨ih, iN, doc, l, ver, hash⟩, id1⟩)], [], []⟩ else none
 | _, _, _ => none
def Jyo : Sig := { own := [], run := Jh9 }
theorem JtS (p : SP) (s : SV) (id1 : Int) (nz nf z0 f0 : Bool) (k0 : List PV) (z1 f1 : Bool) (k1 : List PV) (z2 f2 : Bool) (k2 : List PV) (z f : Bool) (hs : sOk s = true) (hp : Zw p = true) (hK : kO3 [.ro 5 z0 f0 k0, .ro 5 z1 f1 k1, .ro 5 z2 f2 k2] = true) (hi : kIn s.ih = true) (k : Res -> Option Res) :
  g65 0 p.kd p.by1 p.who nz nf p.ns z0 f0 k0 z1 f1 k1 z2 f2 k2 s.ih s.iN s.doc z f s.l s.ver s.hash id1 k = k ⟨ewP (seW ⟨p, [.ro 5 z0 f0 k0, .ro 5 z1 f1 k1, .ro 5 z2 f2 k2], s, id1⟩), [], []⟩ := by
 unfold g65
 generalize [PV.ro 5 z0 f0 k0, .ro 5 z1 f1 k1, .ro 5 z2 f2 k2] = K at *
 obtain ⟨s1, s2, s3, s4, s5, s6⟩ := Yk.1 hs
 obtain ⟨p1, p2⟩ := Jce.1 hp
 obtain ⟨v1, v2, v3, v4, v5, v6⟩ := Jm4 (x := ⟨p, K, s, id1⟩) hs hp
 have he := Jm5 (K := K) (s := s) v1 v2 v3
 have w : ∀ n : Int, 0 < n -> n < 1000000000000 -> okW n = true := fun n h h2 => JjD h h2
 have T : ∀ d : DV, seV ⟨p, K, s, id1⟩ = d -> (bif dOk d && (kO3 K && kIn d.ad) then bif kIn s.ih && eOk (enV K s d) && (h32 s.hash && kO3 K) then k ⟨ewP (enW K s d), [], []⟩ else none else none) = k ⟨ewP (seW ⟨p, K, s, id1⟩), [], []⟩ := fun d hd => by
  subst hd
  exact (Jc (by rw [v1, hK, v5]; rfl)).trans (Jc (by rw [hi, he, s2, hK]; rfl))
 have hns : Jez (zi s.doc.size) p.ns = true := Jf6.2 ⟨by simp only [zi]; omega, by simp only [zi]; omega, p1, p2⟩
 have M : ∀ a : AV, seA p s.l = a -> (bif okW 6 then bif p.kd % 6 == 4 then bif okW 3 then bif okW 4 then bif dOk ⟨a.d, a.u, id1, s.ver, s.hash, 2, [], p.who % 3, IntKind.i64.wrap (p.who.tdiv 3) % 4⟩ && (kO3 K && kIn a.d) then bif kIn s.ih && eOk (enV K s ⟨a.d, a.u, id1, s.ver, s.hash, 2, [], p.who % 3, IntKind.i64.wrap (p.who.tdiv 3) % 4⟩) && (h32 s.hash && kO3 K) then k ⟨ewP (enW K s ⟨a.d, a.u, id1, s.ver, s.hash, 2, [], p.who % 3, IntKind.i64.wrap (p.who.tdiv 3) % 4⟩), [], []⟩ else none else none else none else none
   else bif p.kd % 6 == 5 then bif okW 3 then bif okW 4 then bif dOk ⟨a.d, a.u, id1, s.ver, s.hash, 3, [], p.who % 3, IntKind.i64.wrap (p.who.tdiv 3) % 4⟩ && (kO3 K && kIn a.d) then bif kIn s.ih && eOk (enV K s ⟨a.d, a.u, id1, s.ver, s.hash, 3, [], p.who % 3, IntKind.i64.wrap (p.who.tdiv 3) % 4⟩) && (h32 s.hash && kO3 K) then k ⟨ewP (enW K s ⟨a.d, a.u, id1, s.ver, s.hash, 3, [], p.who % 3, IntKind.i64.wrap (p.who.tdiv 3) % 4⟩), [], []⟩ else none else none else none else none
   else bif Jez (zi s.doc.size) p.ns then bif dOk ⟨a.d, a.u, id1, s.ver, s.hash, 1, JI ⟨zi s.doc.size, p.ns⟩, 0, 0⟩ && (kO3 K && kIn a.d) then bif kIn s.ih && eOk (enV K s ⟨a.d, a.u, id1, s.ver, s.hash, 1, JI ⟨zi s.doc.size, p.ns⟩, 0, 0⟩) && (h32 s.hash && kO3 K) then k ⟨ewP (enW K s ⟨a.d, a.u, id1, s.ver, s.hash, 1, JI ⟨zi s.doc.size, p.ns⟩, 0, 0⟩), [], []⟩ else none else none else none else none) = k ⟨ewP (seW ⟨p, K, s, id1⟩), [], []⟩ := fun a ha => by
  refine (Jc (w _ (by decide) (by decide))).trans ?_
  cases h4 : (p.kd % 6 == 4) with
  | true =>
   refine (Jc rfl).trans ((Jc (w _ (by decide) (by decide))).trans ((Jc (w _ (by decide) (by decide))).trans (T _ ?_)))
   unfold seV; rw [ha]; exact Jc h4
  | false =>
   refine (Ji rfl).trans ?_
   cases h5 : (p.kd % 6 == 5) with
   | true =>
    refine (Jc rfl).trans ((Jc (w _ (by decide) (by decide))).trans ((Jc (w _ (by decide) (by decide))).trans (T _ ?_)))
    unfold seV; rw [ha]; exact (Ji h4).trans (Jc h5)
   | false =>
    refine (Ji rfl).trans ((Jc hns).trans (T _ ?_))
    unfold seV; rw [ha]; exact (Ji h4).trans (Ji h5)
 refine (Jc (w _ (by decide) (by decide))).trans ((Jc (w _ (by decide) (by decide))).trans ?_)
 have hz : zi s.l.length = (s.l.length : Int) := rfl
 obtain ⟨q1, q2, q3⟩ := Q9.1 s1
 cases h1 : decide (zi s.l.length > 0) with
 | false => exact (Ji rfl).trans (M (twA p.by1) (by unfold seA; rw [h1]; rfl))
 | true =>
  have h1' := of_decide_eq_true h1
  refine (Jc rfl).trans ((Jc (w _ (by decide) (by decide))).trans ?_)
  cases h2 : decide (p.by1 % 9 > 0) with
  | false => exact (Ji rfl).trans (M (twA p.by1) (by unfold seA; rw [h1, h2]; rfl))
  | true =>
   obtain ⟨m1, m2⟩ := Ym p.by1 (m := zi s.l.length) h1'
   have hidx : (p.by1 % zi s.l.length).toNat < s.l.length := by omega
   have hc := Xv (WH q1 hidx)
   unfold GZ at hc
   refine (Jc rfl).trans ((Jc (w _ h1' (by omega))).trans ((Jc (by rw [hc, decide_eq_true m1, decide_eq_true m2]; rfl)).trans ?_))
   exact M (av (s.l.getD (p.by1 % zi s.l.length).toNat .top)) (by unfold seA; rw [h1, h2]; rfl)
theorem Jyp : Jg tau Try.prog 65 Jyo := JAX.of fun xs es k res hr => by
 change Jh9 xs es k = some res at hr
 unfold Jh9 at hr
 split at hr
 · rename_i kd by1 who nz nf ns z0 f0 k0 z1 f1 k1 z2 f2 k2 ih iN doc z f l ver hash id1
   obtain ⟨hc, hr⟩ := JE hr
   simp only [Bool.and_eq_true] at hc
   obtain ⟨⟨c1, c2⟩, c3, c4⟩ := hc
   refine (JtS ⟨kd, by1, who, ns⟩ ⟨ih, iN, doc, l, ver, hash⟩ id1 nz nf z0 f0 k0 z1 f1 k1 z2 f2 k2 z f c1 c2 c3 c4 k).trans (Eq.trans ?_ hr)
   rw [← G7]; rfl
 · cases hr
end
end Go.Proofs.Ytcklhipdldpkhaa.Rx
