/- What the functions of this law compute, and their plain laws. Conditions: none. -/
import Derived.KernelRfl
import Derived.Test.YtcklhipdldpkhaaWaveletSamesP2
namespace Go.Proofs.Ytcklhipdldpkhaa.Rx
noncomputable section
open Go
set_option linter.unusedVariables false
set_option linter.unusedSimpArgs false
set_option maxRecDepth 100000
set_option maxHeartbeats 0
-- FN delta.Parse | ref8.Parse
theorem JsX (t : ByteArray) : byB (Jn t) = true := by
 unfold byB Jn
 refine List.all_eq_true.2 fun p hp => ?_
 obtain ⟨x, hx, rfl⟩ := List.mem_map.1 hp
 have := x.toNat_lt
 rw [Bool.and_eq_true, Bool.and_eq_true]
 refine ⟨rfl, decide_eq_true ?_, decide_eq_true ?_⟩
 · exact Int.natCast_nonneg _
 · exact Int.ofNat_lt.2 this
def d4 (b : List PV) : RS := JK 8 (JK 8 (JK 8 (JK 8 ⟨b, 0⟩)))
def d5 (b : List PV) : RS := hashS (d4 b)
def d7 (b : List PV) : RS := Jj6 (JK 1 (d5 b))
def d9 (b : List PV) : RS := JK 8 (JK 8 (d7 b))
def dt (b : List PV) : List PV := Jn (JdZ (JK 1 (d5 b)))
def dv (b : List PV) : DV := ⟨Qe 8 ⟨b, 0⟩, Qe 8 (JK 8 ⟨b, 0⟩), Qe 8 (JK 8 (JK 8 ⟨b, 0⟩)), Qe 8 (JK 8 (JK 8 (JK 8 ⟨b, 0⟩))), pu .u8 (hashV (d4 b)), Qe 1 (d5 b), opL (dt b), Qe 8 (d7 b), Qe 8 (JK 8 (d7 b))⟩
def dE0 (b : List PV) : Int := bif (d9 b).e == 0 then (bif decide ((d9 b).b.length > 0) then 9 else bif opE (dt b) == 0 then dCk (dv b) else opE (dt b)) else (d9 b).e
def dE : List PV -> Int := hid dE0
def dN (b : List PV) : Nat -> Int
 | 0 => (dv b).ad
 | 1 => (dv b).au
 | 2 => (dv b).id
 | 3 => (dv b).ve
 | 4 => (dv b).kd
 | 5 => (dv b).wd
 | _ => (dv b).wu
def dF : Nat -> List PV -> Int := hid fun i b => bif dE0 b == 0 then dN b i else 0
def dH : List PV -> List Int := hid fun b => bif dE0 b == 0 then hashV (d4 b) else List.replicate 32 0
def dO : List PV -> List PV := hid fun b => bif dE0 b == 0 then opL (dt b) else []
def dOF : List PV -> Bool := hid fun b => !(dE0 b == 0)
theorem JqL (b : List PV) : dE b = dE0 b := by rw [dE, hid_eq]
theorem JqM (i : Nat) (b : List PV) : dF i b = bif dE0 b == 0 then dN b i else 0 := by rw [dF, hid_eq]
theorem JqN (b : List PV) : dH b = bif dE0 b == 0 then hashV (d4 b) else List.replicate 32 0 := by rw [dH, hid_eq]
theorem JqO (b : List PV) : dO b = bif dE0 b == 0 then opL (dt b) else [] := by rw [dO, hid_eq]
theorem Jmd (b : List PV) : dOF b = !(dE0 b == 0) := by rw [dOF, hid_eq]
def JqP (e : Int) : PV := .tup [.st 73 [.st 45 [.sc (.int .i64 0), .sc (.int .i64 0)], .sc (.int .i64 0), .sc (.int .i64 0), .ar 37 (pu .u8 (List.replicate 32 0)), .sc (.int .i64 0), .ro 99 true true [], .st 45 [.sc (.int .i64 0), .sc (.int .i64 0)]], .sc (.int .i64 e)]
def dQ (b : List PV) : PV := .tup [.st 73 [.st 45 [.sc (.int .i64 (dF 0 b)), .sc (.int .i64 (dF 1 b))], .sc (.int .i64 (dF 2 b)), .sc (.int .i64 (dF 3 b)), .ar 37 (pu .u8 (dH b)), .sc (.int .i64 (dF 4 b)), .ro 99 (dO b).isEmpty (dOF b) (dO b), .st 45 [.sc (.int .i64 (dF 5 b)), .sc (.int .i64 (dF 6 b))]], .sc (.int .i64 (dE b))]
theorem Jev {b : List PV} {e : Int} (h : dE0 b = e) (h0 : (e == 0) = false) : dQ b = JqP e := by
 simp only [dQ, JqP, JqM, JqN, JqO, JqL, Jmd, h, h0, cond_false, List.isEmpty_nil, Bool.not_false]
theorem JwO {b : List PV} (h : dE0 b = 0) : dQ b = .tup [.st 73 [.st 45 [.sc (.int .i64 (Qe 8 ⟨b, 0⟩)), .sc (.int .i64 (Qe 8 (JK 8 ⟨b, 0⟩)))], .sc (.int .i64 (Qe 8 (JK 8 (JK 8 ⟨b, 0⟩)))), .sc (.int .i64 (Qe 8 (JK 8 (JK 8 (JK 8 ⟨b, 0⟩))))), .ar 37 (pu .u8 (hashV (d4 b))), .sc (.int .i64 (Qe 1 (d5 b))), .ro 99 (opL (dt b)).isEmpty false (opL (dt b)), .st 45 [.sc (.int .i64 (Qe 8 (d7 b))), .sc (.int .i64 (Qe 8 (JK 8 (d7 b))))]], .sc (.int .i64 0)] := by
 simp only [dQ, JqM, JqN, JqO, JqL, Jmd, h, beq_self_eq_true, cond_true, Bool.not_true, dN, dv]
theorem JoL {b : List PV} (h : byB b = true) : cOk (opL b) = true := by
 rw [JhC]
 cases JaL b == 0 with
 | true => exact Jjc (Jma h) _
 | false => exact XN.2 ⟨rfl, Nat.zero_le _⟩
theorem JsY (z f : Bool) (b : List PV) (hb : byB b = true) (hlen : b.length <= 1000000000) (k : Res -> Option Res) :
  g52 0 z f b k = k ⟨dQ b, [], []⟩ := by
 have hE : dE0 b = dE0 b := rfl
 conv at hE => rhs; unfold dE0
 have c0 : okT (RT.mk b 0 0) = true := by simp [okT, hb]; omega
 have hv0 : (RT.mk b 0 0).view = RS.mk b 0 := rfl
 have c1 := Qn c0 8
 have c2 := Qn c1 8
 have c3 := Qn c2 8
 have c4 := Qn c3 8
 have c5 := Jlq c4
 have c6 := Qn c5 1
 have c7 := Jfv c6
 have c8 := Qn c7 8
 have c9 := Qn c8 8
 have b1 := YU (s := ⟨b, 0⟩) hb 8
 have b4 : byB (d4 b).b = true := YU (YU (YU b1 8) 8) 8
 have b5 : byB (d5 b).b = true := by unfold d5; rw [hashS_eq]; exact JiN 32 b4
 have b6 := YU b5 1
 have v4 : (Ja 8 (Ja 8 (Ja 8 (Ja 8 (RT.mk b 0 0))))).view = d4 b := by simp only [J5, hv0, d4]
 have v5 : (hashT (Ja 8 (Ja 8 (Ja 8 (Ja 8 (RT.mk b 0 0)))))).view = d5 b := by rw [hashT_view, v4, d5]
 have v7 : (JX (Ja 1 (hashT (Ja 8 (Ja 8 (Ja 8 (Ja 8 (RT.mk b 0 0)))))))).view = d7 b := by rw [JcU, J5, v5, d7]
 have v9 : (Ja 8 (Ja 8 (JX (Ja 1 (hashT (Ja 8 (Ja 8 (Ja 8 (Ja 8 (RT.mk b 0 0)))))))))).view = d9 b := by rw [J5, J5, v7, d9]
 have n0 : Jt 8 (RT.mk b 0 0) = Qe 8 ⟨b, 0⟩ := by rw [QV, hv0]
 have n1 : Jt 8 (Ja 8 (RT.mk b 0 0)) = Qe 8 (JK 8 ⟨b, 0⟩) := by simp only [QV, J5, hv0]
 have n2 : Jt 8 (Ja 8 (Ja 8 (RT.mk b 0 0))) = Qe 8 (JK 8 (JK 8 ⟨b, 0⟩)) := by simp only [QV, J5, hv0]
 have n3 : Jt 8 (Ja 8 (Ja 8 (Ja 8 (RT.mk b 0 0)))) = Qe 8 (JK 8 (JK 8 (JK 8 ⟨b, 0⟩))) := by simp only [QV, J5, hv0]
 have n4 : hashVT (Ja 8 (Ja 8 (Ja 8 (Ja 8 (RT.mk b 0 0))))) = hashV (d4 b) := by rw [hashVT_val, v4]
 have n5 : Jt 1 (hashT (Ja 8 (Ja 8 (Ja 8 (Ja 8 (RT.mk b 0 0)))))) = Qe 1 (d5 b) := by rw [QV, v5]
 have n6 : JF (Ja 1 (hashT (Ja 8 (Ja 8 (Ja 8 (Ja 8 (RT.mk b 0 0))))))) = JdZ (JK 1 (d5 b)) := by rw [JcV, J5, v5]
 have n7 : Jt 8 (JX (Ja 1 (hashT (Ja 8 (Ja 8 (Ja 8 (Ja 8 (RT.mk b 0 0)))))))) = Qe 8 (d7 b) := by rw [QV, v7]
 have n8 : Jt 8 (Ja 8 (JX (Ja 1 (hashT (Ja 8 (Ja 8 (Ja 8 (Ja 8 (RT.mk b 0 0))))))))) = Qe 8 (JK 8 (d7 b)) := by rw [QV, J5, v7]
 unfold g52
 refine (Jc c0).trans ((Jc c1).trans ((Jc c2).trans ((Jc c3).trans ((Jc c4).trans ((Jc c5).trans ((Jc c6).trans ((Jc c7).trans ((Jc c8).trans ?_))))))))
 simp only [n0, n1, n2, n3, n4, n5, n6, n7, n8]
 generalize Ja 8 (Ja 8 (JX (Ja 1 (hashT (Ja 8 (Ja 8 (Ja 8 (Ja 8 (RT.mk b 0 0))))))))) = t at *
 have hte : t.e = (d9 b).e := by rw [← v9]; rfl
 have htP : decide (t.P < zi t.B.length) = decide ((d9 b).b.length > 0) := by
  rw [← v9]
  show decide _ = decide ((List.drop _ _).length > 0)
  rw [List.length_drop]
  simp only [okT, Bool.and_eq_true, decide_eq_true_eq] at c9
  apply decide_eq_decide.2
  simp only [zi]; omega
 have hsz := Jkc b6
 have htk : List.take (JdZ (JK 1 (d5 b))).size (dt b) = dt b := List.take_of_length_le (by unfold dt; rw [Jau]; exact Nat.le_refl _)
 have hto : Jn (JdZ (JK 1 (d5 b))) = dt b := rfl
 have hbt : byB (dt b) = true := JsX _
 have hlt : (dt b).length <= 65535 := by unfold dt; rw [Jau]; exact hsz
 have hble : (dt b).length.ble 1000000000 = true := by rw [Nat.ble_eq]; omega
 have hdv : DV.mk (Qe 8 ⟨b, 0⟩) (Qe 8 (JK 8 ⟨b, 0⟩)) (Qe 8 (JK 8 (JK 8 ⟨b, 0⟩))) (Qe 8 (JK 8 (JK 8 (JK 8 ⟨b, 0⟩)))) (pu .u8 (hashV (d4 b))) (Qe 1 (d5 b)) (opL (dt b)) (Qe 8 (d7 b)) (Qe 8 (JK 8 (d7 b))) = dv b := rfl
 simp only [hte, htP, List.drop_zero, htk, hto, hdv, hbt, hble, JoL hbt, Bool.true_and, Bool.and_true, cond_true]
 cases he : ((d9 b).e == 0) with
 | false =>
  rw [he, cond_false] at hE
  rw [Jev hE he]
  simp only [cond_false]
  exact Jc (by rw [bne, he]; rfl)
 | true =>
  rw [he, cond_true] at hE
  cases h9 : decide ((d9 b).b.length > 0) with
  | true =>
   rw [h9, cond_true] at hE
   rw [Jev hE (by decide)]
   rfl
  | false =>
   rw [h9, cond_false] at hE
   simp only [cond_true, cond_false]
   refine (Jc (by simp [Jk]; omega)).trans ?_
   cases ho : (opE (dt b) == 0) with
   | false =>
    rw [ho, cond_false] at hE
    try simp only [cond_false]
    rw [Jev hE ho]
    exact Jc (by rw [bne, ho]; rfl)
   | true =>
    have hoF : opF (dt b) = false := by rw [JhD, ← JhB, ho]; rfl
    rw [ho, cond_true] at hE
    try simp only [cond_true]
    cases hd : (dCk (dv b) == 0) with
    | false =>
     rw [Jev hE hd]
     exact Jc (by rw [bne, hd]; rfl)
    | true =>
     have hd' : dCk (dv b) = 0 := by simpa using hd
     rw [hd'] at hE
     rw [JwO hE, hoF]
     exact Ji (by rw [bne, hd]; rfl)
def JhG : List PV -> List Ent -> (Res -> Option Res) -> Option Res
 | [.ro 5 z f b], [], k => bif byB b && Nat.ble b.length 1000000000 then k ⟨dQ b, [], []⟩ else none
 | _, _, _ => none
def JwP : Sig := { own := [], run := JhG }
theorem JwQ : Jg tau Try.prog 52 JwP := Jz7.of fun xs es k res hr => by
 change JhG xs es k = some res at hr
 unfold JhG at hr
 split at hr
 · rename_i z f b
   obtain ⟨hc, hr⟩ := JE hr
   rw [Bool.and_eq_true, Nat.ble_eq] at hc
   exact (JsY z f b hc.1 hc.2 k).trans hr
 · cases hr

-- FN slices.overlaps[[]byte]
-- EXT slices.overlaps[[]byte]



-- FN slices.Insert[[][]byte,[]byte]


-- FN (hmac.block).turned
def X4 (l : List Int) (x : Int) : List Int := l.map fun b => JA .xor .u8 b x
@[simp] theorem JqQ (l : List Int) (x : Int) : (X4 l x).length = l.length := by simp [X4]
theorem Jme (K : List Int) (hK : K.length = 64) (x : Int) : (List.range 64).map (fun j => JA .xor .u8 x (K.getD j 0)) = X4 K x := by
 apply List.ext_getElem
 · simp [hK]
 · intro i h1 h2
   have h1' : i < K.length := by simpa using h2
   simp only [List.getElem_map, List.getElem_range, X4]
   rw [ZZ, List.getD_eq_getElem?_getD, List.getElem?_eq_getElem h1']; rfl
noncomputable abbrev z80 : List PV := [.sc (.int .u8 0), .sc (.int .u8 0), .sc (.int .u8 0), .sc (.int .u8 0), .sc (.int .u8 0), .sc (.int .u8 0), .sc (.int .u8 0), .sc (.int .u8 0), .sc (.int .u8 0), .sc (.int .u8 0), .sc (.int .u8 0), .sc (.int .u8 0), .sc (.int .u8 0), .sc (.int .u8 0), .sc (.int .u8 0), .sc (.int .u8 0), .sc (.int .u8 0), .sc (.int .u8 0), .sc (.int .u8 0), .sc (.int .u8 0), .sc (.int .u8 0), .sc (.int .u8 0), .sc (.int .u8 0), .sc (.int .u8 0), .sc (.int .u8 0), .sc (.int .u8 0), .sc (.int .u8 0), .sc (.int .u8 0), .sc (.int .u8 0), .sc (.int .u8 0), .sc (.int .u8 0), .sc (.int .u8 0), .sc (.int .u8 0), .sc (.int .u8 0), .sc (.int .u8 0), .sc (.int .u8 0), .sc (.int .u8 0), .sc (.int .u8 0), .sc (.int .u8 0), .sc (.int .u8 0), .sc (.int .u8 0), .sc (.int .u8 0), .sc (.int .u8 0), .sc (.int .u8 0), .sc (.int .u8 0), .sc (.int .u8 0), .sc (.int .u8 0), .sc (.int .u8 0), .sc (.int .u8 0), .sc (.int .u8 0), .sc (.int .u8 0), .sc (.int .u8 0), .sc (.int .u8 0), .sc (.int .u8 0), .sc (.int .u8 0), .sc (.int .u8 0), .sc (.int .u8 0), .sc (.int .u8 0), .sc (.int .u8 0), .sc (.int .u8 0), .sc (.int .u8 0), .sc (.int .u8 0), .sc (.int .u8 0), .sc (.int .u8 0)]
-- FN hmac.Mac
@[simp] theorem JwR : Jw [] = [] := rfl
/-- a key, with noughts behind it -/
def Jmf (s : List Int) : List Int := s ++ List.replicate (64 - s.length) 0
def JfS (key : List Int) : List Int := if key.length > 64 then Jmf (JT key) else Jmf key
def Jmg (key text : List Int) : List Int := JT (X4 (JfS key) 92 ++ JT (X4 (JfS key) 54 ++ text))
def Jcp : List Int -> List Int -> List Int := hid Jmg
theorem Jjf (key text : List Int) : Jcp key text = Jmg key text := by rw [Jcp, hid_eq]
theorem JfT (key text : List Int) : (Jcp key text).length = 32 := by rw [Jjf]; exact Qi _
theorem Jaw (key : List Int) : (JfS key).length = 64 := by
 unfold JfS Jmf
 split
 · rw [List.length_append, Qi, List.length_replicate]
 · rw [List.length_append, List.length_replicate]; omega
def kbG (src : List PV) : List PV := [] ++ List.take 64 src ++ List.drop (0 + min src.length 64) (pu .u8 (List.replicate 64 0))
theorem Jmh (s : List Int) (h : s.length <= 64) : kbG (pu .u8 s) = pu .u8 (Jmf s) := by
 unfold kbG Jmf
 rw [JG, show 0 + min s.length 64 = s.length from by omega, Jiq, List.drop_replicate, List.take_of_length_le (by simpa using h), List.nil_append, ← J4]

-- FN sign.key
def kIn : Int -> Bool := hid fun d => WR d 2
theorem Jew (d : Int) : kIn d = WR d 2 := by rw [kIn, hid_eq]





def F72 : Fns := F0
theorem JsZ : Jy tau Try.prog F72 := JD
def JoM : An := (.seq .leaf (.seq .leaf .leaf))
def g72 (f : Nat) (k : Res -> Option Res) : Option Res := k (Res.mk (.ar 118 [.sc (.int .u32 1116352408), .sc (.int .u32 1899447441), .sc (.int .u32 3049323471), .sc (.int .u32 3921009573), .sc (.int .u32 961987163), .sc (.int .u32 1508970993), .sc (.int .u32 2453635748), .sc (.int .u32 2870763221), .sc (.int .u32 3624381080), .sc (.int .u32 310598401), .sc (.int .u32 607225278), .sc (.int .u32 1426881987), .sc (.int .u32 1925078388), .sc (.int .u32 2162078206), .sc (.int .u32 2614888103), .sc (.int .u32 3248222580), .sc (.int .u32 3835390401), .sc (.int .u32 4022224774), .sc (.int .u32 264347078), .sc (.int .u32 604807628), .sc (.int .u32 770255983), .sc (.int .u32 1249150122), .sc (.int .u32 1555081692), .sc (.int .u32 1996064986), .sc (.int .u32 2554220882), .sc (.int .u32 2821834349), .sc (.int .u32 2952996808), .sc (.int .u32 3210313671), .sc (.int .u32 3336571891), .sc (.int .u32 3584528711), .sc (.int .u32 113926993), .sc (.int .u32 338241895), .sc (.int .u32 666307205), .sc (.int .u32 773529912), .sc (.int .u32 1294757372), .sc (.int .u32 1396182291), .sc (.int .u32 1695183700), .sc (.int .u32 1986661051), .sc (.int .u32 2177026350), .sc (.int .u32 2456956037), .sc (.int .u32 2730485921), .sc (.int .u32 2820302411), .sc (.int .u32 3259730800), .sc (.int .u32 3345764771), .sc (.int .u32 3516065817), .sc (.int .u32 3600352804), .sc (.int .u32 4094571909), .sc (.int .u32 275423344), .sc (.int .u32 430227734), .sc (.int .u32 506948616), .sc (.int .u32 659060556), .sc (.int .u32 883997877), .sc (.int .u32 958139571), .sc (.int .u32 1322822218), .sc (.int .u32 1537002063), .sc (.int .u32 1747873779), .sc (.int .u32 1955562222), .sc (.int .u32 2024104815), .sc (.int .u32 2227730452), .sc (.int .u32 2361852424), .sc (.int .u32 2428436474), .sc (.int .u32 2756734187), .sc (.int .u32 3204031479), .sc (.int .u32 3329325298)]) [] [])
theorem e72 (f : Nat) (k : Res -> Option Res) : JQ tau F72 Try.f72 (Try.f72.body.get!) JoM [.ro] 0 [] [] k = g72 f k := by kernel_rfl
theorem Jz8 (f : Nat) : Jf (Try.f72.body.get!) JoM = [] := by kernel_rfl
theorem Jz9 (f : Nat) : ∀ q ∈ Jf (Try.f72.body.get!) JoM, q.Ok tau Try.prog 0 := by
 rw [Jz8 f]; intro q hq; cases hq
theorem JwS : Try.prog.funcs[72]? = some Try.f72 := by kernel_rfl
theorem JwT : Try.f72.body = some (Try.f72.body.get!) := by kernel_rfl
theorem JAa : Enters Try.prog 72 := enters_of JwS (by kernel_rfl) JwT
def Jmi : List PV -> List Ent -> (Res -> Option Res) -> Option Res
 | [], [], k => g72 0  k
 | _, _, _ => none
def s72 : Sig := { own := [], run := Jmi }
theorem JAb : Jg tau Try.prog 72 s72 := J0 Jp JsZ Jq JwS JwT JoM [.ro] 0 [] Jmi (Jz9 0) fun xs es k res hr => by
 unfold Jmi at hr
 split at hr
 · exact ⟨rfl, 0, (e72 0  _).trans hr⟩
 · cases hr
def N28 : Nat := 278
def F28 : Fns := JH 72 s72 (JH 73 JuX F0)
theorem X5 : Jy tau Try.prog F28 := (JD.add JuY Jy7).add JAb JAa
def Jdd : Code := Qo (Try.f28.body.get!) [1, 1, 1, 1, 1, 0, 0, 0]
def X6 : Nm := [(0, .any), (2, .any), (3, .any), (4, .any), (5, .any)]
def Zd : Nm := [(0, .any), (2, .any), (3, .any), (4, .any), (5, .any)]
def JfU : An := (.seq (.seq .leaf (.cond .leaf .leaf)) (.block none .leaf))
def Jde : Code := Qo (Try.f28.body.get!) [1, 1, 1, 1, 1, 1, 1, 0, 1, 0, 0]
def X7 : Nm := [(2, .any), (3, .any), (4, .any), (5, .any), (6, .any), (7, .any)]
def Ze : Nm := [(2, .any), (3, .any), (4, .any), (5, .any)]
def JfV : An := (.seq (.seq .leaf (.cond .leaf .leaf)) (.seq (.block none .leaf) .leaf))
def Jdf : Code := Qo (Try.f28.body.get!) [1, 1, 1, 1, 1, 1, 1, 1, 1, 0, 1, 0, 0, 1, 0, 0, 0, 1, 0, 0]
def X8 : Nm := [(2, .any), (3, .any), (4, .any), (5, .any), (8, .any), (9, .any), (10, .any)]
def Zf : Nm := [(2, .any), (3, .any), (4, .any), (5, .any), (8, .any), (9, .any)]
def JfW : An := (.seq (.seq .leaf (.cond .leaf .leaf)) (.seq (.block none (.seq .leaf .leaf)) .leaf))
def Jdg : Code := Qo (Try.f28.body.get!) [1, 1, 1, 1, 1, 1, 1, 1, 1, 0, 1, 0, 0, 1, 0, 0, 1, 0, 1, 0, 0]
def X9 : Nm := [(2, .any), (3, .any), (4, .any), (5, .any), (8, .any), (9, .any), (12, .any)]
def Zg : Nm := [(2, .any), (3, .any), (4, .any), (5, .any), (8, .any), (9, .any)]
def JfX : An := (.seq (.seq .leaf (.cond .leaf .leaf)) (.seq (.block none (.seq .leaf .leaf)) .leaf))
def Jdh : Code := Qo (Try.f28.body.get!) [1, 1, 1, 1, 1, 1, 1, 1, 1, 0, 1, 0, 0, 1, 0, 0, 1, 1, 1, 0, 1, 0, 0]
def Ya : Nm := [(2, .any), (3, .any), (4, .any), (5, .any), (8, .any), (9, .any), (15, .any), (16, .any)]
def Zh : Nm := [(2, .any), (3, .any), (4, .any), (5, .any), (8, .any), (9, .any), (15, .any)]
def JfY : An := (.seq (.seq .leaf (.cond .leaf .leaf)) (.seq (.block none (.seq .leaf (.seq .leaf (.seq .leaf .leaf)))) .leaf))
def Jdi : Code := Qo (Try.f28.body.get!) [1, 1, 1, 1, 1, 1, 1, 1, 1, 0, 1, 0, 0, 1, 0, 0, 1, 1, 1, 1, 1, 0, 0]
def Yb : Nm := [(2, .any), (3, .any), (4, .any), (5, .any), (8, .any), (9, .any), (15, .any), (20, .any)]
def Zi : Nm := [(2, .any), (3, .any), (4, .any), (5, .any), (8, .any), (9, .any)]
def JfZ : An := (.seq (.seq .leaf (.cond .leaf .leaf)) (.seq (.block none .leaf) .leaf))
def Jdj : Code := Qo (Try.f28.body.get!) [1, 1, 1, 1, 1, 1, 1, 1, 1, 0, 1, 0, 0]
def Yc : Nm := [(2, .any), (3, .any), (4, .any), (5, .any), (8, .any), (9, .any)]
def Zj : Nm := [(2, .any), (4, .any)]
def Jf0 (r3 : QE) (r4 : QE) (r5 : QE) (r6 : QE) : An := (.seq (.seq .leaf (.cond .leaf .leaf)) (.seq (.block none (.seq (.seq .leaf (.block none (.sum X8 N28 r3))) (.seq (.seq .leaf (.block none (.sum X9 N28 r4))) (.seq .leaf (.seq (.seq .leaf (.block none (.sum Ya N28 r5))) (.seq .leaf (.block none (.sum Yb N28 r6)))))))) .leaf))
def Jdk : Code := Qo (Try.f28.body.get!) [1, 1, 1, 1, 1, 1, 1, 1, 1, 1, 1, 0, 1, 0, 0]
def Yd : Nm := [(2, .any), (4, .any), (21, .any), (22, .any)]
def Zk : Nm := [(2, .any), (21, .any)]
def Jf1 : An := (.seq (.seq .leaf (.cond .leaf .leaf)) (.seq (.block none .leaf) .leaf))
def JoN (r0 : QE) (r1 : QE) (r2 : QE) (r7 : QE) : An := (.seq .leaf (.seq .leaf (.seq .leaf (.seq .leaf (.seq .leaf (.seq (.block none (.sum X6 N28 r0)) (.seq .leaf (.seq (.seq .leaf (.block none (.sum X7 N28 r1))) (.seq .leaf (.seq (.seq .leaf (.block none (.sum Yc N28 r2))) (.seq .leaf (.seq (.seq .leaf (.block none (.sum Yd N28 r7))) (.seq .leaf .leaf)))))))))))))
def Gi (f : Nat) (rc : Bool -> Bool -> List PV -> Nat -> List PV -> List PV -> List PV -> List PV -> Option Res) (k0 : Bool -> Bool -> List PV -> Nat -> List PV -> List PV -> List PV -> List PV -> Option Res) (v0 v1 : Bool) (v2 : List PV) (v3 : Nat) (v4 v5 v6 v7 : List PV) : Option Res := bif (zi v3).tmod 64 != 56 then bif Jk (v3 + 1) 1 && true then rc v0 v1 v2 (v3 + 1) v4 v5 v6 (List.take v3 v7 ++ [.sc (.int .u8 0)]) else none else k0 v0 v1 v2 v3 v4 v5 v6 v7
def Vk (f : Nat) (k0 : Bool -> Bool -> List PV -> Nat -> List PV -> List PV -> List PV -> List PV -> Option Res) : Nat -> Bool -> Bool -> List PV -> Nat -> List PV -> List PV -> List PV -> List PV -> Option Res
 | 0, _, _, _, _, _, _, _, _ => none
 | n + 1, v0, v1, v2, v3, v4, v5, v6, v7 => Gi f (Vk f k0 n) k0 v0 v1 v2 v3 v4 v5 v6 v7
theorem JoO (f : Nat) (k : Kont) (n : Nat) (v0 v1 : Bool) (v2 : List PV) (v3 : Nat) (v4 v5 v6 v7 : List PV) : Jl tau 0 X6 (fun s k => ev tau F28 0 0 Jdd (JfU ) s k) (n + 1) (Jd X6 N28 [.ro 5 v0 v1 v2, .ptr 4464 [], .ptr 4465 [], .ptr 4466 [], .ow 5 4467 [] 0 v3 none] [(4464, .box false 37 (PV.ar 37 v4)), (4465, .box false 118 (PV.ar 118 v5)), (4466, .box false 112 (PV.ar 112 v6)), (4467, .vec false 5 false v7)]) (Jo tau 0 Zd k) = Gi f (fun v0 v1 v2 v3 v4 v5 v6 v7 => Jl tau 0 X6 (fun s k => ev tau F28 0 0 Jdd (JfU ) s k) n (Jd X6 N28 [.ro 5 v0 v1 v2, .ptr 4464 [], .ptr 4465 [], .ptr 4466 [], .ow 5 4467 [] 0 v3 none] [(4464, .box false 37 (PV.ar 37 v4)), (4465, .box false 118 (PV.ar 118 v5)), (4466, .box false 112 (PV.ar 112 v6)), (4467, .vec false 5 false v7)]) (Jo tau 0 Zd k)) (fun x0 x1 x2 x3 x4 x5 x6 x7 => k (Ex.exit 0) (Jd Zd N28 [.ro 5 x0 x1 x2, .ptr 4464 [], .ptr 4465 [], .ptr 4466 [], .ow 5 4467 [] 0 x3 none] [(4464, .box false 37 (PV.ar 37 x4)), (4465, .box false 118 (PV.ar 118 x5)), (4466, .box false 112 (PV.ar 112 x6)), (4467, .vec false 5 false x7)])) v0 v1 v2 v3 v4 v5 v6 v7 := by kernel_rfl
theorem Jjg (f : Nat) (k : Kont) : ∀ (n : Nat) (v0 v1 : Bool) (v2 : List PV) (v3 : Nat) (v4 v5 v6 v7 : List PV), Jl tau 0 X6 (fun s k => ev tau F28 0 0 Jdd (JfU ) s k) n (Jd X6 N28 [.ro 5 v0 v1 v2, .ptr 4464 [], .ptr 4465 [], .ptr 4466 [], .ow 5 4467 [] 0 v3 none] [(4464, .box false 37 (PV.ar 37 v4)), (4465, .box false 118 (PV.ar 118 v5)), (4466, .box false 112 (PV.ar 112 v6)), (4467, .vec false 5 false v7)]) (Jo tau 0 Zd k) = Vk f (fun x0 x1 x2 x3 x4 x5 x6 x7 => k (Ex.exit 0) (Jd Zd N28 [.ro 5 x0 x1 x2, .ptr 4464 [], .ptr 4465 [], .ptr 4466 [], .ow 5 4467 [] 0 x3 none] [(4464, .box false 37 (PV.ar 37 x4)), (4465, .box false 118 (PV.ar 118 x5)), (4466, .box false 112 (PV.ar 112 x6)), (4467, .vec false 5 false x7)])) n v0 v1 v2 v3 v4 v5 v6 v7 | 0, _, _, _, _, _, _, _, _ => rfl | n + 1, v0, v1, v2, v3, v4, v5, v6, v7 => (JoO f k n v0 v1 v2 v3 v4 v5 v6 v7).trans (congrArg (fun r => Gi f r (fun x0 x1 x2 x3 x4 x5 x6 x7 => k (Ex.exit 0) (Jd Zd N28 [.ro 5 x0 x1 x2, .ptr 4464 [], .ptr 4465 [], .ptr 4466 [], .ow 5 4467 [] 0 x3 none] [(4464, .box false 37 (PV.ar 37 x4)), (4465, .box false 118 (PV.ar 118 x5)), (4466, .box false 112 (PV.ar 112 x6)), (4467, .vec false 5 false x7)])) v0 v1 v2 v3 v4 v5 v6 v7) (by funext v0 v1 v2 v3 v4 v5 v6 v7; exact Jjg f k n v0 v1 v2 v3 v4 v5 v6 v7))
def JbY (f : Nat) : List PV -> List (Nat × Ent) -> Kont -> Option Res
 | [.ro 5 v0 v1 v2, .ptr 4464 [], .ptr 4465 [], .ptr 4466 [],
 PV.ow 5 4467 [] 0 v3
  none], [(4464, .box false 37 (PV.ar 37 v4)), (4465, .box false 118 (PV.ar 118 v5)), (4466, .box false 112 (PV.ar 112 v6)),
 (4467,
  Ent.vec false 5 false
   v7)], k => Vk f (fun x0 x1 x2 x3 x4 x5 x6 x7 => k (Ex.exit
 0) (Jd Zd N28 [.ro 5 x0 x1 x2, .ptr 4464 [], .ptr 4465 [], .ptr 4466 [],
 PV.ow 5 4467 [] 0 x3
  none] [(4464, .box false 37 (PV.ar 37 x4)), (4465, .box false 118 (PV.ar 118 x5)), (4466, .box false 112 (PV.ar 112 x6)), (4467, .vec false 5 false x7)])) f v0 v1 v2 v3 v4 v5 v6 v7
 | _, _, _ => none
theorem Js0 (f : Nat) : Jf Jdd JfU = [] := by kernel_rfl
theorem JwU (f : Nat) : (Item.l Jdd X6 N28 (JbY f)).Ok tau Try.prog 0 := Jz Jp X5 Jq (x := JfU) (nm2 := Zd) (Jm _ _ (by rw [Js0 f]; intro q hq; cases hq)) fun vs hp k res hr => by
 unfold JbY at hr
 split at hr
 · exact ⟨f, 0, (Jjg f _ f _ _ _ _ _ _ _ _ ).trans hr⟩
 · cases hr
def Gj (f : Nat) (rc : Nat -> Int -> Int -> List PV -> List PV -> List PV -> List PV -> Option Res) (k0 : Nat -> List PV -> List PV -> List PV -> List PV -> Option Res) (v0 : Nat) (v1 v2 : Int) (v3 v4 v5 v6 : List PV) : Option Res := bif decide (v2 >= 0) then bif decide (0 <= IntKind.u64.wrap (8 * IntKind.u64.wrap v2)) && true then bif Jk (v0 + 1) 1 && true then rc (v0 + 1) v1 (IntKind.i64.wrap (v2 - 1)) v3 v4 v5 (List.take v0 v6 ++ [.sc (.int .u8 (IntKind.u8.wrap (JL IntKind.u64 v1 (IntKind.u64.wrap (8 * IntKind.u64.wrap v2)))))]) else none else none else k0 v0 v3 v4 v5 v6
def Vl (f : Nat) (k0 : Nat -> List PV -> List PV -> List PV -> List PV -> Option Res) : Nat -> Nat -> Int -> Int -> List PV -> List PV -> List PV -> List PV -> Option Res
 | 0, _, _, _, _, _, _, _ => none
 | n + 1, v0, v1, v2, v3, v4, v5, v6 => Gj f (Vl f k0 n) k0 v0 v1 v2 v3 v4 v5 v6
theorem JoP (f : Nat) (k : Kont) (n v0 : Nat) (v1 v2 : Int) (v3 v4 v5 v6 : List PV) : Jl tau 0 X7 (fun s k => ev tau F28 0 0 Jde (JfV ) s k) (n + 1) (Jd X7 N28 [.ptr 4464 [], .ptr 4465 [], .ptr 4466 [], .ow 5 4467 [] 0 v0 none, .sc (.int .u64 v1), .sc (.int .i64 v2)] [(4464, .box false 37 (PV.ar 37 v3)), (4465, .box false 118 (PV.ar 118 v4)), (4466, .box false 112 (PV.ar 112 v5)), (4467, .vec false 5 false v6)]) (Jo tau 0 Ze k) = Gj f (fun v0 v1 v2 v3 v4 v5 v6 => Jl tau 0 X7 (fun s k => ev tau F28 0 0 Jde (JfV ) s k) n (Jd X7 N28 [.ptr 4464 [], .ptr 4465 [], .ptr 4466 [], .ow 5 4467 [] 0 v0 none, .sc (.int .u64 v1), .sc (.int .i64 v2)] [(4464, .box false 37 (PV.ar 37 v3)), (4465, .box false 118 (PV.ar 118 v4)), (4466, .box false 112 (PV.ar 112 v5)), (4467, .vec false 5 false v6)]) (Jo tau 0 Ze k)) (fun x0 x1 x2 x3 x4 => k (Ex.exit 2) (Jd Ze N28 [.ptr 4464 [], .ptr 4465 [], .ptr 4466 [], .ow 5 4467 [] 0 x0 none] [(4464, .box false 37 (PV.ar 37 x1)), (4465, .box false 118 (PV.ar 118 x2)), (4466, .box false 112 (PV.ar 112 x3)), (4467, .vec false 5 false x4)])) v0 v1 v2 v3 v4 v5 v6 := by kernel_rfl
theorem Jjh (f : Nat) (k : Kont) : ∀ (n v0 : Nat) (v1 v2 : Int) (v3 v4 v5 v6 : List PV), Jl tau 0 X7 (fun s k => ev tau F28 0 0 Jde (JfV ) s k) n (Jd X7 N28 [.ptr 4464 [], .ptr 4465 [], .ptr 4466 [], .ow 5 4467 [] 0 v0 none, .sc (.int .u64 v1), .sc (.int .i64 v2)] [(4464, .box false 37 (PV.ar 37 v3)), (4465, .box false 118 (PV.ar 118 v4)), (4466, .box false 112 (PV.ar 112 v5)), (4467, .vec false 5 false v6)]) (Jo tau 0 Ze k) = Vl f (fun x0 x1 x2 x3 x4 => k (Ex.exit 2) (Jd Ze N28 [.ptr 4464 [], .ptr 4465 [], .ptr 4466 [], .ow 5 4467 [] 0 x0 none] [(4464, .box false 37 (PV.ar 37 x1)), (4465, .box false 118 (PV.ar 118 x2)), (4466, .box false 112 (PV.ar 112 x3)), (4467, .vec false 5 false x4)])) n v0 v1 v2 v3 v4 v5 v6 | 0, _, _, _, _, _, _, _ => rfl | n + 1, v0, v1, v2, v3, v4, v5, v6 => (JoP f k n v0 v1 v2 v3 v4 v5 v6).trans (congrArg (fun r => Gj f r (fun x0 x1 x2 x3 x4 => k (Ex.exit 2) (Jd Ze N28 [.ptr 4464 [], .ptr 4465 [], .ptr 4466 [], .ow 5 4467 [] 0 x0 none] [(4464, .box false 37 (PV.ar 37 x1)), (4465, .box false 118 (PV.ar 118 x2)), (4466, .box false 112 (PV.ar 112 x3)), (4467, .vec false 5 false x4)])) v0 v1 v2 v3 v4 v5 v6) (by funext v0 v1 v2 v3 v4 v5 v6; exact Jjh f k n v0 v1 v2 v3 v4 v5 v6))
def JbZ (f : Nat) : List PV -> List (Nat × Ent) -> Kont -> Option Res
 | [.ptr 4464 [], .ptr 4465 [], .ptr 4466 [], .ow 5 4467 [] 0 v0 none, .sc (.int .u64 v1),
 PV.sc
  (Value.int IntKind.i64
   v2)], [(4464, .box false 37 (PV.ar 37 v3)), (4465, .box false 118 (PV.ar 118 v4)), (4466, .box false 112 (PV.ar 112 v5)),
 (4467,
  Ent.vec false 5 false
   v6)], k => Vl f (fun x0 x1 x2 x3 x4 => k (Ex.exit
 2) (Jd Ze N28 [.ptr 4464 [], .ptr 4465 [], .ptr 4466 [],
 PV.ow 5 4467 [] 0 x0
  none] [(4464, .box false 37 (PV.ar 37 x1)), (4465, .box false 118 (PV.ar 118 x2)), (4466, .box false 112 (PV.ar 112 x3)), (4467, .vec false 5 false x4)])) f v0 v1 v2 v3 v4 v5 v6
 | _, _, _ => none
theorem Js1 (f : Nat) : Jf Jde JfV = [] := by kernel_rfl
theorem JwV (f : Nat) : (Item.l Jde X7 N28 (JbZ f)).Ok tau Try.prog 0 := Jz Jp X5 Jq (x := JfV) (nm2 := Ze) (Jm _ _ (by rw [Js1 f]; intro q hq; cases hq)) fun vs hp k res hr => by
 unfold JbZ at hr
 split at hr
 · exact ⟨f, 0, (Jjh f _ f _ _ _ _ _ _ _ ).trans hr⟩
 · cases hr
def Gk (f : Nat) (rc : Nat -> Int -> Int -> List PV -> List PV -> List PV -> List PV -> List PV -> Option Res) (k0 : Nat -> Int -> List PV -> List PV -> List PV -> List PV -> List PV -> Option Res) (v0 : Nat) (v1 v2 : Int) (v3 v4 v5 v6 v7 : List PV) : Option Res := bif decide (v2 < 16) then bif decide (0 <= IntKind.i64.wrap (v1 + IntKind.i64.wrap (4 * v2))) && decide (IntKind.i64.wrap (v1 + IntKind.i64.wrap (4 * v2)) < zi v0) && true then bif PV.isInt IntKind.u8 (Jb (v6.getD (0 + (IntKind.i64.wrap (v1 + IntKind.i64.wrap (4 * v2))).toNat) PV.top) []) && true then bif decide (0 <= IntKind.i64.wrap (IntKind.i64.wrap (v1 + IntKind.i64.wrap (4 * v2)) + 1)) && decide (IntKind.i64.wrap (IntKind.i64.wrap (v1 + IntKind.i64.wrap (4 * v2)) + 1) < zi v0) && true then bif PV.isInt IntKind.u8 (Jb (v6.getD (0 + (IntKind.i64.wrap (IntKind.i64.wrap (v1 + IntKind.i64.wrap (4 * v2)) + 1)).toNat) PV.top) []) && true then bif decide (0 <= IntKind.i64.wrap (IntKind.i64.wrap (v1 + IntKind.i64.wrap (4 * v2)) + 2)) && decide (IntKind.i64.wrap (IntKind.i64.wrap (v1 + IntKind.i64.wrap (4 * v2)) + 2) < zi v0) && true then bif PV.isInt IntKind.u8 (Jb (v6.getD (0 + (IntKind.i64.wrap (IntKind.i64.wrap (v1 + IntKind.i64.wrap (4 * v2)) + 2)).toNat) PV.top) []) && true then bif decide (0 <= IntKind.i64.wrap (IntKind.i64.wrap (v1 + IntKind.i64.wrap (4 * v2)) + 3)) && decide (IntKind.i64.wrap (IntKind.i64.wrap (v1 + IntKind.i64.wrap (4 * v2)) + 3) < zi v0) && true then bif PV.isInt IntKind.u8 (Jb (v6.getD (0 + (IntKind.i64.wrap (IntKind.i64.wrap (v1 + IntKind.i64.wrap (4 * v2)) + 3)).toNat) PV.top) []) && true then bif decide (0 <= v2) && decide (v2 < zi 64) && true then rc v0 v1 (IntKind.i64.wrap (v2 + 1)) v3 v4 v5 v6 (v7.set v2.toNat (.sc (.int .u32 (JA BinOp.or IntKind.u32 (JA BinOp.or IntKind.u32 (JA BinOp.or IntKind.u32 (Xf IntKind.u32 (IntKind.u32.wrap (Jb (v6.getD (0 + (IntKind.i64.wrap (v1 + IntKind.i64.wrap (4 * v2))).toNat) PV.top) []).int) 24) (Xf IntKind.u32 (IntKind.u32.wrap (Jb (v6.getD (0 + (IntKind.i64.wrap (IntKind.i64.wrap (v1 + IntKind.i64.wrap (4 * v2)) + 1)).toNat) PV.top) []).int) 16)) (Xf IntKind.u32 (IntKind.u32.wrap (Jb (v6.getD (0 + (IntKind.i64.wrap (IntKind.i64.wrap (v1 + IntKind.i64.wrap (4 * v2)) + 2)).toNat) PV.top) []).int) 8)) (IntKind.u32.wrap (Jb (v6.getD (0 + (IntKind.i64.wrap (IntKind.i64.wrap (v1 + IntKind.i64.wrap (4 * v2)) + 3)).toNat) PV.top) []).int))))) else none else none else none else none else none else none else none else none else none else k0 v0 v1 v3 v4 v5 v6 v7
def Vm (f : Nat) (k0 : Nat -> Int -> List PV -> List PV -> List PV -> List PV -> List PV -> Option Res) : Nat -> Nat -> Int -> Int -> List PV -> List PV -> List PV -> List PV -> List PV -> Option Res
 | 0, _, _, _, _, _, _, _, _ => none
 | n + 1, v0, v1, v2, v3, v4, v5, v6, v7 => Gk f (Vm f k0 n) k0 v0 v1 v2 v3 v4 v5 v6 v7
theorem JoQ (f : Nat) (k : Kont) (n v0 : Nat) (v1 v2 : Int) (v3 v4 v5 v6 v7 : List PV) : Jl tau 0 X8 (fun s k => ev tau F28 0 0 Jdf (JfW ) s k) (n + 1) (Jd X8 N28 [.ptr 4464 [], .ptr 4465 [], .ptr 4466 [], .ow 5 4467 [] 0 v0 none, .ptr 4468 [], .sc (.int .i64 v1), .sc (.int .i64 v2)] [(4464, .box false 37 (PV.ar 37 v3)), (4465, .box false 118 (PV.ar 118 v4)), (4466, .box false 112 (PV.ar 112 v5)), (4467, .vec false 5 false v6), (4468, .box false 118 (PV.ar 118 v7))]) (Jo tau 0 Zf k) = Gk f (fun v0 v1 v2 v3 v4 v5 v6 v7 => Jl tau 0 X8 (fun s k => ev tau F28 0 0 Jdf (JfW ) s k) n (Jd X8 N28 [.ptr 4464 [], .ptr 4465 [], .ptr 4466 [], .ow 5 4467 [] 0 v0 none, .ptr 4468 [], .sc (.int .i64 v1), .sc (.int .i64 v2)] [(4464, .box false 37 (PV.ar 37 v3)), (4465, .box false 118 (PV.ar 118 v4)), (4466, .box false 112 (PV.ar 112 v5)), (4467, .vec false 5 false v6), (4468, .box false 118 (PV.ar 118 v7))]) (Jo tau 0 Zf k)) (fun x0 x1 x2 x3 x4 x5 x6 => k (Ex.exit 6) (Jd Zf N28 [.ptr 4464 [], .ptr 4465 [], .ptr 4466 [], .ow 5 4467 [] 0 x0 none, .ptr 4468 [], .sc (.int .i64 x1)] [(4464, .box false 37 (PV.ar 37 x2)), (4465, .box false 118 (PV.ar 118 x3)), (4466, .box false 112 (PV.ar 112 x4)), (4467, .vec false 5 false x5), (4468, .box false 118 (PV.ar 118 x6))])) v0 v1 v2 v3 v4 v5 v6 v7 := by kernel_rfl
theorem Jji (f : Nat) (k : Kont) : ∀ (n v0 : Nat) (v1 v2 : Int) (v3 v4 v5 v6 v7 : List PV), Jl tau 0 X8 (fun s k => ev tau F28 0 0 Jdf (JfW ) s k) n (Jd X8 N28 [.ptr 4464 [], .ptr 4465 [], .ptr 4466 [], .ow 5 4467 [] 0 v0 none, .ptr 4468 [], .sc (.int .i64 v1), .sc (.int .i64 v2)] [(4464, .box false 37 (PV.ar 37 v3)), (4465, .box false 118 (PV.ar 118 v4)), (4466, .box false 112 (PV.ar 112 v5)), (4467, .vec false 5 false v6), (4468, .box false 118 (PV.ar 118 v7))]) (Jo tau 0 Zf k) = Vm f (fun x0 x1 x2 x3 x4 x5 x6 => k (Ex.exit 6) (Jd Zf N28 [.ptr 4464 [], .ptr 4465 [], .ptr 4466 [], .ow 5 4467 [] 0 x0 none, .ptr 4468 [], .sc (.int .i64 x1)] [(4464, .box false 37 (PV.ar 37 x2)), (4465, .box false 118 (PV.ar 118 x3)), (4466, .box false 112 (PV.ar 112 x4)), (4467, .vec false 5 false x5), (4468, .box false 118 (PV.ar 118 x6))])) n v0 v1 v2 v3 v4 v5 v6 v7 | 0, _, _, _, _, _, _, _, _ => rfl | n + 1, v0, v1, v2, v3, v4, v5, v6, v7 => (JoQ f k n v0 v1 v2 v3 v4 v5 v6 v7).trans (congrArg (fun r => Gk f r (fun x0 x1 x2 x3 x4 x5 x6 => k (Ex.exit 6) (Jd Zf N28 [.ptr 4464 [], .ptr 4465 [], .ptr 4466 [], .ow 5 4467 [] 0 x0 none, .ptr 4468 [], .sc (.int .i64 x1)] [(4464, .box false 37 (PV.ar 37 x2)), (4465, .box false 118 (PV.ar 118 x3)), (4466, .box false 112 (PV.ar 112 x4)), (4467, .vec false 5 false x5), (4468, .box false 118 (PV.ar 118 x6))])) v0 v1 v2 v3 v4 v5 v6 v7) (by funext v0 v1 v2 v3 v4 v5 v6 v7; exact Jji f k n v0 v1 v2 v3 v4 v5 v6 v7))
def Jax (f : Nat) : List PV -> List (Nat × Ent) -> Kont -> Option Res
 | [.ptr 4464 [], .ptr 4465 [], .ptr 4466 [], .ow 5 4467 [] 0 v0 none, .ptr 4468 [], .sc (.int .i64 v1),
 PV.sc
  (Value.int IntKind.i64
   v2)], [(4464, .box false 37 (PV.ar 37 v3)), (4465, .box false 118 (PV.ar 118 v4)), (4466, .box false 112 (PV.ar 112 v5)), (4467, .vec false 5 false v6),
 (4468,
  Ent.box false 118
   (PV.ar 118
    v7))], k => Vm f (fun x0 x1 x2 x3 x4 x5 x6 => k (Ex.exit
 6) (Jd Zf N28 [.ptr 4464 [], .ptr 4465 [], .ptr 4466 [], .ow 5 4467 [] 0 x0 none, .ptr 4468 [],
 PV.sc
  (Value.int IntKind.i64
   x1)] [(4464, .box false 37 (PV.ar 37 x2)), (4465, .box false 118 (PV.ar 118 x3)), (4466, .box false 112 (PV.ar 112 x4)), (4467, .vec false 5 false x5),
 (4468, .box false 118 (PV.ar 118 x6))])) f v0 v1 v2 v3 v4 v5 v6 v7
 | _, _, _ => none
theorem Js2 (f : Nat) : Jf Jdf JfW = [] := by kernel_rfl
theorem JwW (f : Nat) : (Item.l Jdf X8 N28 (Jax f)).Ok tau Try.prog 0 := Jz Jp X5 Jq (x := JfW) (nm2 := Zf) (Jm _ _ (by rw [Js2 f]; intro q hq; cases hq)) fun vs hp k res hr => by
 unfold Jax at hr
 split at hr
 · exact ⟨f, 0, (Jji f _ f _ _ _ _ _ _ _ _ ).trans hr⟩
 · cases hr
def Gl (f : Nat) (rc : Nat -> Int -> Int -> List PV -> List PV -> List PV -> List PV -> List PV -> Option Res) (k0 : Nat -> Int -> List PV -> List PV -> List PV -> List PV -> List PV -> Option Res) (v0 : Nat) (v1 v2 : Int) (v3 v4 v5 v6 v7 : List PV) : Option Res := bif decide (v2 < 64) then bif decide (0 <= IntKind.i64.wrap (v2 - 15)) && decide (IntKind.i64.wrap (v2 - 15) < zi 64) && true then bif PV.isInt IntKind.u32 (Jb (PV.ar 118 v7) [(IntKind.i64.wrap (v2 - 15)).toNat]) && true then bif decide (0 <= IntKind.i64.wrap (v2 - 2)) && decide (IntKind.i64.wrap (v2 - 2) < zi 64) && true then bif PV.isInt IntKind.u32 (Jb (PV.ar 118 v7) [(IntKind.i64.wrap (v2 - 2)).toNat]) && true then bif decide (0 <= IntKind.i64.wrap (v2 - 7)) && decide (IntKind.i64.wrap (v2 - 7) < zi 64) && true then bif PV.isInt IntKind.u32 (Jb (PV.ar 118 v7) [(IntKind.i64.wrap (v2 - 7)).toNat]) && true then bif decide (0 <= IntKind.i64.wrap (v2 - 16)) && decide (IntKind.i64.wrap (v2 - 16) < zi 64) && true then bif PV.isInt IntKind.u32 (Jb (PV.ar 118 v7) [(IntKind.i64.wrap (v2 - 16)).toNat]) && true then bif decide (0 <= v2) && decide (v2 < zi 64) && true then rc v0 v1 (IntKind.i64.wrap (v2 + 1)) v3 v4 v5 v6 (v7.set v2.toNat (.sc (.int .u32 (IntKind.u32.wrap (IntKind.u32.wrap (IntKind.u32.wrap (JA BinOp.xor IntKind.u32 (JA BinOp.xor IntKind.u32 (rr (Jb (PV.ar 118 v7) [(IntKind.i64.wrap (v2 - 2)).toNat]).int 17) (rr (Jb (PV.ar 118 v7) [(IntKind.i64.wrap (v2 - 2)).toNat]).int 19)) (JL IntKind.u32 (Jb (PV.ar 118 v7) [(IntKind.i64.wrap (v2 - 2)).toNat]).int 10) + (Jb (PV.ar 118 v7) [(IntKind.i64.wrap (v2 - 7)).toNat]).int) + JA BinOp.xor IntKind.u32 (JA BinOp.xor IntKind.u32 (rr (Jb (PV.ar 118 v7) [(IntKind.i64.wrap (v2 - 15)).toNat]).int 7) (rr (Jb (PV.ar 118 v7) [(IntKind.i64.wrap (v2 - 15)).toNat]).int 18)) (JL IntKind.u32 (Jb (PV.ar 118 v7) [(IntKind.i64.wrap (v2 - 15)).toNat]).int 3)) + (Jb (PV.ar 118 v7) [(IntKind.i64.wrap (v2 - 16)).toNat]).int))))) else none else none else none else none else none else none else none else none else none else k0 v0 v1 v3 v4 v5 v6 v7
def Vn (f : Nat) (k0 : Nat -> Int -> List PV -> List PV -> List PV -> List PV -> List PV -> Option Res) : Nat -> Nat -> Int -> Int -> List PV -> List PV -> List PV -> List PV -> List PV -> Option Res
 | 0, _, _, _, _, _, _, _, _ => none
 | n + 1, v0, v1, v2, v3, v4, v5, v6, v7 => Gl f (Vn f k0 n) k0 v0 v1 v2 v3 v4 v5 v6 v7
theorem JoR (f : Nat) (k : Kont) (n v0 : Nat) (v1 v2 : Int) (v3 v4 v5 v6 v7 : List PV) : Jl tau 0 X9 (fun s k => ev tau F28 0 0 Jdg (JfX ) s k) (n + 1) (Jd X9 N28 [.ptr 4464 [], .ptr 4465 [], .ptr 4466 [], .ow 5 4467 [] 0 v0 none, .ptr 4468 [], .sc (.int .i64 v1), .sc (.int .i64 v2)] [(4464, .box false 37 (PV.ar 37 v3)), (4465, .box false 118 (PV.ar 118 v4)), (4466, .box false 112 (PV.ar 112 v5)), (4467, .vec false 5 false v6), (4468, .box false 118 (PV.ar 118 v7))]) (Jo tau 0 Zg k) = Gl f (fun v0 v1 v2 v3 v4 v5 v6 v7 => Jl tau 0 X9 (fun s k => ev tau F28 0 0 Jdg (JfX ) s k) n (Jd X9 N28 [.ptr 4464 [], .ptr 4465 [], .ptr 4466 [], .ow 5 4467 [] 0 v0 none, .ptr 4468 [], .sc (.int .i64 v1), .sc (.int .i64 v2)] [(4464, .box false 37 (PV.ar 37 v3)), (4465, .box false 118 (PV.ar 118 v4)), (4466, .box false 112 (PV.ar 112 v5)), (4467, .vec false 5 false v6), (4468, .box false 118 (PV.ar 118 v7))]) (Jo tau 0 Zg k)) (fun x0 x1 x2 x3 x4 x5 x6 => k (Ex.exit 8) (Jd Zg N28 [.ptr 4464 [], .ptr 4465 [], .ptr 4466 [], .ow 5 4467 [] 0 x0 none, .ptr 4468 [], .sc (.int .i64 x1)] [(4464, .box false 37 (PV.ar 37 x2)), (4465, .box false 118 (PV.ar 118 x3)), (4466, .box false 112 (PV.ar 112 x4)), (4467, .vec false 5 false x5), (4468, .box false 118 (PV.ar 118 x6))])) v0 v1 v2 v3 v4 v5 v6 v7 := by kernel_rfl
theorem Jjj (f : Nat) (k : Kont) : ∀ (n v0 : Nat) (v1 v2 : Int) (v3 v4 v5 v6 v7 : List PV), Jl tau 0 X9 (fun s k => ev tau F28 0 0 Jdg (JfX ) s k) n (Jd X9 N28 [.ptr 4464 [], .ptr 4465 [], .ptr 4466 [], .ow 5 4467 [] 0 v0 none, .ptr 4468 [], .sc (.int .i64 v1), .sc (.int .i64 v2)] [(4464, .box false 37 (PV.ar 37 v3)), (4465, .box false 118 (PV.ar 118 v4)), (4466, .box false 112 (PV.ar 112 v5)), (4467, .vec false 5 false v6), (4468, .box false 118 (PV.ar 118 v7))]) (Jo tau 0 Zg k) = Vn f (fun x0 x1 x2 x3 x4 x5 x6 => k (Ex.exit 8) (Jd Zg N28 [.ptr 4464 [], .ptr 4465 [], .ptr 4466 [], .ow 5 4467 [] 0 x0 none, .ptr 4468 [], .sc (.int .i64 x1)] [(4464, .box false 37 (PV.ar 37 x2)), (4465, .box false 118 (PV.ar 118 x3)), (4466, .box false 112 (PV.ar 112 x4)), (4467, .vec false 5 false x5), (4468, .box false 118 (PV.ar 118 x6))])) n v0 v1 v2 v3 v4 v5 v6 v7 | 0, _, _, _, _, _, _, _, _ => rfl | n + 1, v0, v1, v2, v3, v4, v5, v6, v7 => (JoR f k n v0 v1 v2 v3 v4 v5 v6 v7).trans (congrArg (fun r => Gl f r (fun x0 x1 x2 x3 x4 x5 x6 => k (Ex.exit 8) (Jd Zg N28 [.ptr 4464 [], .ptr 4465 [], .ptr 4466 [], .ow 5 4467 [] 0 x0 none, .ptr 4468 [], .sc (.int .i64 x1)] [(4464, .box false 37 (PV.ar 37 x2)), (4465, .box false 118 (PV.ar 118 x3)), (4466, .box false 112 (PV.ar 112 x4)), (4467, .vec false 5 false x5), (4468, .box false 118 (PV.ar 118 x6))])) v0 v1 v2 v3 v4 v5 v6 v7) (by funext v0 v1 v2 v3 v4 v5 v6 v7; exact Jjj f k n v0 v1 v2 v3 v4 v5 v6 v7))
def Jay (f : Nat) : List PV -> List (Nat × Ent) -> Kont -> Option Res
 | [.ptr 4464 [], .ptr 4465 [], .ptr 4466 [], .ow 5 4467 [] 0 v0 none, .ptr 4468 [], .sc (.int .i64 v1),
 PV.sc
  (Value.int IntKind.i64
   v2)], [(4464, .box false 37 (PV.ar 37 v3)), (4465, .box false 118 (PV.ar 118 v4)), (4466, .box false 112 (PV.ar 112 v5)), (4467, .vec false 5 false v6),
 (4468,
  Ent.box false 118
   (PV.ar 118
    v7))], k => Vn f (fun x0 x1 x2 x3 x4 x5 x6 => k (Ex.exit
 8) (Jd Zg N28 [.ptr 4464 [], .ptr 4465 [], .ptr 4466 [], .ow 5 4467 [] 0 x0 none, .ptr 4468 [],
 PV.sc
  (Value.int IntKind.i64
   x1)] [(4464, .box false 37 (PV.ar 37 x2)), (4465, .box false 118 (PV.ar 118 x3)), (4466, .box false 112 (PV.ar 112 x4)), (4467, .vec false 5 false x5),
 (4468, .box false 118 (PV.ar 118 x6))])) f v0 v1 v2 v3 v4 v5 v6 v7
 | _, _, _ => none
theorem Js3 (f : Nat) : Jf Jdg JfX = [] := by kernel_rfl
theorem JwX (f : Nat) : (Item.l Jdg X9 N28 (Jay f)).Ok tau Try.prog 0 := Jz Jp X5 Jq (x := JfX) (nm2 := Zg) (Jm _ _ (by rw [Js3 f]; intro q hq; cases hq)) fun vs hp k res hr => by
 unfold Jay at hr
 split at hr
 · exact ⟨f, 0, (Jjj f _ f _ _ _ _ _ _ _ _ ).trans hr⟩
 · cases hr
def Gm (f : Nat) (rc : Nat -> Int -> Int -> List PV -> List PV -> List PV -> List PV -> List PV -> List PV -> Option Res) (k0 : Nat -> Int -> List PV -> List PV -> List PV -> List PV -> List PV -> List PV -> Option Res) (v0 : Nat) (v1 v2 : Int) (v3 v4 v5 v6 v7 v8 : List PV) : Option Res := bif decide (v2 < 64) then bif PV.isInt IntKind.u32 (Jb (PV.ar 112 v8) [4]) && true then bif PV.isInt IntKind.u32 (Jb (PV.ar 112 v8) [7]) && true then bif PV.isInt IntKind.u32 (Jb (PV.ar 112 v8) [5]) && true then bif PV.isInt IntKind.u32 (Jb (PV.ar 112 v8) [6]) && true then bif decide (0 <= v2) && decide (v2 < zi 64) && true then bif PV.isInt IntKind.u32 (Jb (PV.ar 118 v4) [v2.toNat]) && true then bif decide (0 <= v2) && decide (v2 < zi 64) && true then bif PV.isInt IntKind.u32 (Jb (PV.ar 118 v7) [v2.toNat]) && true then bif PV.isInt IntKind.u32 (Jb (PV.ar 112 v8) [0]) && true then bif PV.isInt IntKind.u32 (Jb (PV.ar 112 v8) [0]) && true then bif PV.isInt IntKind.u32 (Jb (PV.ar 112 v8) [0]) && true then bif PV.isInt IntKind.u32 (Jb (PV.ar 112 v8) [0]) && true then bif PV.isInt IntKind.u32 (Jb (PV.ar 112 v8) [1]) && true then bif PV.isInt IntKind.u32 (Jb (PV.ar 112 v8) [0]) && true then bif PV.isInt IntKind.u32 (Jb (PV.ar 112 v8) [2]) && true then bif PV.isInt IntKind.u32 (Jb (PV.ar 112 v8) [1]) && true then bif PV.isInt IntKind.u32 (Jb (PV.ar 112 v8) [2]) && true then bif PV.isInt IntKind.u32 (Jb (PV.ar 112 v8) [0]) && true then bif PV.isInt IntKind.u32 (Jb (PV.ar 112 v8) [1]) && true then bif PV.isInt IntKind.u32 (Jb (PV.ar 112 v8) [2]) && true then bif PV.isInt IntKind.u32 (Jb (PV.ar 112 v8) [3]) && true then bif PV.isInt IntKind.u32 (Jb (PV.ar 112 v8) [4]) && true then bif PV.isInt IntKind.u32 (Jb (PV.ar 112 v8) [5]) && true then bif PV.isInt IntKind.u32 (Jb (PV.ar 112 v8) [6]) && true then rc v0 v1 (IntKind.i64.wrap (v2 + 1)) v3 v4 v5 v6 v7 ([.sc (.int .u32 (IntKind.u32.wrap (IntKind.u32.wrap (IntKind.u32.wrap (IntKind.u32.wrap (IntKind.u32.wrap ((Jb (PV.ar 112 v8) [7]).int + JA BinOp.xor IntKind.u32 (JA BinOp.xor IntKind.u32 (rr (Jb (PV.ar 112 v8) [4]).int 6) (rr (Jb (PV.ar 112 v8) [4]).int 11)) (rr (Jb (PV.ar 112 v8) [4]).int 25)) + JA BinOp.xor IntKind.u32 (JA BinOp.and IntKind.u32 (Jb (PV.ar 112 v8) [4]).int (Jb (PV.ar 112 v8) [5]).int) (JA BinOp.and IntKind.u32 (JA BinOp.xor IntKind.u32 (Int.ofNat (2 ^ IntKind.u32.bits - Nat.succ 0)) (Jb (PV.ar 112 v8) [4]).int) (Jb (PV.ar 112 v8) [6]).int)) + (Jb (PV.ar 118 v4) [v2.toNat]).int) + (Jb (PV.ar 118 v7) [v2.toNat]).int) + IntKind.u32.wrap (JA BinOp.xor IntKind.u32 (JA BinOp.xor IntKind.u32 (rr (Jb (PV.ar 112 v8) [0]).int 2) (rr (Jb (PV.ar 112 v8) [0]).int 13)) (rr (Jb (PV.ar 112 v8) [0]).int 22) + JA BinOp.xor IntKind.u32 (JA BinOp.xor IntKind.u32 (JA BinOp.and IntKind.u32 (Jb (PV.ar 112 v8) [0]).int (Jb (PV.ar 112 v8) [1]).int) (JA BinOp.and IntKind.u32 (Jb (PV.ar 112 v8) [0]).int (Jb (PV.ar 112 v8) [2]).int)) (JA BinOp.and IntKind.u32 (Jb (PV.ar 112 v8) [1]).int (Jb (PV.ar 112 v8) [2]).int))))), .sc (.int .u32 (Jb (PV.ar 112 v8) [0]).int), .sc (.int .u32 (Jb (PV.ar 112 v8) [1]).int), .sc (.int .u32 (Jb (PV.ar 112 v8) [2]).int), .sc (.int .u32 (IntKind.u32.wrap ((Jb (PV.ar 112 v8) [3]).int + IntKind.u32.wrap (IntKind.u32.wrap (IntKind.u32.wrap (IntKind.u32.wrap ((Jb (PV.ar 112 v8) [7]).int + JA BinOp.xor IntKind.u32 (JA BinOp.xor IntKind.u32 (rr (Jb (PV.ar 112 v8) [4]).int 6) (rr (Jb (PV.ar 112 v8) [4]).int 11)) (rr (Jb (PV.ar 112 v8) [4]).int 25)) + JA BinOp.xor IntKind.u32 (JA BinOp.and IntKind.u32 (Jb (PV.ar 112 v8) [4]).int (Jb (PV.ar 112 v8) [5]).int) (JA BinOp.and IntKind.u32 (JA BinOp.xor IntKind.u32 (Int.ofNat (2 ^ IntKind.u32.bits - Nat.succ 0)) (Jb (PV.ar 112 v8) [4]).int) (Jb (PV.ar 112 v8) [6]).int)) + (Jb (PV.ar 118 v4) [v2.toNat]).int) + (Jb (PV.ar 118 v7) [v2.toNat]).int)))), .sc (.int .u32 (Jb (PV.ar 112 v8) [4]).int), .sc (.int .u32 (Jb (PV.ar 112 v8) [5]).int), .sc (.int .u32 (Jb (PV.ar 112 v8) [6]).int)]) else none else none else none else none else none else none else none else none else none else none else none else none else none else none else none else none else none else none else none else none else none else none else none else none else k0 v0 v1 v3 v4 v5 v6 v7 v8
def Vo (f : Nat) (k0 : Nat -> Int -> List
 PV -> List PV -> List PV -> List PV -> List PV -> List PV -> Option Res) : Nat -> Nat -> Int -> Int -> List PV -> List PV -> List PV -> List PV -> List PV -> List PV -> Option Res
 | 0, _, _, _, _, _, _, _, _, _ => none
 | n + 1, v0, v1, v2, v3, v4, v5, v6, v7, v8 => Gm f (Vo f k0 n) k0 v0 v1 v2 v3 v4 v5 v6 v7 v8
theorem JoS (f : Nat) (k : Kont) (n v0 : Nat) (v1 v2 : Int) (v3 v4 v5 v6 v7 v8 : List PV) : Jl tau 0 Ya (fun s k => ev tau F28 0 0 Jdh (JfY ) s k) (n + 1) (Jd Ya N28 [.ptr 4464 [], .ptr 4465 [], .ptr 4466 [], .ow 5 4467 [] 0 v0 none, .ptr 4468 [], .sc (.int .i64 v1), .ptr 4469 [], .sc (.int .i64 v2)] [(4464, .box false 37 (PV.ar 37 v3)), (4465, .box false 118 (PV.ar 118 v4)), (4466, .box false 112 (PV.ar 112 v5)), (4467, .vec false 5 false v6), (4468, .box false 118 (PV.ar 118 v7)), (4469, .box false 112 (PV.ar 112 v8))]) (Jo tau 0 Zh k) = Gm f (fun v0 v1 v2 v3 v4 v5 v6 v7 v8 => Jl tau 0 Ya (fun s k => ev tau F28 0 0 Jdh (JfY ) s k) n (Jd Ya N28 [.ptr 4464 [], .ptr 4465 [], .ptr 4466 [], .ow 5 4467 [] 0 v0 none, .ptr 4468 [], .sc (.int .i64 v1), .ptr 4469 [], .sc (.int .i64 v2)] [(4464, .box false 37 (PV.ar 37 v3)), (4465, .box false 118 (PV.ar 118 v4)), (4466, .box false 112 (PV.ar 112 v5)), (4467, .vec false 5 false v6), (4468, .box false 118 (PV.ar 118 v7)), (4469, .box false 112 (PV.ar 112 v8))]) (Jo tau 0 Zh k)) (fun x0 x1 x2 x3 x4 x5 x6 x7 => k (Ex.exit 10) (Jd Zh N28 [.ptr 4464 [], .ptr 4465 [], .ptr 4466 [], .ow 5 4467 [] 0 x0 none, .ptr 4468 [], .sc (.int .i64 x1), .ptr 4469 []] [(4464, .box false 37 (PV.ar 37 x2)), (4465, .box false 118 (PV.ar 118 x3)), (4466, .box false 112 (PV.ar 112 x4)), (4467, .vec false 5 false x5), (4468, .box false 118 (PV.ar 118 x6)), (4469, .box false 112 (PV.ar 112 x7))])) v0 v1 v2 v3 v4 v5 v6 v7 v8 := by kernel_rfl
theorem Jjk (f : Nat) (k : Kont) : ∀ (n v0 : Nat) (v1 v2 : Int) (v3 v4 v5 v6 v7 v8 : List PV), Jl tau 0 Ya (fun s k => ev tau F28 0 0 Jdh (JfY ) s k) n (Jd Ya N28 [.ptr 4464 [], .ptr 4465 [], .ptr 4466 [], .ow 5 4467 [] 0 v0 none, .ptr 4468 [], .sc (.int .i64 v1), .ptr 4469 [], .sc (.int .i64 v2)] [(4464, .box false 37 (PV.ar 37 v3)), (4465, .box false 118 (PV.ar 118 v4)), (4466, .box false 112 (PV.ar 112 v5)), (4467, .vec false 5 false v6), (4468, .box false 118 (PV.ar 118 v7)), (4469, .box false 112 (PV.ar 112 v8))]) (Jo tau 0 Zh k) = Vo f (fun x0 x1 x2 x3 x4 x5 x6 x7 => k (Ex.exit 10) (Jd Zh N28 [.ptr 4464 [], .ptr 4465 [], .ptr 4466 [], .ow 5 4467 [] 0 x0 none, .ptr 4468 [], .sc (.int .i64 x1), .ptr 4469 []] [(4464, .box false 37 (PV.ar 37 x2)), (4465, .box false 118 (PV.ar 118 x3)), (4466, .box false 112 (PV.ar 112 x4)), (4467, .vec false 5 false x5), (4468, .box false 118 (PV.ar 118 x6)), (4469, .box false 112 (PV.ar 112 x7))])) n v0 v1 v2 v3 v4 v5 v6 v7 v8 | 0, _, _, _, _, _, _, _, _, _ => rfl | n + 1, v0, v1, v2, v3, v4, v5, v6, v7, v8 => (JoS f k n v0 v1 v2 v3 v4 v5 v6 v7 v8).trans (congrArg (fun r => Gm f r (fun x0 x1 x2 x3 x4 x5 x6 x7 => k (Ex.exit 10) (Jd Zh N28 [.ptr 4464 [], .ptr 4465 [], .ptr 4466 [], .ow 5 4467 [] 0 x0 none, .ptr 4468 [], .sc (.int .i64 x1), .ptr 4469 []] [(4464, .box false 37 (PV.ar 37 x2)), (4465, .box false 118 (PV.ar 118 x3)), (4466, .box false 112 (PV.ar 112 x4)), (4467, .vec false 5 false x5), (4468, .box false 118 (PV.ar 118 x6)), (4469, .box false 112 (PV.ar 112 x7))])) v0 v1 v2 v3 v4 v5 v6 v7 v8) (by funext v0 v1 v2 v3 v4 v5 v6 v7 v8; exact Jjk f k n v0 v1 v2 v3 v4 v5 v6 v7 v8))
def Jaz (f : Nat) : List PV -> List (Nat × Ent) -> Kont -> Option Res
 | [.ptr 4464 [], .ptr 4465 [], .ptr 4466 [], .ow 5 4467 [] 0 v0 none, .ptr 4468 [], .sc (.int .i64 v1), .ptr 4469 [],
 PV.sc
  (Value.int IntKind.i64
   v2)], [(4464, .box false 37 (PV.ar 37 v3)), (4465, .box false 118 (PV.ar 118 v4)), (4466, .box false 112 (PV.ar 112 v5)), (4467, .vec false 5 false v6),
 (4468, .box false 118 (PV.ar 118 v7)),
 (4469,
  Ent.box false 112
   (PV.ar 112
    v8))], k => Vo f (fun x0 x1 x2 x3 x4 x5 x6 x7 => k (Ex.exit
 10) (Jd Zh N28 [.ptr 4464 [], .ptr 4465 [], .ptr 4466 [], .ow 5 4467 [] 0 x0 none, .ptr 4468 [], .sc (.int .i64 x1),
 PV.ptr 4469
  []] [(4464, .box false 37 (PV.ar 37 x2)), (4465, .box false 118 (PV.ar 118 x3)), (4466, .box false 112 (PV.ar 112 x4)), (4467, .vec false 5 false x5),
 (4468, .box false 118 (PV.ar 118 x6)), (4469, .box false 112 (PV.ar 112 x7))])) f v0 v1 v2 v3 v4 v5 v6 v7 v8
 | _, _, _ => none
theorem Js4 (f : Nat) : Jf Jdh JfY = [] := by kernel_rfl
theorem JwY (f : Nat) : (Item.l Jdh Ya N28 (Jaz f)).Ok tau Try.prog 0 := Jz Jp X5 Jq (x := JfY) (nm2 := Zh) (Jm _ _ (by rw [Js4 f]; intro q hq; cases hq)) fun vs hp k res hr => by
 unfold Jaz at hr
 split at hr
 · exact ⟨f, 0, (Jjk f _ f _ _ _ _ _ _ _ _ _ ).trans hr⟩
 · cases hr
def Gn (f : Nat) (rc : Nat -> Int -> Int -> List PV -> List PV -> List PV -> List PV -> List PV -> List PV -> Option Res) (k0 : Nat -> Int -> List PV -> List PV -> List PV -> List PV -> List PV -> Option Res) (v0 : Nat) (v1 v2 : Int) (v3 v4 v5 v6 v7 v8 : List PV) : Option Res := bif decide (v2 < 8) then bif decide (0 <= v2) && decide (v2 < zi 8) && true then bif PV.isInt IntKind.u32 (Jb (PV.ar 112 v5) [v2.toNat]) && true then bif decide (0 <= v2) && decide (v2 < zi 8) && true then bif PV.isInt IntKind.u32 (Jb (PV.ar 112 v8) [v2.toNat]) && true then bif decide (0 <= v2) && decide (v2 < zi 8) && true then rc v0 v1 (IntKind.i64.wrap (v2 + 1)) v3 v4 (v5.set v2.toNat (.sc (.int .u32 (IntKind.u32.wrap ((Jb (PV.ar 112 v5) [v2.toNat]).int + (Jb (PV.ar 112 v8) [v2.toNat]).int))))) v6 v7 v8 else none else none else none else none else none else k0 v0 v1 v3 v4 v5 v6 v7
def Vp (f : Nat) (k0 : Nat -> Int -> List PV -> List PV -> List PV -> List PV -> List PV -> Option Res) : Nat -> Nat -> Int -> Int -> List PV -> List PV -> List PV -> List PV -> List PV -> List PV -> Option Res
 | 0, _, _, _, _, _, _, _, _, _ => none
 | n + 1, v0, v1, v2, v3, v4, v5, v6, v7, v8 => Gn f (Vp f k0 n) k0 v0 v1 v2 v3 v4 v5 v6 v7 v8
theorem JoT (f : Nat) (k : Kont) (n v0 : Nat) (v1 v2 : Int) (v3 v4 v5 v6 v7 v8 : List PV) : Jl tau 0 Yb (fun s k => ev tau F28 0 0 Jdi (JfZ ) s k) (n + 1) (Jd Yb N28 [.ptr 4464 [], .ptr 4465 [], .ptr 4466 [], .ow 5 4467 [] 0 v0 none, .ptr 4468 [], .sc (.int .i64 v1), .ptr 4469 [], .sc (.int .i64 v2)] [(4464, .box false 37 (PV.ar 37 v3)), (4465, .box false 118 (PV.ar 118 v4)), (4466, .box false 112 (PV.ar 112 v5)), (4467, .vec false 5 false v6), (4468, .box false 118 (PV.ar 118 v7)), (4469, .box false 112 (PV.ar 112 v8))]) (Jo tau 0 Zi k) = Gn f (fun v0 v1 v2 v3 v4 v5 v6 v7 v8 => Jl tau 0 Yb (fun s k => ev tau F28 0 0 Jdi (JfZ ) s k) n (Jd Yb N28 [.ptr 4464 [], .ptr 4465 [], .ptr 4466 [], .ow 5 4467 [] 0 v0 none, .ptr 4468 [], .sc (.int .i64 v1), .ptr 4469 [], .sc (.int .i64 v2)] [(4464, .box false 37 (PV.ar 37 v3)), (4465, .box false 118 (PV.ar 118 v4)), (4466, .box false 112 (PV.ar 112 v5)), (4467, .vec false 5 false v6), (4468, .box false 118 (PV.ar 118 v7)), (4469, .box false 112 (PV.ar 112 v8))]) (Jo tau 0 Zi k)) (fun x0 x1 x2 x3 x4 x5 x6 => k (Ex.exit 12) (Jd Zi N28 [.ptr 4464 [], .ptr 4465 [], .ptr 4466 [], .ow 5 4467 [] 0 x0 none, .ptr 4468 [], .sc (.int .i64 x1)] [(4464, .box false 37 (PV.ar 37 x2)), (4465, .box false 118 (PV.ar 118 x3)), (4466, .box false 112 (PV.ar 112 x4)), (4467, .vec false 5 false x5), (4468, .box false 118 (PV.ar 118 x6))])) v0 v1 v2 v3 v4 v5 v6 v7 v8 := by kernel_rfl
theorem Jjl (f : Nat) (k : Kont) : ∀ (n v0 : Nat) (v1 v2 : Int) (v3 v4 v5 v6 v7 v8 : List PV), Jl tau 0 Yb (fun s k => ev tau F28 0 0 Jdi (JfZ ) s k) n (Jd Yb N28 [.ptr 4464 [], .ptr 4465 [], .ptr 4466 [], .ow 5 4467 [] 0 v0 none, .ptr 4468 [], .sc (.int .i64 v1), .ptr 4469 [], .sc (.int .i64 v2)] [(4464, .box false 37 (PV.ar 37 v3)), (4465, .box false 118 (PV.ar 118 v4)), (4466, .box false 112 (PV.ar 112 v5)), (4467, .vec false 5 false v6), (4468, .box false 118 (PV.ar 118 v7)), (4469, .box false 112 (PV.ar 112 v8))]) (Jo tau 0 Zi k) = Vp f (fun x0 x1 x2 x3 x4 x5 x6 => k (Ex.exit 12) (Jd Zi N28 [.ptr 4464 [], .ptr 4465 [], .ptr 4466 [], .ow 5 4467 [] 0 x0 none, .ptr 4468 [], .sc (.int .i64 x1)] [(4464, .box false 37 (PV.ar 37 x2)), (4465, .box false 118 (PV.ar 118 x3)), (4466, .box false 112 (PV.ar 112 x4)), (4467, .vec false 5 false x5), (4468, .box false 118 (PV.ar 118 x6))])) n v0 v1 v2 v3 v4 v5 v6 v7 v8 | 0, _, _, _, _, _, _, _, _, _ => rfl | n + 1, v0, v1, v2, v3, v4, v5, v6, v7, v8 => (JoT f k n v0 v1 v2 v3 v4 v5 v6 v7 v8).trans (congrArg (fun r => Gn f r (fun x0 x1 x2 x3 x4 x5 x6 => k (Ex.exit 12) (Jd Zi N28 [.ptr 4464 [], .ptr 4465 [], .ptr 4466 [], .ow 5 4467 [] 0 x0 none, .ptr 4468 [], .sc (.int .i64 x1)] [(4464, .box false 37 (PV.ar 37 x2)), (4465, .box false 118 (PV.ar 118 x3)), (4466, .box false 112 (PV.ar 112 x4)), (4467, .vec false 5 false x5), (4468, .box false 118 (PV.ar 118 x6))])) v0 v1 v2 v3 v4 v5 v6 v7 v8) (by funext v0 v1 v2 v3 v4 v5 v6 v7 v8; exact Jjl f k n v0 v1 v2 v3 v4 v5 v6 v7 v8))
def JaA (f : Nat) : List PV -> List (Nat × Ent) -> Kont -> Option Res
 | [.ptr 4464 [], .ptr 4465 [], .ptr 4466 [], .ow 5 4467 [] 0 v0 none, .ptr 4468 [], .sc (.int .i64 v1), .ptr 4469 [],
 PV.sc
  (Value.int IntKind.i64
   v2)], [(4464, .box false 37 (PV.ar 37 v3)), (4465, .box false 118 (PV.ar 118 v4)), (4466, .box false 112 (PV.ar 112 v5)), (4467, .vec false 5 false v6),
 (4468, .box false 118 (PV.ar 118 v7)),
 (4469,
  Ent.box false 112
   (PV.ar 112
    v8))], k => Vp f (fun x0 x1 x2 x3 x4 x5 x6 => k (Ex.exit
 12) (Jd Zi N28 [.ptr 4464 [], .ptr 4465 [], .ptr 4466 [], .ow 5 4467 [] 0 x0 none, .ptr 4468 [],
 PV.sc
  (Value.int IntKind.i64
   x1)] [(4464, .box false 37 (PV.ar 37 x2)), (4465, .box false 118 (PV.ar 118 x3)), (4466, .box false 112 (PV.ar 112 x4)), (4467, .vec false 5 false x5),
 (4468, .box false 118 (PV.ar 118 x6))])) f v0 v1 v2 v3 v4 v5 v6 v7 v8
 | _, _, _ => none
theorem Js5 (f : Nat) : Jf Jdi JfZ = [] := by kernel_rfl
theorem JwZ (f : Nat) : (Item.l Jdi Yb N28 (JaA f)).Ok tau Try.prog 0 := Jz Jp X5 Jq (x := JfZ) (nm2 := Zi) (Jm _ _ (by rw [Js5 f]; intro q hq; cases hq)) fun vs hp k res hr => by
 unfold JaA at hr
 split at hr
 · exact ⟨f, 0, (Jjl f _ f _ _ _ _ _ _ _ _ _ ).trans hr⟩
 · cases hr
def Gp (f : Nat) (rc : Nat -> Int -> List PV -> List PV -> List PV -> List PV -> List PV -> Option Res) (k0 : List PV -> List PV -> Option Res) (v0 : Nat) (v1 : Int) (v2 v3 v4 v5 v6 : List PV) : Option Res := bif decide (v1 < zi v0) then Vm f (fun x0_2 x1_2 x2_2 x3_2 x4_2 x5_2 x6_2 => Vn f (fun x0_3 x1_3 x2_3 x3_3 x4_3 x5_3 x6_3 => Vo f (fun x0_4 x1_4 x2_4 x3_4 x4_4 x5_4 x6_4 x7_4 => Vp f (fun x0_5 x1_5 x2_5 x3_5 x4_5 x5_5 x6_5 => rc x0_5 (IntKind.i64.wrap (x1_5 + 64)) x2_5 x3_5 x4_5 x5_5 x6_5) f x0_4 x1_4 (0) x2_4 x3_4 x4_4 x5_4 x6_4 x7_4) f x0_3 x1_3 (0) x2_3 x3_3 x4_3 x5_3 x6_3 x4_3) f x0_2 x1_2 (16) x2_2 x3_2 x4_2 x5_2 x6_2) f v0 v1 (0) v2 v3 v4 v5 v6 else k0 v2 v4
def Vq (f : Nat) (k0 : List PV -> List PV -> Option Res) : Nat -> Nat -> Int -> List PV -> List PV -> List PV -> List PV -> List PV -> Option Res
 | 0, _, _, _, _, _, _, _ => none
 | n + 1, v0, v1, v2, v3, v4, v5, v6 => Gp f (Vq f k0 n) k0 v0 v1 v2 v3 v4 v5 v6
theorem JoU (f : Nat) (k : Kont) (n v0 : Nat) (v1 : Int) (v2 v3 v4 v5 v6 : List PV) : Jl tau 0 Yc (fun s k => ev tau F28 0 0 Jdj (Jf0 (Jax f) (Jay f) (Jaz f) (JaA f)) s k) (n + 1) (Jd Yc N28 [.ptr 4464 [], .ptr 4465 [], .ptr 4466 [], .ow 5 4467 [] 0 v0 none, .ptr 4468 [], .sc (.int .i64 v1)] [(4464, .box false 37 (PV.ar 37 v2)), (4465, .box false 118 (PV.ar 118 v3)), (4466, .box false 112 (PV.ar 112 v4)), (4467, .vec false 5 false v5), (4468, .box false 118 (PV.ar 118 v6))]) (Jo tau 0 Zj k) = Gp f (fun v0 v1 v2 v3 v4 v5 v6 => Jl tau 0 Yc (fun s k => ev tau F28 0 0 Jdj (Jf0 (Jax f) (Jay f) (Jaz f) (JaA f)) s k) n (Jd Yc N28 [.ptr 4464 [], .ptr 4465 [], .ptr 4466 [], .ow 5 4467 [] 0 v0 none, .ptr 4468 [], .sc (.int .i64 v1)] [(4464, .box false 37 (PV.ar 37 v2)), (4465, .box false 118 (PV.ar 118 v3)), (4466, .box false 112 (PV.ar 112 v4)), (4467, .vec false 5 false v5), (4468, .box false 118 (PV.ar 118 v6))]) (Jo tau 0 Zj k)) (fun x0 x1 => k (Ex.exit 4) (Jd Zj N28 [.ptr 4464 [], .ptr 4465 []] [(4464, .box false 37 (PV.ar 37 x0)), (4465, .box false 112 (PV.ar 112 x1))])) v0 v1 v2 v3 v4 v5 v6 := by kernel_rfl
theorem Jjm (f : Nat) (k : Kont) : ∀ (n v0 : Nat) (v1 : Int) (v2 v3 v4 v5 v6 : List PV), Jl tau 0 Yc (fun s k => ev tau F28 0 0 Jdj (Jf0 (Jax f) (Jay f) (Jaz f) (JaA f)) s k) n (Jd Yc N28 [.ptr 4464 [], .ptr 4465 [], .ptr 4466 [], .ow 5 4467 [] 0 v0 none, .ptr 4468 [], .sc (.int .i64 v1)] [(4464, .box false 37 (PV.ar 37 v2)), (4465, .box false 118 (PV.ar 118 v3)), (4466, .box false 112 (PV.ar 112 v4)), (4467, .vec false 5 false v5), (4468, .box false 118 (PV.ar 118 v6))]) (Jo tau 0 Zj k) = Vq f (fun x0 x1 => k (Ex.exit 4) (Jd Zj N28 [.ptr 4464 [], .ptr 4465 []] [(4464, .box false 37 (PV.ar 37 x0)), (4465, .box false 112 (PV.ar 112 x1))])) n v0 v1 v2 v3 v4 v5 v6 | 0, _, _, _, _, _, _, _ => rfl | n + 1, v0, v1, v2, v3, v4, v5, v6 => (JoU f k n v0 v1 v2 v3 v4 v5 v6).trans (congrArg (fun r => Gp f r (fun x0 x1 => k (Ex.exit 4) (Jd Zj N28 [.ptr 4464 [], .ptr 4465 []] [(4464, .box false 37 (PV.ar 37 x0)), (4465, .box false 112 (PV.ar 112 x1))])) v0 v1 v2 v3 v4 v5 v6) (by funext v0 v1 v2 v3 v4 v5 v6; exact Jjm f k n v0 v1 v2 v3 v4 v5 v6))
def Jb0 (f : Nat) : List PV -> List (Nat × Ent) -> Kont -> Option Res
 | [.ptr 4464 [], .ptr 4465 [], .ptr 4466 [], .ow 5 4467 [] 0 v0 none, .ptr 4468 [],
 PV.sc
  (Value.int IntKind.i64
   v1)], [(4464, .box false 37 (PV.ar 37 v2)), (4465, .box false 118 (PV.ar 118 v3)), (4466, .box false 112 (PV.ar 112 v4)), (4467, .vec false 5 false v5),
 (4468,
  Ent.box false 118
   (PV.ar 118
    v6))], k => Vq f (fun x0 x1 => k (Ex.exit
 4) (Jd Zj N28 [.ptr 4464 [], .ptr 4465 []] [(4464, .box false 37 (PV.ar 37 x0)), (4465, .box false 112 (PV.ar 112 x1))])) f v0 v1 v2 v3 v4 v5 v6
 | _, _, _ => none
theorem Js6 (f : Nat) : Jf Jdj (Jf0 (Jax f) (Jay f) (Jaz f) (JaA f)) = [.l Jdf X8 N28 (Jax f), .l Jdg X9 N28 (Jay f), .l Jdh Ya N28 (Jaz f), .l Jdi Yb N28 (JaA f)] := by kernel_rfl
theorem Jw0 (f : Nat) : (Item.l Jdj Yc N28 (Jb0 f)).Ok tau Try.prog 0 := Jz Jp X5 Jq (x := (Jf0 (Jax f) (Jay f) (Jaz f) (JaA f))) (nm2 := Zj) (Jm _ _ (by rw [Js6 f]; simp only [List.forall_mem_cons, List.not_mem_nil, false_implies, implies_true, and_true]; exact ⟨JwW f, JwX f, JwY f, JwZ f⟩)) fun vs hp k res hr => by
 unfold Jb0 at hr
 split at hr
 · exact ⟨f, 0, (Jjm f _ f _ _ _ _ _ _ _ ).trans hr⟩
 · cases hr
def Gq (f : Nat) (rc : Int -> List PV -> List PV -> List PV -> Option Res) (k0 : List PV -> List PV -> Option Res) (v0 : Int) (v1 v2 v3 : List PV) : Option Res := bif decide (v0 < 8) then bif decide (0 <= v0) && decide (v0 < zi 8) && true then bif PV.isInt IntKind.u32 (Jb (PV.ar 112 v2) [v0.toNat]) && true then bif decide (0 <= v0) && decide (v0 < zi 8) && true then bif PV.isInt IntKind.u32 (Jb (PV.ar 112 v2) [v0.toNat]) && true then bif decide (0 <= v0) && decide (v0 < zi 8) && true then bif PV.isInt IntKind.u32 (Jb (PV.ar 112 v2) [v0.toNat]) && true then bif decide (0 <= v0) && decide (v0 < zi 8) && true then bif PV.isInt IntKind.u32 (Jb (PV.ar 112 v2) [v0.toNat]) && true then bif decide (0 <= IntKind.i64.wrap (4 * v0)) && decide (IntKind.i64.wrap (4 * v0) < zi 32) && true then bif decide (0 <= IntKind.i64.wrap (IntKind.i64.wrap (4 * v0) + 1)) && decide (IntKind.i64.wrap (IntKind.i64.wrap (4 * v0) + 1) < zi 32) && true then bif decide (0 <= IntKind.i64.wrap (IntKind.i64.wrap (4 * v0) + 2)) && decide (IntKind.i64.wrap (IntKind.i64.wrap (4 * v0) + 2) < zi 32) && true then bif decide (0 <= IntKind.i64.wrap (IntKind.i64.wrap (4 * v0) + 3)) && decide (IntKind.i64.wrap (IntKind.i64.wrap (4 * v0) + 3) < zi 32) && true then rc (IntKind.i64.wrap (v0 + 1)) v1 v2 ((((v3.set (IntKind.i64.wrap (4 * v0)).toNat (.sc (.int .u8 (IntKind.u8.wrap (JL IntKind.u32 (Jb (PV.ar 112 v2) [v0.toNat]).int 24))))).set (IntKind.i64.wrap (IntKind.i64.wrap (4 * v0) + 1)).toNat (.sc (.int .u8 (IntKind.u8.wrap (JL IntKind.u32 (Jb (PV.ar 112 v2) [v0.toNat]).int 16))))).set (IntKind.i64.wrap (IntKind.i64.wrap (4 * v0) + 2)).toNat (.sc (.int .u8 (IntKind.u8.wrap (JL IntKind.u32 (Jb (PV.ar 112 v2) [v0.toNat]).int 8))))).set (IntKind.i64.wrap (IntKind.i64.wrap (4 * v0) + 3)).toNat (.sc (.int .u8 (IntKind.u8.wrap (Jb (PV.ar 112 v2) [v0.toNat]).int)))) else none else none else none else none else none else none else none else none else none else none else none else none else k0 v1 v3
def Vr (f : Nat) (k0 : List PV -> List PV -> Option Res) : Nat -> Int -> List PV -> List PV -> List PV -> Option Res
 | 0, _, _, _, _ => none
 | n + 1, v0, v1, v2, v3 => Gq f (Vr f k0 n) k0 v0 v1 v2 v3
theorem JoV (f : Nat) (k : Kont) (n : Nat) (v0 : Int) (v1 v2 v3 : List PV) : Jl tau 0 Yd (fun s k => ev tau F28 0 0 Jdk (Jf1 ) s k) (n + 1) (Jd Yd N28 [.ptr 4464 [], .ptr 4465 [], .ptr 4466 [], .sc (.int .i64 v0)] [(4464, .box false 37 (PV.ar 37 v1)), (4465, .box false 112 (PV.ar 112 v2)), (4466, .box false 37 (PV.ar 37 v3))]) (Jo tau 0 Zk k) = Gq f (fun v0 v1 v2 v3 => Jl tau 0 Yd (fun s k => ev tau F28 0 0 Jdk (Jf1 ) s k) n (Jd Yd N28 [.ptr 4464 [], .ptr 4465 [], .ptr 4466 [], .sc (.int .i64 v0)] [(4464, .box false 37 (PV.ar 37 v1)), (4465, .box false 112 (PV.ar 112 v2)), (4466, .box false 37 (PV.ar 37 v3))]) (Jo tau 0 Zk k)) (fun x0 x1 => k (Ex.exit 14) (Jd Zk N28 [.ptr 4464 [], .ptr 4465 []] [(4464, .box false 37 (PV.ar 37 x0)), (4465, .box false 37 (PV.ar 37 x1))])) v0 v1 v2 v3 := by kernel_rfl
theorem Jjn (f : Nat) (k : Kont) : ∀ (n : Nat) (v0 : Int) (v1 v2 v3 : List PV), Jl tau 0 Yd (fun s k => ev tau F28 0 0 Jdk (Jf1 ) s k) n (Jd Yd N28 [.ptr 4464 [], .ptr 4465 [], .ptr 4466 [], .sc (.int .i64 v0)] [(4464, .box false 37 (PV.ar 37 v1)), (4465, .box false 112 (PV.ar 112 v2)), (4466, .box false 37 (PV.ar 37 v3))]) (Jo tau 0 Zk k) = Vr f (fun x0 x1 => k (Ex.exit 14) (Jd Zk N28 [.ptr 4464 [], .ptr 4465 []] [(4464, .box false 37 (PV.ar 37 x0)), (4465, .box false 37 (PV.ar 37 x1))])) n v0 v1 v2 v3 | 0, _, _, _, _ => rfl | n + 1, v0, v1, v2, v3 => (JoV f k n v0 v1 v2 v3).trans (congrArg (fun r => Gq f r (fun x0 x1 => k (Ex.exit 14) (Jd Zk N28 [.ptr 4464 [], .ptr 4465 []] [(4464, .box false 37 (PV.ar 37 x0)), (4465, .box false 37 (PV.ar 37 x1))])) v0 v1 v2 v3) (by funext v0 v1 v2 v3; exact Jjn f k n v0 v1 v2 v3))
def Jb1 (f : Nat) : List PV -> List (Nat × Ent) -> Kont -> Option Res
 | [.ptr 4464 [], .ptr 4465 [], .ptr 4466 [],
 PV.sc
  (Value.int IntKind.i64
   v0)], [(4464, .box false 37 (PV.ar 37 v1)), (4465, .box false 112 (PV.ar 112 v2)),
 (4466,
  Ent.box false 37
   (PV.ar 37
    v3))], k => Vr f (fun x0 x1 => k (Ex.exit
 14) (Jd Zk N28 [.ptr 4464 [], .ptr 4465 []] [(4464, .box false 37 (PV.ar 37 x0)), (4465, .box false 37 (PV.ar 37 x1))])) f v0 v1 v2 v3
 | _, _, _ => none
theorem Js7 (f : Nat) : Jf Jdk Jf1 = [] := by kernel_rfl
theorem Jw1 (f : Nat) : (Item.l Jdk Yd N28 (Jb1 f)).Ok tau Try.prog 0 := Jz Jp X5 Jq (x := Jf1) (nm2 := Zk) (Jm _ _ (by rw [Js7 f]; intro q hq; cases hq)) fun vs hp k res hr => by
 unfold Jb1 at hr
 split at hr
 · exact ⟨f, 0, (Jjn f _ f _ _ _ _ ).trans hr⟩
 · cases hr
def g28 (f : Nat) (nl fl : Bool) (b : List PV) (k : Res -> Option Res) : Option Res := bif Jk (0 + b.length) 1 && true then bif Jk (0 + b.length + 1) 1 && true then Vk f (fun x0_0 x1_0 x2_0 x3_0 x4_0 x5_0 x6_0 x7_0 => Vl f (fun x0_1 x1_1 x2_1 x3_1 x4_1 => Vq f (fun x0_6 x1_6 => Vr f (fun x0_7 x1_7 => k (Res.mk (.ar 37 x1_7) [] [])) f (0) x0_6 x1_6 ([.sc (.int .u8 0), .sc (.int .u8 0), .sc (.int .u8 0), .sc (.int .u8 0), .sc (.int .u8 0), .sc (.int .u8 0), .sc (.int .u8 0), .sc (.int .u8 0), .sc (.int .u8 0), .sc (.int .u8 0), .sc (.int .u8 0), .sc (.int .u8 0), .sc (.int .u8 0), .sc (.int .u8 0), .sc (.int .u8 0), .sc (.int .u8 0), .sc (.int .u8 0), .sc (.int .u8 0), .sc (.int .u8 0), .sc (.int .u8 0), .sc (.int .u8 0), .sc (.int .u8 0), .sc (.int .u8 0), .sc (.int .u8 0), .sc (.int .u8 0), .sc (.int .u8 0), .sc (.int .u8 0), .sc (.int .u8 0), .sc (.int .u8 0), .sc (.int .u8 0), .sc (.int .u8 0), .sc (.int .u8 0)])) f x0_1 (0) x1_1 x2_1 x3_1 x4_1 ([.sc (.int .u32 0), .sc (.int .u32 0), .sc (.int .u32 0), .sc (.int .u32 0), .sc (.int .u32 0), .sc (.int .u32 0), .sc (.int .u32 0), .sc (.int .u32 0), .sc (.int .u32 0), .sc (.int .u32 0), .sc (.int .u32 0), .sc (.int .u32 0), .sc (.int .u32 0), .sc (.int .u32 0), .sc (.int .u32 0), .sc (.int .u32 0), .sc (.int .u32 0), .sc (.int .u32 0), .sc (.int .u32 0), .sc (.int .u32 0), .sc (.int .u32 0), .sc (.int .u32 0), .sc (.int .u32 0), .sc (.int .u32 0), .sc (.int .u32 0), .sc (.int .u32 0), .sc (.int .u32 0), .sc (.int .u32 0), .sc (.int .u32 0), .sc (.int .u32 0), .sc (.int .u32 0), .sc (.int .u32 0), .sc (.int .u32 0), .sc (.int .u32 0), .sc (.int .u32 0), .sc (.int .u32 0), .sc (.int .u32 0), .sc (.int .u32 0), .sc (.int .u32 0), .sc (.int .u32 0), .sc (.int .u32 0), .sc (.int .u32 0), .sc (.int .u32 0), .sc (.int .u32 0), .sc (.int .u32 0), .sc (.int .u32 0), .sc (.int .u32 0), .sc (.int .u32 0), .sc (.int .u32 0), .sc (.int .u32 0), .sc (.int .u32 0), .sc (.int .u32 0), .sc (.int .u32 0), .sc (.int .u32 0), .sc (.int .u32 0), .sc (.int .u32 0), .sc (.int .u32 0), .sc (.int .u32 0), .sc (.int .u32 0), .sc (.int .u32 0), .sc (.int .u32 0), .sc (.int .u32 0), .sc (.int .u32 0), .sc (.int .u32 0)])) f x3_0 (IntKind.u64.wrap (IntKind.u64.wrap (zi x2_0.length) * 8)) (7) x4_0 x5_0 x6_0 x7_0) f nl fl b (0 + b.length + 1) ([.sc (.int .u8 0), .sc (.int .u8 0), .sc (.int .u8 0), .sc (.int .u8 0), .sc (.int .u8 0), .sc (.int .u8 0), .sc (.int .u8 0), .sc (.int .u8 0), .sc (.int .u8 0), .sc (.int .u8 0), .sc (.int .u8 0), .sc (.int .u8 0), .sc (.int .u8 0), .sc (.int .u8 0), .sc (.int .u8 0), .sc (.int .u8 0), .sc (.int .u8 0), .sc (.int .u8 0), .sc (.int .u8 0), .sc (.int .u8 0), .sc (.int .u8 0), .sc (.int .u8 0), .sc (.int .u8 0), .sc (.int .u8 0), .sc (.int .u8 0), .sc (.int .u8 0), .sc (.int .u8 0), .sc (.int .u8 0), .sc (.int .u8 0), .sc (.int .u8 0), .sc (.int .u8 0), .sc (.int .u8 0)]) ([.sc (.int .u32 1116352408), .sc (.int .u32 1899447441), .sc (.int .u32 3049323471), .sc (.int .u32 3921009573), .sc (.int .u32 961987163), .sc (.int .u32 1508970993), .sc (.int .u32 2453635748), .sc (.int .u32 2870763221), .sc (.int .u32 3624381080), .sc (.int .u32 310598401), .sc (.int .u32 607225278), .sc (.int .u32 1426881987), .sc (.int .u32 1925078388), .sc (.int .u32 2162078206), .sc (.int .u32 2614888103), .sc (.int .u32 3248222580), .sc (.int .u32 3835390401), .sc (.int .u32 4022224774), .sc (.int .u32 264347078), .sc (.int .u32 604807628), .sc (.int .u32 770255983), .sc (.int .u32 1249150122), .sc (.int .u32 1555081692), .sc (.int .u32 1996064986), .sc (.int .u32 2554220882), .sc (.int .u32 2821834349), .sc (.int .u32 2952996808), .sc (.int .u32 3210313671), .sc (.int .u32 3336571891), .sc (.int .u32 3584528711), .sc (.int .u32 113926993), .sc (.int .u32 338241895), .sc (.int .u32 666307205), .sc (.int .u32 773529912), .sc (.int .u32 1294757372), .sc (.int .u32 1396182291), .sc (.int .u32 1695183700), .sc (.int .u32 1986661051), .sc (.int .u32 2177026350), .sc (.int .u32 2456956037), .sc (.int .u32 2730485921), .sc (.int .u32 2820302411), .sc (.int .u32 3259730800), .sc (.int .u32 3345764771), .sc (.int .u32 3516065817), .sc (.int .u32 3600352804), .sc (.int .u32 4094571909), .sc (.int .u32 275423344), .sc (.int .u32 430227734), .sc (.int .u32 506948616), .sc (.int .u32 659060556), .sc (.int .u32 883997877), .sc (.int .u32 958139571), .sc (.int .u32 1322822218), .sc (.int .u32 1537002063), .sc (.int .u32 1747873779), .sc (.int .u32 1955562222), .sc (.int .u32 2024104815), .sc (.int .u32 2227730452), .sc (.int .u32 2361852424), .sc (.int .u32 2428436474), .sc (.int .u32 2756734187), .sc (.int .u32 3204031479), .sc (.int .u32 3329325298)]) ([.sc (.int .u32 1779033703), .sc (.int .u32 3144134277), .sc (.int .u32 1013904242), .sc (.int .u32 2773480762), .sc (.int .u32 1359893119), .sc (.int .u32 2600822924), .sc (.int .u32 528734635), .sc (.int .u32 1541459225)]) (List.take (0 + b.length) ([] ++ b) ++ [.sc (.int .u8 128)]) else none else none
theorem e28 (f : Nat) (nl fl : Bool) (b : List PV) (k : Res -> Option Res) : JQ tau F28 Try.f28 (Try.f28.body.get!) (JoN (JbY f) (JbZ f) (Jb0 f) (Jb1 f)) [] 0 [.ro 5 nl fl b] [] k = g28 f nl fl b k := by kernel_rfl
theorem JAc (f : Nat) : Jf (Try.f28.body.get!) (JoN (JbY f) (JbZ f) (Jb0 f) (Jb1 f)) = [.l Jdd X6 N28 (JbY f), .l Jde X7 N28 (JbZ f), .l Jdj Yc N28 (Jb0 f), .l Jdk Yd N28 (Jb1 f)] := by kernel_rfl
theorem JAd (f : Nat) : ∀ q ∈ Jf (Try.f28.body.get!) (JoN (JbY f) (JbZ f) (Jb0 f) (Jb1 f)), q.Ok tau Try.prog 0 := by
 rw [JAc f]; simp only [List.forall_mem_cons, List.not_mem_nil, false_implies, implies_true, and_true]; exact ⟨JwU f, JwV f, Jw0 f, Jw1 f⟩
theorem Jw2 : Try.prog.funcs[28]? = some Try.f28 := by kernel_rfl
theorem Jw3 : Try.f28.body = some (Try.f28.body.get!) := by kernel_rfl
theorem Js8 : Enters Try.prog 28 := enters_of Jw2 (by kernel_rfl) Jw3
-- FN ref2.Sum
theorem Jmj (v : PV) : Jb v [] = v := rfl
theorem WT {R : List Int} (h : R.length = 8) (j : Nat) (hj : j < 8) : (pu .u32 R).getD j .top = .sc (.int .u32 (R.getD j 0)) := YK (by omega)
theorem JqR (f : Nat) (a b : Bool) (c x y w : List PV) (k0 : Bool -> Bool -> List PV -> Nat -> List PV -> List PV -> List PV -> List PV -> Option Res) : ∀ (d n : Nat) (L : List Int), zs L.length = d -> d < n -> L.length + d <= 140737488355200 ->
  Vk f k0 n a b c L.length x y w (pu .u8 L) = k0 a b c (L.length + d) x y w (pu .u8 (L ++ List.replicate d 0))
 | 0, n + 1, L, hd, hn, hL => by
   simp only [Vk, Gi, JbF]
   refine (Ji (by simp [zs] at hd ⊢; omega)).trans ?_
   simp
 | d + 1, n + 1, L, hd, hn, hL => by
   have hlt : d + 1 < 64 := by rw [← hd]; unfold zs; omega
   have c3 : Jk (L.length + 1) 1 = true := by simp [Jk]; omega
   simp only [Vk, Gi, JbF, c3, Bool.and_true, cond_true, W0]
   refine (Jc (by simp [zs] at hd ⊢; omega)).trans ?_
   rw [List.take_of_length_le (Nat.le_refl _)]
   have := JqR f a b c x y w k0 d n (L ++ [0]) (by simp [zs] at hd ⊢; omega) (by omega) (by simp; omega)
   simp only [List.length_append, List.length_cons, List.length_nil, Nat.zero_add, J4] at this
   refine this.trans ?_
   rw [show L.length + 1 + d = L.length + (d + 1) from by omega, List.replicate_succ]
   simp
def JoW (N : Int) (i : Nat) : Int := IntKind.u8.wrap (JL .u64 N (56 - 8 * (i : Int)))
theorem JqS (f : Nat) (N : Int) (x y w : List PV) (k0 : Nat -> List PV -> List PV -> List PV -> List PV -> Option Res) (L : List Int) (hL : L.length <= 140737488355300) : ∀ (d i n : Nat), i + d = 8 -> d < n ->
  Vl f k0 n (L.length + i) N (7 - (i : Int)) x y w (pu .u8 (L ++ (List.range i).map (JoW N))) = k0 (L.length + 8) x y w (pu .u8 (L ++ (List.range 8).map (JoW N)))
 | 0, i, n + 1, h, hn => by
   obtain rfl : i = 8 := by omega
   simp only [Vl, Gj]
   exact Ji (by decide)
 | d + 1, i, n + 1, h, hn => by
   have h1 : IntKind.i64.wrap (7 - (i : Int) - 1) = 7 - ((i + 1 : Nat) : Int) := by rw [wrap_i64 (by omega) (by omega)]; omega
   have h8 : IntKind.u64.wrap (7 - (i : Int)) = 7 - (i : Int) := by rw [We]; omega
   have h9 : IntKind.u64.wrap (8 * (7 - (i : Int))) = 56 - 8 * (i : Int) := by rw [We]; omega
   have c1 : decide (7 - (i : Int) >= 0) = true := by simp; omega
   have c2 : decide (0 <= 56 - 8 * (i : Int)) = true := by simp; omega
   have c3 : Jk (L.length + i + 1) 1 = true := by simp [Jk]; omega
   have hlen : (L ++ (List.range i).map (JoW N)).length = L.length + i := by simp
   simp only [Vl, Gj, h1, h8, h9, c1, c2, c3, Bool.and_true, cond_true, W0]
   rw [List.take_of_length_le (by omega)]
   have := JqS f N x y w k0 L hL d (i + 1) n (by omega) (by omega)
   rw [List.range_succ, List.map_append, ← List.append_assoc, J4] at this
   exact this
theorem JaY (P : List Int) (q j : Nat) (hj : j < 64) : ((P.drop (64 * q)).take 64).getD j 0 = P.getD (64 * q + j) 0 := by
 simp [List.getD_eq_getElem?_getD, hj, List.getElem?_drop]
theorem JqT (P : List Int) (q : Nat) (hq : 64 * q + 64 <= P.length) (hP : P.length <= 140737488356000) (T : List Int) (hT : T.length = 64) (f : Nat) (x y w : List PV) (k0 : Nat -> Int -> List PV -> List PV -> List PV -> List PV -> List PV -> Option Res) : ∀ (d i n : Nat), i + d = 16 -> d < n ->
  Vm f k0 n P.length ((64 * q : Nat) : Int) (i : Int) x y w (pu .u8 P) (pu .u32 (Qx (Jd5 ((P.drop (64 * q)).take 64)) T i)) = k0 P.length ((64 * q : Nat) : Int) x y w (pu .u8 P) (pu .u32 (Qx (Jd5 ((P.drop (64 * q)).take 64)) T 16))
 | 0, i, n + 1, h, hn => by
   obtain rfl : i = 16 := by omega
   simp only [Vm, Gk]
   exact Ji (by decide)
 | d + 1, i, n + 1, h, hn => by
   have h4 : IntKind.i64.wrap (4 * (i : Int)) = ((4 * i : Nat) : Int) := by rw [wrap_i64 (by omega) (by omega)]; omega
   have h40 : IntKind.i64.wrap (((64 * q : Nat) : Int) + ((4 * i : Nat) : Int)) = ((64 * q + 4 * i : Nat) : Int) := by rw [wrap_i64 (by omega) (by omega)]; omega
   have h41 : IntKind.i64.wrap (((64 * q + 4 * i : Nat) : Int) + 1) = ((64 * q + (4 * i + 1) : Nat) : Int) := by rw [wrap_i64 (by omega) (by omega)]; omega
   have h42 : IntKind.i64.wrap (((64 * q + 4 * i : Nat) : Int) + 2) = ((64 * q + (4 * i + 2) : Nat) : Int) := by rw [wrap_i64 (by omega) (by omega)]; omega
   have h43 : IntKind.i64.wrap (((64 * q + 4 * i : Nat) : Int) + 3) = ((64 * q + (4 * i + 3) : Nat) : Int) := by rw [wrap_i64 (by omega) (by omega)]; omega
   have h5 : IntKind.i64.wrap ((i : Int) + 1) = ((i + 1 : Nat) : Int) := by rw [wrap_i64 (by omega) (by omega)]; omega
   simp only [Vm, Gk, h4, h40, h41, h42, h43, h5, Int.toNat_natCast, Nat.zero_add, Jmj, zi]
   rw [J2 (by omega), J2 (by omega), J2 (by omega), J2 (by omega), Qw (by omega), Qw (by omega), Qw (by omega), Qw (by omega), WO]
   refine (Jc (by simp; omega)).trans ?_
   refine (Jc (by simp only [Bool.and_true, Bool.and_eq_true, decide_eq_true_eq]; omega)).trans ?_
   refine (Jc rfl).trans ?_
   refine (Jc (by simp only [Bool.and_true, Bool.and_eq_true, decide_eq_true_eq]; omega)).trans ?_
   refine (Jc rfl).trans ?_
   refine (Jc (by simp only [Bool.and_true, Bool.and_eq_true, decide_eq_true_eq]; omega)).trans ?_
   refine (Jc rfl).trans ?_
   refine (Jc (by simp only [Bool.and_true, Bool.and_eq_true, decide_eq_true_eq]; omega)).trans ?_
   refine (Jc rfl).trans ?_
   refine (Jc (by simp only [Bool.and_true, Bool.and_eq_true, decide_eq_true_eq]; omega)).trans ?_
   have := JqT P q hq hP T hT f x y w k0 d (i + 1) n (by omega) (by omega)
   rw [← Qu _ T i (by omega), Jd5, JaY P q _ (by omega), JaY P q _ (by omega), JaY P q _ (by omega), JaY P q _ (by omega)] at this
   exact this
def Z0 (bs T : List Int) (i : Nat) : List Int := QB bs i ++ T.drop (16 + i)
theorem Jex (bs T : List Int) (hT : T.length = 64) (i : Nat) (h : i <= 48) : (Z0 bs T i).length = 64 := by simp [Z0, J3, hT]; omega
theorem ZO (bs T : List Int) (i j : Nat) (h : j < 16 + i) : (Z0 bs T i).getD j 0 = (QB bs i).getD j 0 := by
 simp only [Z0, List.getD_eq_getElem?_getD]
 rw [List.getElem?_append_left (by rw [J3]; exact h)]
theorem Jkd (bs T : List Int) (hT : T.length = 64) (i : Nat) (h : i < 48) (x : Int) : (Z0 bs T i).set (i + 16) x = (QB bs i ++ [x]) ++ T.drop (16 + (i + 1)) := by
 rw [Z0, List.set_append_right _ _ (by rw [J3]; omega), J3, List.drop_eq_getElem_cons (by omega), show i + 16 - (16 + i) = 0 from by omega, List.set_cons_zero]
 simp [Nat.add_assoc]
theorem JoX (w16 w15 w7 w2 : Int) : ww (ww (ww (sg1 w2 + w7) + sg0 w15) + w16) = JrS w16 w15 w7 w2 := by
 simp only [JrS, ww, Jfi]; omega
theorem JqU (bs T : List Int) (hT : T.length = 64) (f : Nat) (l : Nat) (p : Int) (x y w e : List PV) (k0 : Nat -> Int -> List PV -> List PV -> List PV -> List PV -> List PV -> Option Res) : ∀ (d i n : Nat), i + d = 48 -> d < n ->
  Vn f k0 n l p ((i + 16 : Nat) : Int) x y w e (pu .u32 (Z0 bs T i)) = k0 l p x y w e (pu .u32 (J8 bs))
 | 0, i, n + 1, h, hn => by
   obtain rfl : i = 48 := by omega
   simp only [Vn, Gl]
   refine (Ji (by decide)).trans ?_
   rw [Z0, List.drop_of_length_le (by omega), List.append_nil]; rfl
 | d + 1, i, n + 1, h, hn => by
   have h15 : IntKind.i64.wrap (((i + 16 : Nat) : Int) - 15) = ((i + 1 : Nat) : Int) := by rw [wrap_i64 (by omega) (by omega)]; omega
   have h2 : IntKind.i64.wrap (((i + 16 : Nat) : Int) - 2) = ((i + 14 : Nat) : Int) := by rw [wrap_i64 (by omega) (by omega)]; omega
   have h16 : IntKind.i64.wrap (((i + 16 : Nat) : Int) - 16) = ((i : Nat) : Int) := by rw [wrap_i64 (by omega) (by omega)]; omega
   have h7 : IntKind.i64.wrap (((i + 16 : Nat) : Int) - 7) = ((i + 9 : Nat) : Int) := by rw [wrap_i64 (by omega) (by omega)]; omega
   have h1 : IntKind.i64.wrap (((i + 16 : Nat) : Int) + 1) = ((i + 1 + 16 : Nat) : Int) := by rw [wrap_i64 (by omega) (by omega)]; omega
   have hl := Jex bs T hT i (by omega)
   simp only [Vn, Gl, h15, h2, h16, h7, h1, Int.toNat_natCast, zi, W1]
   rw [J2 (by omega), J2 (by omega), J2 (by omega), J2 (by omega), Qw (by omega), Qw (by omega), Qw (by omega), Qw (by omega), WO]
   refine (Jc (by simp; omega)).trans ?_
   refine (Jc (by simp; omega)).trans ?_
   refine (Jc rfl).trans ?_
   refine (Jc (by simp; omega)).trans ?_
   refine (Jc rfl).trans ?_
   refine (Jc (by simp; omega)).trans ?_
   refine (Jc rfl).trans ?_
   refine (Jc (by simp; omega)).trans ?_
   refine (Jc rfl).trans ?_
   refine (Jc (by simp; omega)).trans ?_
   have := JqU bs T hT f l p x y w e k0 d (i + 1) n (by omega) (by omega)
   rw [ZO bs T i i (by omega), ZO bs T i (i + 1) (by omega), ZO bs T i (i + 9) (by omega), ZO bs T i (i + 14) (by omega), Jkd bs T hT i (by omega)]
   have hn := JoX ((QB bs i).getD i 0) ((QB bs i).getD (i + 1) 0) ((QB bs i).getD (i + 9) 0) ((QB bs i).getD (i + 14) 0)
   rw [Z0, QB, ← hn] at this
   exact this
theorem JqV (W s : List Int) (hW : W.length = 64) (hs : s.length = 8) (f : Nat) (l : Nat) (p : Int) (x w e : List PV) (k0 : Nat -> Int -> List PV -> List PV -> List PV -> List PV -> List PV -> List PV -> Option Res) : ∀ (d i n : Nat), i + d = 64 -> d < n ->
  Vo f k0 n l p (i : Int) x (pu .u32 kks) w e (pu .u32 W) (pu .u32 (GU W s i)) = k0 l p x (pu .u32 kks) w e (pu .u32 W) (pu .u32 (GU W s 64))
 | 0, i, n + 1, h, hn => by
   obtain rfl : i = 64 := by omega
   simp only [Vo, Gm]
   exact Ji (by decide)
 | d + 1, i, n + 1, h, hn => by
   have hl := W6 W s hs i
   have h1 : IntKind.i64.wrap ((i : Int) + 1) = ((i + 1 : Nat) : Int) := by rw [wrap_i64 (by omega) (by omega)]; omega
   have hk : (pu .u32 kks).getD i .top = .sc (.int .u32 (kks.getD i 0)) := YK (by show i < 64; omega)
   have hw : (pu .u32 W).getD i .top = .sc (.int .u32 (W.getD i 0)) := YK (by omega)
   have c1 : decide ((i : Int) < 64) = true := by simp; omega
   have c2 : decide (0 <= (i : Int)) = true := by simp
   have c3 : decide ((i : Int) < zi 64) = true := by simp; omega
   simp only [Vo, Gm, W1, Int.toNat_natCast, h1, hk, hw, c1, c2, c3, WT hl 0 (by omega), WT hl 1 (by omega), WT hl 2 (by omega), WT hl 3 (by omega), WT hl 4 (by omega), WT hl 5 (by omega), WT hl 6 (by omega), WT hl 7 (by omega), PV.isInt, PV.int, decide_true, Bool.and_true, cond_true]
   exact JqV W s hW hs f l p x w e k0 d (i + 1) n (by omega) (by omega)
theorem JqW (t s : List Int) (ht : t.length = 8) (hs : s.length = 8) (f : Nat) (l : Nat) (p : Int) (x y e u : List PV) (k0 : Nat -> Int -> List PV -> List PV -> List PV -> List PV -> List PV -> Option Res) : ∀ (d i n : Nat), i + d = 8 -> d < n ->
  Vp f k0 n l p (i : Int) x y (pu .u32 (Qx (fun j => ww (t.getD j 0 + s.getD j 0)) s i)) e u (pu .u32 t) = k0 l p x y (pu .u32 ((List.range 8).map fun j => ww (t.getD j 0 + s.getD j 0))) e u
 | 0, i, n + 1, h, hn => by
   obtain rfl : i = 8 := by omega
   simp only [Vp, Gn]
   refine (Ji (by decide)).trans ?_
   have := Q4 (fun j => ww (t.getD j 0 + s.getD j 0)) s
   rw [hs] at this; rw [this]
 | d + 1, i, n + 1, h, hn => by
   have hl : (Qx (fun j => ww (t.getD j 0 + s.getD j 0)) s i).length = 8 := by rw [VZ _ _ _ (by omega), hs]
   have h1 : IntKind.i64.wrap ((i : Int) + 1) = ((i + 1 : Nat) : Int) := by rw [wrap_i64 (by omega) (by omega)]; omega
   have c1 : decide ((i : Int) < 8) = true := by simp; omega
   have c2 : decide (0 <= (i : Int)) = true := by simp
   have c3 : decide ((i : Int) < zi 8) = true := by simp; omega
   have g1 : ((i : Int)).toNat = i := by omega
   simp only [Vp, Gn, W1, g1, h1, c1, c2, c3, WT hl i (by omega), WT ht i (by omega), JcY _ s i (by omega), PV.isInt, PV.int, decide_true, Bool.and_true, cond_true, WO]
   have := JqW t s ht hs f l p x y e u k0 d (i + 1) n (by omega) (by omega)
   rw [← Qu _ s i (by omega), Int.add_comm (t.getD i 0)] at this
   exact this
theorem Jw4 (s : List Int) (i : Nat) : Yu s (4 * i) = IntKind.u8.wrap (JL .u32 (s.getD i 0) 24) := by
 rw [Yu, show 4 * i / 4 = i from by omega, show 4 * i % 4 = 0 from by omega]; rfl
theorem Jw5 (s : List Int) (i : Nat) : Yu s (4 * i + 1) = IntKind.u8.wrap (JL .u32 (s.getD i 0) 16) := by
 rw [Yu, show (4 * i + 1) / 4 = i from by omega, show (4 * i + 1) % 4 = 1 from by omega]; rfl
theorem Jw6 (s : List Int) (i : Nat) : Yu s (4 * i + 2) = IntKind.u8.wrap (JL .u32 (s.getD i 0) 8) := by
 rw [Yu, show (4 * i + 2) / 4 = i from by omega, show (4 * i + 2) % 4 = 2 from by omega]; rfl
theorem Jw7 (s : List Int) (i : Nat) : Yu s (4 * i + 3) = IntKind.u8.wrap (s.getD i 0) := by
 rw [Yu, show (4 * i + 3) / 4 = i from by omega, show (4 * i + 3) % 4 = 3 from by omega]
 have : JL .u32 (s.getD i 0) (24 - 8 * ((3 : Nat) : Int)) = s.getD i 0 := by
  have h0 : (24 - 8 * ((3 : Nat) : Int)) = 0 := by decide
  rw [h0]; simp [JL]
 rw [this]
theorem JqX (s : List Int) (hs : s.length = 8) (f : Nat) (k0 : List PV -> List PV -> Option Res) (a : List PV) (t : List Int) (ht : t.length = 32) : ∀ (d i n : Nat), i + d = 8 -> d < n ->
  Vr f k0 n (i : Int) a (pu .u32 s) (pu .u8 (Qx (Yu s) t (4 * i))) = k0 a (pu .u8 (Jlp s))
 | 0, i, n + 1, h, hn => by
   obtain rfl : i = 8 := by omega
   simp only [Vr, Gq]
   refine (Ji (by decide)).trans ?_
   have := Q4 (Yu s) t
   rw [ht] at this; rw [show 4 * 8 = 32 from rfl, this]; rfl
 | d + 1, i, n + 1, h, hn => by
   have h1 : IntKind.i64.wrap ((i : Int) + 1) = ((i + 1 : Nat) : Int) := by rw [wrap_i64 (by omega) (by omega)]; omega
   have h4 : IntKind.i64.wrap (4 * (i : Int)) = ((4 * i : Nat) : Int) := by rw [wrap_i64 (by omega) (by omega)]; omega
   have h41 : IntKind.i64.wrap (((4 * i : Nat) : Int) + 1) = ((4 * i + 1 : Nat) : Int) := by rw [wrap_i64 (by omega) (by omega)]; omega
   have h42 : IntKind.i64.wrap (((4 * i : Nat) : Int) + 2) = ((4 * i + 2 : Nat) : Int) := by rw [wrap_i64 (by omega) (by omega)]; omega
   have h43 : IntKind.i64.wrap (((4 * i : Nat) : Int) + 3) = ((4 * i + 3 : Nat) : Int) := by rw [wrap_i64 (by omega) (by omega)]; omega
   have c1 : decide ((i : Int) < 8) = true := by simp; omega
   have c2 : decide (0 <= (i : Int)) = true := by simp
   have c3 : decide ((i : Int) < zi 8) = true := by simp; omega
   have b0 : (decide (0 <= ((4 * i : Nat) : Int)) && decide (((4 * i : Nat) : Int) < zi 32) && true) = true := by simp; omega
   have b1 : (decide (0 <= ((4 * i + 1 : Nat) : Int)) && decide (((4 * i + 1 : Nat) : Int) < zi 32) && true) = true := by simp; omega
   have b2 : (decide (0 <= ((4 * i + 2 : Nat) : Int)) && decide (((4 * i + 2 : Nat) : Int) < zi 32) && true) = true := by simp; omega
   have b3 : (decide (0 <= ((4 * i + 3 : Nat) : Int)) && decide (((4 * i + 3 : Nat) : Int) < zi 32) && true) = true := by simp; omega
   have g1 : ((i : Int)).toNat = i := by omega
   have g2 : (((4 * i : Nat) : Int)).toNat = 4 * i := by omega
   have g3 : (((4 * i + 1 : Nat) : Int)).toNat = 4 * i + 1 := by omega
   have g4 : (((4 * i + 2 : Nat) : Int)).toNat = 4 * i + 2 := by omega
   have g5 : (((4 * i + 3 : Nat) : Int)).toNat = 4 * i + 3 := by omega
   simp only [Vr, Gq, h1, h4, h41, h42, h43, b0, b1, b2, b3, g1, g2, g3, g4, g5, W1, c1, c2, c3, WT hs i (by omega), PV.isInt, PV.int, decide_true, Bool.and_true, cond_true, WO]
   have := JqX s hs f k0 a t ht d (i + 1) n (by omega) (by omega)
   rw [show 4 * (i + 1) = 4 * i + 3 + 1 from by omega, ← Qu (Yu s) t (4 * i + 3) (by omega), ← Qu (Yu s) t (4 * i + 2) (by omega), ← Qu (Yu s) t (4 * i + 1) (by omega), ← Qu (Yu s) t (4 * i) (by omega), Jw4, Jw5, Jw6, Jw7] at this
   exact this
theorem JqY (P : List Int) (m : Nat) (hP : P.length = 64 * m) (hb : P.length <= 140737488356000) (f : Nat) (hf : 100 <= f) (x : List PV) (k0 : List PV -> List PV -> Option Res) : ∀ (d i n : Nat) (T : List Int), i + d = m -> d < n -> T.length = 64 ->
  Vq f k0 n P.length ((64 * i : Nat) : Int) x (pu .u32 kks) (pu .u32 (WQ iv P i)) (pu .u8 P) (pu .u32 T) = k0 x (pu .u32 (WQ iv P m))
 | 0, i, n + 1, T, h, hn, hT => by
   obtain rfl : i = m := by omega
   simp only [Vq, Gp]
   exact Ji (by simp [zi]; omega)
 | d + 1, i, n + 1, T, h, hn, hT => by
   have hfl := Ww iv P rfl i
   simp only [Vq, Gp]
   refine (Jc (by simp [zi]; omega)).trans ?_
   have e3 := fun kk => JqT P i (by omega) hb T hT f x (pu .u32 kks) (pu .u32 (WQ iv P i)) kk 16 0 f (by omega) (by omega)
   have e4 := fun kk => JqU ((P.drop (64 * i)).take 64) T hT f P.length ((64 * i : Nat) : Int) x (pu .u32 kks) (pu .u32 (WQ iv P i)) (pu .u8 P) kk 48 0 f (by omega) (by omega)
   have hW : (J8 ((P.drop (64 * i)).take 64)).length = 64 := J3 _ 48
   have e5 := fun kk => JqV (J8 ((P.drop (64 * i)).take 64)) (WQ iv P i) hW hfl f P.length ((64 * i : Nat) : Int) x (pu .u32 (WQ iv P i)) (pu .u8 P) kk 64 0 f (by omega) (by omega)
   have e6 := fun kk => JqW (GU (J8 ((P.drop (64 * i)).take 64)) (WQ iv P i) 64) (WQ iv P i) (W6 _ _ hfl 64) hfl f P.length ((64 * i : Nat) : Int) x (pu .u32 kks) (pu .u8 P) (pu .u32 (J8 ((P.drop (64 * i)).take 64))) kk 8 0 f (by omega) (by omega)
   have h0 : Qx (Jd5 ((P.drop (64 * i)).take 64)) T 16 = Z0 ((P.drop (64 * i)).take 64) T 0 := rfl
   rw [QO] at e6
   simp only [QO] at e3
   refine (e3 _).trans ?_
   rw [h0]
   refine (e4 _).trans ?_
   refine (e5 _).trans ?_
   refine (e6 _).trans ?_
   have h1 : IntKind.i64.wrap (((64 * i : Nat) : Int) + 64) = ((64 * (i + 1) : Nat) : Int) := by rw [wrap_i64 (by omega) (by omega)]; omega
   rw [h1]
   exact JqY P m hP hb f hf x k0 d (i + 1) n (J8 ((P.drop (64 * i)).take 64)) (by omega) (by omega) hW
theorem Js9 (bs : List Int) (hb : bs.length <= 140737488355000) (nl fl : Bool) (k : Res -> Option Res) : g28 ((QF bs).length / 64 + 100) nl fl (pu .u8 bs) k = k ⟨.ar 37 (pu .u8 (JT bs)), [], []⟩ := by
 rw [JaV]
 have hlen : (QF bs).length = bs.length + 1 + zs (bs.length + 1) + 8 := by simp [QF, Jn1]; omega
 have hz : zs (bs.length + 1) < 64 := by unfold zs; omega
 have h64 : (QF bs).length = 64 * ((QF bs).length / 64) := Jas bs
 generalize hf : (QF bs).length / 64 + 100 = f
 refine (Jc (by simp [Jk]; omega)).trans ?_
 refine (Jc (by simp [Jk]; omega)).trans ?_
 have hL : List.take (0 + (pu .u8 bs).length) ([] ++ pu .u8 bs) ++ [PV.sc (Value.int IntKind.u8 128)] = pu .u8 (bs ++ [128]) := by
  rw [List.take_of_length_le (by simp)]; simp
 rw [hL]
 have e0 := fun kk x y w => JqR f nl fl (pu .u8 bs) x y w kk (zs (bs.length + 1)) f (bs ++ [128]) (by simp) (by omega) (by simp; omega)
 simp only [List.length_append, List.length_cons, List.length_nil, Nat.zero_add] at e0
 have hl1 : 0 + (pu .u8 bs).length + 1 = bs.length + 1 := by simp
 rw [hl1]
 refine (e0 _ _ _ _).trans ?_
 have e1 := fun kk x y w => JqS f (IntKind.u64.wrap (IntKind.u64.wrap (zi (pu .u8 bs).length) * 8)) x y w kk (bs ++ [128] ++ List.replicate (zs (bs.length + 1)) 0) (by simp; omega) 8 0 f (by omega) (by omega)
 have hl2 : (bs ++ [128] ++ List.replicate (zs (bs.length + 1)) 0).length = bs.length + 1 + zs (bs.length + 1) := by simp; omega
 rw [hl2] at e1
 simp only [List.range_zero, List.map_nil, List.append_nil, Nat.add_zero] at e1
 refine (e1 _ _ _ _).trans ?_
 have hPd : bs ++ [128] ++ List.replicate (zs (bs.length + 1)) 0 ++ (List.range 8).map (JoW (IntKind.u64.wrap (IntKind.u64.wrap (zi (pu .u8 bs).length) * 8))) = QF bs := by
  rw [JG]; rfl
 rw [hPd, ← hlen]
 have e2 := fun kk x => JqY (QF bs) ((QF bs).length / 64) h64 (by omega) f (by omega) x kk ((QF bs).length / 64) 0 f (List.replicate 64 0) (by omega) (by omega) (by simp)
 refine (e2 _ _).trans ?_
 have hfl := Ww iv (QF bs) rfl ((QF bs).length / 64)
 have e7 := fun kk a => JqX (WQ iv (QF bs) ((QF bs).length / 64)) hfl f kk a (List.replicate 32 0) (by simp) 8 0 f (by omega) (by omega)
 simp only [Nat.mul_zero, QO] at e7
 exact e7 _ _
def JhH : List PV -> List Ent -> (Res -> Option Res) -> Option Res
 | [.ro 5 nl fl b], [], k => bif Jj .u8 b && decide (b.length <= 140737488355000) then k ⟨.ar 37 (pu .u8 (JT (Jw b))), [], []⟩ else none
 | _, _, _ => none
def JoY : Sig := { own := [], run := JhH }
theorem Jmk : Jg tau Try.prog 28 JoY := JgV Jp X5 Jq Jw2 Jw3 (fun n => JoN (JbY n) (JbZ n) (Jb0 n) (Jb1 n)) [] 0 [] JhH (fun n => JAd n) fun xs es k res hr => by
 unfold JhH at hr
 split at hr
 · rename_i nl fl l
   obtain ⟨hc, hr⟩ := JE hr
   simp only [Bool.and_eq_true, decide_eq_true_eq] at hc
   refine ⟨rfl, (QF (Jw l)).length / 64 + 100, 0, (e28 _ _ _ _ _).trans ?_⟩
   have he := Qp hc.1
   have := Js9 (Jw l) (by simpa using hc.2) nl fl k
   rw [← he] at this
   rw [this]; exact hr
 · cases hr
noncomputable abbrev z36 : List PV := [.sc (.int .u8 0), .sc (.int .u8 0), .sc (.int .u8 0), .sc (.int .u8 0), .sc (.int .u8 0), .sc (.int .u8 0), .sc (.int .u8 0), .sc (.int .u8 0), .sc (.int .u8 0), .sc (.int .u8 0), .sc (.int .u8 0), .sc (.int .u8 0), .sc (.int .u8 0), .sc (.int .u8 0), .sc (.int .u8 0), .sc (.int .u8 0), .sc (.int .u8 0), .sc (.int .u8 0), .sc (.int .u8 0), .sc (.int .u8 0), .sc (.int .u8 0), .sc (.int .u8 0), .sc (.int .u8 0), .sc (.int .u8 0), .sc (.int .u8 0), .sc (.int .u8 0), .sc (.int .u8 0), .sc (.int .u8 0), .sc (.int .u8 0), .sc (.int .u8 0), .sc (.int .u8 0), .sc (.int .u8 0), .sc (.int .u8 0), .sc (.int .u8 0), .sc (.int .u8 0), .sc (.int .u8 0), .sc (.int .u8 0), .sc (.int .u8 0), .sc (.int .u8 0), .sc (.int .u8 0), .sc (.int .u8 0), .sc (.int .u8 0), .sc (.int .u8 0), .sc (.int .u8 0), .sc (.int .u8 0), .sc (.int .u8 0), .sc (.int .u8 0), .sc (.int .u8 0), .sc (.int .u8 0), .sc (.int .u8 0), .sc (.int .u8 0), .sc (.int .u8 0), .sc (.int .u8 0), .sc (.int .u8 0), .sc (.int .u8 0), .sc (.int .u8 0), .sc (.int .u8 0), .sc (.int .u8 0), .sc (.int .u8 0), .sc (.int .u8 0), .sc (.int .u8 0), .sc (.int .u8 0), .sc (.int .u8 0), .sc (.int .u8 0)]
def N36 : Nat := 53
def F36 : Fns := JH 28 JoY (F0)
theorem Jml : Jy tau Try.prog F36 := (JD).add Jmk Js8
def Jdl : Code := Qo (Try.f36.body.get!) [1, 1, 1, 1, 0, 1, 0, 0]
def Ye : Nm := [(1, .any), (4, .any), (5, .any), (7, .any), (8, .any), (9, .any)]
def Zl : Nm := [(1, .any), (4, .any), (7, .any), (8, .any)]
def Jf2 : An := (.seq (.seq .leaf (.cond .leaf .leaf)) (.seq (.block none .leaf) .leaf))
def JoZ (r0 : QE) : An := (.seq .leaf (.seq .leaf (.seq (.seq .leaf (.cond (.seq .leaf .leaf) .leaf)) (.seq .leaf (.seq (.seq .leaf (.block none (.sum Ye N36 r0))) (.seq .leaf (.seq .leaf .leaf)))))))
def Gr (f : Nat) (rc : Bool -> Bool -> List PV -> Int -> List PV -> List PV -> List PV -> List PV -> Option Res) (k0 : Bool -> Bool -> List PV -> List PV -> List PV -> List PV -> Option Res) (v0 v1 : Bool) (v2 : List PV) (v3 : Int) (v4 v5 v6 v7 : List PV) : Option Res := bif decide (v3 < 64) then bif decide (0 <= v3) && decide (v3 < zi 64) && true then bif PV.isInt IntKind.u8 (Jb (v5.getD (0 + v3.toNat) PV.top) []) && true then bif decide (0 <= v3) && decide (v3 < zi 64) && true then bif PV.isInt IntKind.u8 (Jb (v5.getD (0 + v3.toNat) PV.top) []) && true then bif decide (0 <= v3) && decide (v3 < zi 64) && true then bif decide (0 <= v3) && decide (v3 < zi 64) && true then rc v0 v1 v2 (IntKind.i64.wrap (v3 + 1)) v4 v5 (v6.set (0 + v3.toNat) (.sc (.int .u8 (JA BinOp.xor IntKind.u8 (Jb (v5.getD (0 + v3.toNat) PV.top) []).int 54)))) (v7.set (0 + v3.toNat) (.sc (.int .u8 (JA BinOp.xor IntKind.u8 (Jb (v5.getD (0 + v3.toNat) PV.top) []).int 92)))) else none else none else none else none else none else none else k0 v0 v1 v2 v4 v6 v7
def WU (f : Nat) (k0 : Bool -> Bool -> List PV -> List PV -> List PV -> List PV -> Option Res) : Nat -> Bool -> Bool -> List PV -> Int -> List PV -> List PV -> List PV -> List PV -> Option Res
 | 0, _, _, _, _, _, _, _, _ => none
 | n + 1, v0, v1, v2, v3, v4, v5, v6, v7 => Gr f (WU f k0 n) k0 v0 v1 v2 v3 v4 v5 v6 v7
theorem Jo0 (f : Nat) (k : Kont) (n : Nat) (v0 v1 : Bool) (v2 : List PV) (v3 : Int) (v4 v5 v6 v7 : List PV) : Jl tau 0 Ye (fun s k => ev tau F36 0 0 Jdl (Jf2 ) s k) (n + 1) (Jd Ye N36 [.ro 5 v0 v1 v2, .ptr 864 [], .ow 5 865 [] 0 64 (some 64), .ow 5 866 [] 0 64 (some 64), .ow 5 867 [] 0 64 (some 64), .sc (.int .i64 v3)] [(864, .box false 37 (PV.ar 37 v4)), (865, .vec false 5 false v5), (866, .vec false 5 false v6), (867, .vec false 5 false v7)]) (Jo tau 0 Zl k) = Gr f (fun v0 v1 v2 v3 v4 v5 v6 v7 => Jl tau 0 Ye (fun s k => ev tau F36 0 0 Jdl (Jf2 ) s k) n (Jd Ye N36 [.ro 5 v0 v1 v2, .ptr 864 [], .ow 5 865 [] 0 64 (some 64), .ow 5 866 [] 0 64 (some 64), .ow 5 867 [] 0 64 (some 64), .sc (.int .i64 v3)] [(864, .box false 37 (PV.ar 37 v4)), (865, .vec false 5 false v5), (866, .vec false 5 false v6), (867, .vec false 5 false v7)]) (Jo tau 0 Zl k)) (fun x0 x1 x2 x3 x4 x5 => k (Ex.exit 0) (Jd Zl N36 [.ro 5 x0 x1 x2, .ptr 864 [], .ow 5 865 [] 0 64 (some 64), .ow 5 866 [] 0 64 (some 64)] [(864, .box false 37 (PV.ar 37 x3)), (865, .vec false 5 false x4), (866, .vec false 5 false x5)])) v0 v1 v2 v3 v4 v5 v6 v7 := by kernel_rfl
theorem Jjo (f : Nat) (k : Kont) : ∀ (n : Nat) (v0 v1 : Bool) (v2 : List PV) (v3 : Int) (v4 v5 v6 v7 : List PV), Jl tau 0 Ye (fun s k => ev tau F36 0 0 Jdl (Jf2 ) s k) n (Jd Ye N36 [.ro 5 v0 v1 v2, .ptr 864 [], .ow 5 865 [] 0 64 (some 64), .ow 5 866 [] 0 64 (some 64), .ow 5 867 [] 0 64 (some 64), .sc (.int .i64 v3)] [(864, .box false 37 (PV.ar 37 v4)), (865, .vec false 5 false v5), (866, .vec false 5 false v6), (867, .vec false 5 false v7)]) (Jo tau 0 Zl k) = WU f (fun x0 x1 x2 x3 x4 x5 => k (Ex.exit 0) (Jd Zl N36 [.ro 5 x0 x1 x2, .ptr 864 [], .ow 5 865 [] 0 64 (some 64), .ow 5 866 [] 0 64 (some 64)] [(864, .box false 37 (PV.ar 37 x3)), (865, .vec false 5 false x4), (866, .vec false 5 false x5)])) n v0 v1 v2 v3 v4 v5 v6 v7 | 0, _, _, _, _, _, _, _, _ => rfl | n + 1, v0, v1, v2, v3, v4, v5, v6, v7 => (Jo0 f k n v0 v1 v2 v3 v4 v5 v6 v7).trans (congrArg (fun r => Gr f r (fun x0 x1 x2 x3 x4 x5 => k (Ex.exit 0) (Jd Zl N36 [.ro 5 x0 x1 x2, .ptr 864 [], .ow 5 865 [] 0 64 (some 64), .ow 5 866 [] 0 64 (some 64)] [(864, .box false 37 (PV.ar 37 x3)), (865, .vec false 5 false x4), (866, .vec false 5 false x5)])) v0 v1 v2 v3 v4 v5 v6 v7) (by funext v0 v1 v2 v3 v4 v5 v6 v7; exact Jjo f k n v0 v1 v2 v3 v4 v5 v6 v7))
def Jb2 (f : Nat) : List PV -> List (Nat × Ent) -> Kont -> Option Res
 | [.ro 5 v0 v1 v2, .ptr 864 [], .ow 5 865 [] 0 64 (some 64), .ow 5 866 [] 0 64 (some 64), .ow 5 867 [] 0 64 (some 64),
 PV.sc
  (Value.int IntKind.i64
   v3)], [(864, .box false 37 (PV.ar 37 v4)), (865, .vec false 5 false v5), (866, .vec false 5 false v6),
 (867,
  Ent.vec false 5 false
   v7)], k => WU f (fun x0 x1 x2 x3 x4 x5 => k (Ex.exit
 0) (Jd Zl N36 [.ro 5 x0 x1 x2, .ptr 864 [], .ow 5 865 [] 0 64 (some 64),
 PV.ow 5 866 [] 0 64 (some 64)] [(864, .box false 37 (PV.ar 37 x3)), (865, .vec false 5 false x4), (866, .vec false 5 false x5)])) f v0 v1 v2 v3 v4 v5 v6 v7
 | _, _, _ => none
theorem Jta (f : Nat) : Jf Jdl Jf2 = [] := by kernel_rfl
theorem Jw8 (f : Nat) : (Item.l Jdl Ye N36 (Jb2 f)).Ok tau Try.prog 0 := Jz Jp Jml Jq (x := Jf2) (nm2 := Zl) (Jm _ _ (by rw [Jta f]; intro q hq; cases hq)) fun vs hp k res hr => by
 unfold Jb2 at hr
 split at hr
 · exact ⟨f, 0, (Jjo f _ f _ _ _ _ _ _ _ _ ).trans hr⟩
 · cases hr
def g36 (f : Nat) (y0 y1 : Bool) (key : List PV) (y2 y3 : Bool) (text : List PV) (k : Res -> Option Res) : Option Res := bif decide (zi key.length > 64) then bif Jj IntKind.u8 key && decide (key.length <= 140737488355000) then WU f (fun x0_0 x1_0 x2_0 x3_0 x4_0 x5_0 => bif Jk (64 + x2_0.length) 1 && true then bif Jj IntKind.u8 (List.take (64 + x2_0.length) (List.take 64 x4_0 ++ x2_0)) && decide ((List.take (64 + x2_0.length) (List.take 64 x4_0 ++ x2_0)).length <= 140737488355000) then bif Jk (64 + (List.take 32 (pu IntKind.u8 (JT (Jw (List.take (64 + x2_0.length) (List.take 64 x4_0 ++ x2_0)))))).length) 1 && true then bif Jj IntKind.u8 (List.take (64 + (List.take 32 (pu IntKind.u8 (JT (Jw (List.take (64 + x2_0.length) (List.take 64 x4_0 ++ x2_0)))))).length) (List.take 64 x5_0 ++ List.take 32 (pu IntKind.u8 (JT (Jw (List.take (64 + x2_0.length) (List.take 64 x4_0 ++ x2_0))))))) && decide ((List.take (64 + (List.take 32 (pu IntKind.u8 (JT (Jw (List.take (64 + x2_0.length) (List.take 64 x4_0 ++ x2_0)))))).length) (List.take 64 x5_0 ++ List.take 32 (pu IntKind.u8 (JT (Jw (List.take (64 + x2_0.length) (List.take 64 x4_0 ++ x2_0))))))).length <= 140737488355000) then k (Res.mk (.ar 37 (pu IntKind.u8 (JT (Jw (List.take (64 + (List.take 32 (pu IntKind.u8 (JT (Jw (List.take (64 + x2_0.length) (List.take 64 x4_0 ++ x2_0)))))).length) (List.take 64 x5_0 ++ List.take 32 (pu IntKind.u8 (JT (Jw (List.take (64 + x2_0.length) (List.take 64 x4_0 ++ x2_0))))))))))) [] []) else none else none else none else none) f y2 y3 text (0) ([.sc (.int .u8 0), .sc (.int .u8 0), .sc (.int .u8 0), .sc (.int .u8 0), .sc (.int .u8 0), .sc (.int .u8 0), .sc (.int .u8 0), .sc (.int .u8 0), .sc (.int .u8 0), .sc (.int .u8 0), .sc (.int .u8 0), .sc (.int .u8 0), .sc (.int .u8 0), .sc (.int .u8 0), .sc (.int .u8 0), .sc (.int .u8 0), .sc (.int .u8 0), .sc (.int .u8 0), .sc (.int .u8 0), .sc (.int .u8 0), .sc (.int .u8 0), .sc (.int .u8 0), .sc (.int .u8 0), .sc (.int .u8 0), .sc (.int .u8 0), .sc (.int .u8 0), .sc (.int .u8 0), .sc (.int .u8 0), .sc (.int .u8 0), .sc (.int .u8 0), .sc (.int .u8 0), .sc (.int .u8 0)]) (List.take 64 (List.take 32 (pu IntKind.u8 (JT (Jw key)))) ++ List.drop (0 + min (List.take 32 (pu IntKind.u8 (JT (Jw key)))).length 64) z36) (z36) (z36) else none else WU f (fun x0_1 x1_1 x2_1 x3_1 x4_1 x5_1 => bif Jk (64 + x2_1.length) 1 && true then bif Jj IntKind.u8 (List.take (64 + x2_1.length) (List.take 64 x4_1 ++ x2_1)) && decide ((List.take (64 + x2_1.length) (List.take 64 x4_1 ++ x2_1)).length <= 140737488355000) then bif Jk (64 + (List.take 32 (pu IntKind.u8 (JT (Jw (List.take (64 + x2_1.length) (List.take 64 x4_1 ++ x2_1)))))).length) 1 && true then bif Jj IntKind.u8 (List.take (64 + (List.take 32 (pu IntKind.u8 (JT (Jw (List.take (64 + x2_1.length) (List.take 64 x4_1 ++ x2_1)))))).length) (List.take 64 x5_1 ++ List.take 32 (pu IntKind.u8 (JT (Jw (List.take (64 + x2_1.length) (List.take 64 x4_1 ++ x2_1))))))) && decide ((List.take (64 + (List.take 32 (pu IntKind.u8 (JT (Jw (List.take (64 + x2_1.length) (List.take 64 x4_1 ++ x2_1)))))).length) (List.take 64 x5_1 ++ List.take 32 (pu IntKind.u8 (JT (Jw (List.take (64 + x2_1.length) (List.take 64 x4_1 ++ x2_1))))))).length <= 140737488355000) then k (Res.mk (.ar 37 (pu IntKind.u8 (JT (Jw (List.take (64 + (List.take 32 (pu IntKind.u8 (JT (Jw (List.take (64 + x2_1.length) (List.take 64 x4_1 ++ x2_1)))))).length) (List.take 64 x5_1 ++ List.take 32 (pu IntKind.u8 (JT (Jw (List.take (64 + x2_1.length) (List.take 64 x4_1 ++ x2_1))))))))))) [] []) else none else none else none else none) f y2 y3 text (0) ([.sc (.int .u8 0), .sc (.int .u8 0), .sc (.int .u8 0), .sc (.int .u8 0), .sc (.int .u8 0), .sc (.int .u8 0), .sc (.int .u8 0), .sc (.int .u8 0), .sc (.int .u8 0), .sc (.int .u8 0), .sc (.int .u8 0), .sc (.int .u8 0), .sc (.int .u8 0), .sc (.int .u8 0), .sc (.int .u8 0), .sc (.int .u8 0), .sc (.int .u8 0), .sc (.int .u8 0), .sc (.int .u8 0), .sc (.int .u8 0), .sc (.int .u8 0), .sc (.int .u8 0), .sc (.int .u8 0), .sc (.int .u8 0), .sc (.int .u8 0), .sc (.int .u8 0), .sc (.int .u8 0), .sc (.int .u8 0), .sc (.int .u8 0), .sc (.int .u8 0), .sc (.int .u8 0), .sc (.int .u8 0)]) (List.take 64 key ++ List.drop (0 + min key.length 64) z36) (z36) (z36)
theorem e36 (f : Nat) (y0 y1 : Bool) (key : List PV) (y2 y3 : Bool) (text : List PV) (k : Res -> Option Res) : JQ tau F36 Try.f36 (Try.f36.body.get!) (JoZ (Jb2 f)) [.ro] 0 [.ro 5 y0 y1 key, .ro 5 y2 y3 text] [] k = g36 f y0 y1 key y2 y3 text k := by kernel_rfl
theorem JAe (f : Nat) : Jf (Try.f36.body.get!) (JoZ (Jb2 f)) = [.l Jdl Ye N36 (Jb2 f)] := by kernel_rfl
theorem JAf (f : Nat) : ∀ q ∈ Jf (Try.f36.body.get!) (JoZ (Jb2 f)), q.Ok tau Try.prog 0 := by
 rw [JAe f]; simp only [List.forall_mem_cons, List.not_mem_nil, false_implies, implies_true, and_true]; exact Jw8 f
theorem Jw9 : Try.prog.funcs[36]? = some Try.f36 := by kernel_rfl
theorem Jxa : Try.f36.body = some (Try.f36.body.get!) := by kernel_rfl
theorem Jxb : Enters Try.prog 36 := enters_of Jw9 (by kernel_rfl) Jxa
-- FN ref3.Mac
theorem Jdm (K : List Int) (hK : K.length = 64) (x : Int) : (List.range 64).map (fun j => JA .xor .u8 (K.getD j 0) x) = X4 K x := by
 rw [← Jme K hK x]
 apply List.map_congr_left
 intro j _
 exact ZZ _ _ _
theorem JqZ (K : List Int) (hK : K.length = 64) (f : Nat) (k0 : Bool -> Bool -> List PV -> List PV -> List PV -> List PV -> Option Res) (tz tf : Bool) (text h : List PV) : ∀ (d i n : Nat), i + d = 64 -> d < n ->
  WU f k0 n tz tf text (i : Int) h (pu .u8 K) (pu .u8 (Qx (fun j => JA .xor .u8 (K.getD j 0) 54) (List.replicate 64 0) i)) (pu .u8 (Qx (fun j => JA .xor .u8 (K.getD j 0) 92) (List.replicate 64 0) i)) = k0 tz tf text h (pu .u8 (X4 K 54)) (pu .u8 (X4 K 92))
 | 0, i, n + 1, hh, hn => by
   obtain rfl : i = 64 := by omega
   simp only [WU, Gr]
   refine (Ji (by decide)).trans ?_
   have h1 := Q4 (fun j => JA .xor .u8 (K.getD j 0) 54) (List.replicate 64 0)
   have h2 := Q4 (fun j => JA .xor .u8 (K.getD j 0) 92) (List.replicate 64 0)
   rw [List.length_replicate] at h1 h2
   rw [h1, h2, Jdm K hK, Jdm K hK]
 | d + 1, i, n + 1, hh, hn => by
   have g1 : ((i : Int)).toNat = i := by omega
   have h1 : IntKind.i64.wrap ((i : Int) + 1) = ((i + 1 : Nat) : Int) := by rw [wrap_i64 (by omega) (by omega)]; omega
   have c0 : (decide (0 <= (i : Int)) && decide ((i : Int) < zi 64) && true) = true := by simp; omega
   simp only [WU, Gr, g1, h1, Nat.zero_add, Jb]
   rw [J2 (by omega), Qw (by omega), WO, WO]
   refine (Jc (by simp; omega)).trans ((Jc c0).trans ((Jc rfl).trans ((Jc c0).trans ((Jc rfl).trans ((Jc c0).trans ((Jc c0).trans ?_))))))
   have := JqZ K hK f k0 tz tf text h d (i + 1) n (by omega) (by omega)
   rw [← Qu _ _ i (by simp; omega), ← Qu _ _ i (by simp; omega)] at this
   exact this
def ZP (a b text : List PV) (k : Res -> Option Res) : Option Res :=
 bif Jk (64 + text.length) 1 && true then
  bif Jj .u8 (List.take (64 + text.length) (List.take 64 a ++ text)) && decide ((List.take (64 + text.length) (List.take 64 a ++ text)).length <= 140737488355000) then
   bif Jk (64 + (List.take 32 (pu .u8 (JT (Jw (List.take (64 + text.length) (List.take 64 a ++ text)))))).length) 1 && true then
    bif Jj .u8 (List.take (64 + (List.take 32 (pu .u8 (JT (Jw (List.take (64 + text.length) (List.take 64 a ++ text)))))).length) (List.take 64 b ++ List.take 32 (pu .u8 (JT (Jw (List.take (64 + text.length) (List.take 64 a ++ text)))))))
      && decide ((List.take (64 + (List.take 32 (pu .u8 (JT (Jw (List.take (64 + text.length) (List.take 64 a ++ text)))))).length) (List.take 64 b ++ List.take 32 (pu .u8 (JT (Jw (List.take (64 + text.length) (List.take 64 a ++ text))))))).length <= 140737488355000) then
     k ⟨.ar 37 (pu .u8 (JT (Jw (List.take (64 + (List.take 32 (pu .u8 (JT (Jw (List.take (64 + text.length) (List.take 64 a ++ text)))))).length) (List.take 64 b ++ List.take 32 (pu .u8 (JT (Jw (List.take (64 + text.length) (List.take 64 a ++ text)))))))))), [], []⟩
    else none
   else none
  else none
 else none
theorem Jmm (f : Nat) (kz kf : Bool) (key : List PV) (tz tf : Bool) (text : List PV) (k : Res -> Option Res) : g36 f kz kf key tz tf text k =
 (bif decide (zi key.length > 64) then
  bif Jj .u8 key && decide (key.length <= 140737488355000) then
   WU f (fun _ _ t _ a b => ZP a b t k) f tz tf text 0 (pu .u8 (List.replicate 32 0)) (kbG (List.take 32 (pu .u8 (JT (Jw key))))) (pu .u8 (List.replicate 64 0)) (pu .u8 (List.replicate 64 0))
  else none
 else WU f (fun _ _ t _ a b => ZP a b t k) f tz tf text 0 (pu .u8 (List.replicate 32 0)) (kbG key) (pu .u8 (List.replicate 64 0)) (pu .u8 (List.replicate 64 0))) := by kernel_rfl
theorem JhI (K T : List Int) (hK : K.length = 64) (hT : T.length <= 1000000000) (k : Res -> Option Res) :
  ZP (pu .u8 (X4 K 54)) (pu .u8 (X4 K 92)) (pu .u8 T) k = k ⟨.ar 37 (pu .u8 (JT (X4 K 92 ++ JT (X4 K 54 ++ T)))), [], []⟩ := by
 have e1 : List.take (64 + (pu .u8 T).length) (List.take 64 (pu .u8 (X4 K 54)) ++ pu .u8 T) = pu .u8 (X4 K 54 ++ T) := by
  rw [List.take_of_length_le (i := 64) (by simp [hK]), List.take_of_length_le (by simp [hK]), ← J4]
 have e2 : ∀ l : List Int, List.take 32 (pu .u8 (JT l)) = pu .u8 (JT l) := fun l => List.take_of_length_le (by simp [Qi])
 have e3 : ∀ l : List Int, List.take (64 + (pu .u8 (JT l)).length) (List.take 64 (pu .u8 (X4 K 92)) ++ pu .u8 (JT l)) = pu .u8 (X4 K 92 ++ JT l) := fun l => by
  rw [List.take_of_length_le (i := 64) (by simp [hK]), List.take_of_length_le (by simp [hK]), ← J4]
 unfold ZP
 rw [e1, e2, e3, Jc (by simp [Jk]; omega), Jc (by rw [JR, JG]; simp [hK]; omega), Jc (by simp [Jk, Qi]), Jc (by rw [JR, JG]; simp [hK, Qi])]
 simp only [Q7]
def JhJ : List PV -> List Ent -> (Res -> Option Res) -> Option Res
 | [.ro 5 kz kf key, .ro 5 tz tf text], [], k =>
  bif (Jj .u8 key && decide (key.length <= 1000000000)) && (Jj .u8 text && decide (text.length <= 1000000000)) then
   k ⟨.ar 37 (pu .u8 (Jcp (Jw key) (Jw text))), [], []⟩ else none
 | _, _, _ => none
def Jtb : Sig := { own := [], run := JhJ }
theorem Jtc (kz kf : Bool) (key : List PV) (tz tf : Bool) (text : List PV) (k : Res -> Option Res) (a1 : Jj .u8 key = true) (a2 : key.length <= 1000000000) (h3 : Jj .u8 text = true) (h4 : text.length <= 1000000000) :
   g36 70 kz kf key tz tf text k = k ⟨.ar 37 (pu .u8 (Jcp (Jw key) (Jw text))), [], []⟩ := by
 rw [Jmm, Jjf, Jmg]
 have hi := Qp a1
 have ht := Qp h3
 have hL : ∀ K : List Int, K.length = 64 -> WU 70 (fun _ _ t _ a b => ZP a b t k) 70 tz tf text 0 (pu .u8 (List.replicate 32 0)) (pu .u8 K) (pu .u8 (List.replicate 64 0)) (pu .u8 (List.replicate 64 0)) = k ⟨.ar 37 (pu .u8 (JT (X4 K 92 ++ JT (X4 K 54 ++ Jw text)))), [], []⟩ := by
   intro K hK
   have := JqZ K hK 70 (fun _ _ t _ a b => ZP a b t k) tz tf text (pu .u8 (List.replicate 32 0)) 64 0 70 (by omega) (by omega)
   rw [QO, QO] at this
   refine this.trans ?_
   have hm := JhI K (Jw text) hK (by simpa using h4) k
   rw [← ht] at hm
   exact hm
 by_cases hc : key.length > 64
 · rw [Jc (by simp [zi]; omega), Jc (by simp [a1]; omega), List.take_of_length_le (by simp [Qi]), Jmh _ (by rw [Qi]; omega),
    hL _ (by rw [← Jaw (Jw key), JfS, if_pos (by simpa using hc)]), JfS, if_pos (by simpa using hc)]
 · have hl : (Jw key).length <= 64 := by simp; omega
   rw [Ji (by simp [zi]; omega), hi, Jmh _ hl, Q7, hL _ (by rw [← Jaw (Jw key), JfS, if_neg (by omega)]), JfS, if_neg (by omega)]
theorem Jq0 : Jg tau Try.prog 36 Jtb := Jg.mk' fun xs es k res hl hr => by
 change JhJ xs es k = some res at hr
 unfold JhJ at hr
 split at hr
 · rename_i kz kf key tz tf text
   obtain ⟨hc, hr⟩ := JE hr
   simp only [Bool.and_eq_true, decide_eq_true_eq] at hc
   obtain ⟨⟨a1, a2⟩, h3, h4⟩ := hc
   exact Qr Jp Jml Jq Jw9 Jxa (JoZ (Jb2 70)) [.ro] 0 0 (JAf 70) hl rfl ((e36 70 kz kf key tz tf text k).trans ((Jtc kz kf key tz tf text k a1 a2 h3 h4).trans hr))
 · cases hr
def F48 : Fns := JH 53 JvP (JH 36 Jtb (F0))
theorem Jtd : Jy tau Try.prog F48 := ((JD).add Jq0 Jxb).add JvQ Jzq
def Jo1 : An := (.seq .leaf (.seq .leaf (.seq .leaf .leaf)))
def g48 (f : Nat) (k0_z k0_f : Bool) (k0 : List PV) (k1_z k1_f : Bool) (k1 : List PV) (k2_z k2_f : Bool) (k2 : List PV) (y0 y1 d_Id y2 : Int) (y3 : List PV) (y4 : Int) (y5 y6 : Bool) (d_Op : List PV) (y7 y8 : Int) (k : Res -> Option Res) : Option Res := bif dOk (DV.mk y0 y1 d_Id y2 y3 y4 d_Op y7 y8) then bif decide (0 <= y0) && decide (y0 < zi 3) && true then bif PV.isRo 5 (Jb (PV.st 31 [.ro 5 k0_z k0_f k0, .ro 5 k1_z k1_f k1, .ro 5 k2_z k2_f k2]) [y0.toNat]) && true then bif Jj IntKind.u8 (Jb (PV.st 31 [.ro 5 k0_z k0_f k0, .ro 5 k1_z k1_f k1, .ro 5 k2_z k2_f k2]) [y0.toNat]).els && decide ((Jb (PV.st 31 [.ro 5 k0_z k0_f k0, .ro 5 k1_z k1_f k1, .ro 5 k2_z k2_f k2]) [y0.toNat]).els.length <= 1000000000) && (Jj IntKind.u8 (List.take (dlB (DV.mk y0 y1 d_Id y2 y3 y4 d_Op y7 y8)).length (pu IntKind.u8 (dlB (DV.mk y0 y1 d_Id y2 y3 y4 d_Op y7 y8)))) && decide ((List.take (dlB (DV.mk y0 y1 d_Id y2 y3 y4 d_Op y7 y8)).length (pu IntKind.u8 (dlB (DV.mk y0 y1 d_Id y2 y3 y4 d_Op y7 y8)))).length <= 1000000000)) then k (Res.mk (.st 77 [.ro 5 false false (List.take (dlB (DV.mk y0 y1 d_Id y2 y3 y4 d_Op y7 y8)).length (pu IntKind.u8 (dlB (DV.mk y0 y1 d_Id y2 y3 y4 d_Op y7 y8)))), .ar 37 (pu IntKind.u8 (Jcp (Jw (Jb (PV.st 31 [.ro 5 k0_z k0_f k0, .ro 5 k1_z k1_f k1, .ro 5 k2_z k2_f k2]) [y0.toNat]).els) (Jw (List.take (dlB (DV.mk y0 y1 d_Id y2 y3 y4 d_Op y7 y8)).length (pu IntKind.u8 (dlB (DV.mk y0 y1 d_Id y2 y3 y4 d_Op y7 y8)))))))]) [] []) else none else none else none else none
theorem e48 (f : Nat) (k0_z k0_f : Bool) (k0 : List PV) (k1_z k1_f : Bool) (k1 : List PV) (k2_z k2_f : Bool) (k2 : List PV) (y0 y1 d_Id y2 : Int) (y3 : List PV) (y4 : Int) (y5 y6 : Bool) (d_Op : List PV) (y7 y8 : Int) (k : Res -> Option Res) : JQ tau F48 Try.f48 (Try.f48.body.get!) Jo1 [.ro] 0 [.st 31 [.ro 5 k0_z k0_f k0, .ro 5 k1_z k1_f k1, .ro 5 k2_z k2_f k2], .st 73 [.st 45 [.sc (.int .i64 y0), .sc (.int .i64 y1)], .sc (.int .i64 d_Id), .sc (.int .i64 y2), .ar 37 y3, .sc (.int .i64 y4), .ro 99 y5 y6 d_Op, .st 45 [.sc (.int .i64 y7), .sc (.int .i64 y8)]]] [] k = g48 f k0_z k0_f k0 k1_z k1_f k1 k2_z k2_f k2 y0 y1 d_Id y2 y3 y4 y5 y6 d_Op y7 y8 k := by kernel_rfl
theorem JAg (f : Nat) : Jf (Try.f48.body.get!) Jo1 = [] := by kernel_rfl
theorem JAh (f : Nat) : ∀ q ∈ Jf (Try.f48.body.get!) Jo1, q.Ok tau Try.prog 0 := by
 rw [JAg f]; intro q hq; cases hq
theorem Jxc : Try.prog.funcs[48]? = some Try.f48 := by kernel_rfl
theorem Jxd : Try.f48.body = some (Try.f48.body.get!) := by kernel_rfl
theorem JAi : Enters Try.prog 48 := enters_of Jxc (by kernel_rfl) Jxd
def Jmn : List PV -> List Ent -> (Res -> Option Res) -> Option Res
 | [.st 31 [.ro 5 k0_z k0_f k0, .ro 5 k1_z k1_f k1, .ro 5 k2_z k2_f k2], .st 73 [.st 45 [.sc (.int .i64 y0), .sc (.int .i64 y1)], .sc (.int .i64 d_Id), .sc (.int .i64 y2), .ar 37 y3, .sc (.int .i64 y4), .ro 99 y5 y6 d_Op, .st 45 [.sc (.int .i64 y7), .sc (.int .i64 y8)]]], [], k => g48 0 k0_z k0_f k0 k1_z k1_f k1 k2_z k2_f k2 y0 y1 d_Id y2 y3 y4 y5 y6 d_Op y7 y8 k
 | _, _, _ => none
def s48 : Sig := { own := [], run := Jmn }
theorem JAj : Jg tau Try.prog 48 s48 := J0 Jp Jtd Jq Jxc Jxd Jo1 [.ro] 0 [] Jmn (JAh 0) fun xs es k res hr => by
 unfold Jmn at hr
 split at hr
 · exact ⟨rfl, 0, (e48 0 _ _ _ _ _ _ _ _ _ _ _ _ _ _ _ _ _ _ _ _  _).trans hr⟩
 · cases hr

def F62 : Fns := JH 59 Jsp (JH 28 JoY (F0))
theorem Jte : Jy tau Try.prog F62 := ((JD).add Jmk Js8).add Jqt JvO
def Jo2 : An := (.seq .leaf (.seq .leaf .leaf))
def g62 (f : Nat) (prev : List PV) (y0 y1 : Bool) (y2 y3 : List PV) (e_At : Int) (y4 y5 : Bool) (e_Op y6 y7 : List PV) (k : Res -> Option Res) : Option Res := bif Jk (0 + (List.take 32 prev).length) 1 && true then bif eOk (EV.mk y2 y3 e_At e_Op) then bif Jk (0 + (List.take 32 prev).length + (List.take (Jr (EV.mk y2 y3 e_At e_Op)).length (pu IntKind.u8 (Jr (EV.mk y2 y3 e_At e_Op)))).length) 1 && true then bif Jj IntKind.u8 (List.take (0 + (List.take 32 prev).length + (List.take (Jr (EV.mk y2 y3 e_At e_Op)).length (pu IntKind.u8 (Jr (EV.mk y2 y3 e_At e_Op)))).length) (List.take (0 + (List.take 32 prev).length) (List.take 32 prev) ++ List.take (Jr (EV.mk y2 y3 e_At e_Op)).length (pu IntKind.u8 (Jr (EV.mk y2 y3 e_At e_Op))))) && decide ((List.take (0 + (List.take 32 prev).length + (List.take (Jr (EV.mk y2 y3 e_At e_Op)).length (pu IntKind.u8 (Jr (EV.mk y2 y3 e_At e_Op)))).length) (List.take (0 + (List.take 32 prev).length) (List.take 32 prev) ++ List.take (Jr (EV.mk y2 y3 e_At e_Op)).length (pu IntKind.u8 (Jr (EV.mk y2 y3 e_At e_Op))))).length <= 140737488355000) then k (Res.mk (.ar 37 (pu IntKind.u8 (JT (Jw (List.take (0 + (List.take 32 prev).length + (List.take (Jr (EV.mk y2 y3 e_At e_Op)).length (pu IntKind.u8 (Jr (EV.mk y2 y3 e_At e_Op)))).length) (List.take (0 + (List.take 32 prev).length) (List.take 32 prev) ++ List.take (Jr (EV.mk y2 y3 e_At e_Op)).length (pu IntKind.u8 (Jr (EV.mk y2 y3 e_At e_Op))))))))) [] []) else none else none else none else none
theorem e62 (f : Nat) (prev : List PV) (y0 y1 : Bool) (y2 y3 : List PV) (e_At : Int) (y4 y5 : Bool) (e_Op y6 y7 : List PV) (k : Res -> Option Res) : JQ tau F62 Try.f62 (Try.f62.body.get!) Jo2 [.ro] 0 [.ar 37 prev, .st 93 [.st 77 [.ro 5 y0 y1 y2, .ar 37 y3], .sc (.int .i64 e_At), .ro 99 y4 y5 e_Op, .ar 37 y6, .ar 37 y7]] [] k = g62 f prev y0 y1 y2 y3 e_At y4 y5 e_Op y6 y7 k := by kernel_rfl
theorem JAk (f : Nat) : Jf (Try.f62.body.get!) Jo2 = [] := by kernel_rfl
theorem JAl (f : Nat) : ∀ q ∈ Jf (Try.f62.body.get!) Jo2, q.Ok tau Try.prog 0 := by
 rw [JAk f]; intro q hq; cases hq
theorem Jxe : Try.prog.funcs[62]? = some Try.f62 := by kernel_rfl
theorem Jxf : Try.f62.body = some (Try.f62.body.get!) := by kernel_rfl
theorem Jxg : Enters Try.prog 62 := enters_of Jxe (by kernel_rfl) Jxf
def Jmo : List PV -> List Ent -> (Res -> Option Res) -> Option Res
 | [.ar 37 prev, .st 93 [.st 77 [.ro 5 y0 y1 y2, .ar 37 y3], .sc (.int .i64 e_At), .ro 99 y4 y5 e_Op, .ar 37 y6, .ar 37 y7]], [], k => g62 0 prev y0 y1 y2 y3 e_At y4 y5 e_Op y6 y7 k
 | _, _, _ => none
def s62 : Sig := { own := [], run := Jmo }
theorem Jxh : Jg tau Try.prog 62 s62 := J0 Jp Jte Jq Jxe Jxf Jo2 [.ro] 0 [] Jmo (JAl 0) fun xs es k res hr => by
 unfold Jmo at hr
 split at hr
 · exact ⟨rfl, 0, (e62 0 _ _ _ _ _ _ _ _ _ _ _  _).trans hr⟩
 · cases hr
-- FN
theorem EntRep.free_none {τ : Tab} {im : Im} {ow : Own} {i : Nat} {e : Ent} {w : World} (he : EntRep τ im ow i e w) (hf : e.free = true) {l : Loc} {b : Nat} (hl : ow i = some l) (hb : l.blk = some b) : im b = none := by
 obtain ⟨loc, h1, h2⟩ := he
 obtain rfl : loc = l := Option.some.inj (h1.symm.trans hl)
 cases e with
 | dead => cases hf
 | box fz t v =>
  obtain ⟨k1, k2, b', cells, el, fr, pre, mid, post, q1, q2, q3, q4, q5, q6, q7, q8⟩ := h2
  have : fz = false := by cases fz with | true => cases hf | false => rfl
  obtain rfl : b = b' := Option.some.inj (hb.symm.trans q1)
  exact q8.1 this
 | vec fz t nl els =>
  obtain ⟨k1, k2, k3⟩ := h2
  have : fz = false := by cases fz with | true => cases hf | false => rfl
  rcases k3 with k3 | ⟨_, b', cells, el, fr, pre, mid, post, q1, q2, q3, q4, q5, q6, q7, q8⟩
  · rw [k3.1] at hb; cases hb
  · obtain rfl : b = b' := Option.some.inj (hb.symm.trans q1)
    exact q8.1 this
theorem Jg.dead {τ : Tab} {P : Program} {g : FuncId} {sg : Sig} (h : Jg τ P g sg) :
   Jg τ P g { own := sg.own, run := fun xs es k => sg.run xs es fun r => bif r.news.isEmpty && decide (r.pars.length <= 15) then k ⟨r.val, r.pars, [.dead]⟩ else none } := by
 intro xs es k res hl hrun
 obtain ⟨r, hk, H⟩ := h xs es _ res hl hrun
 obtain ⟨hn, hk'⟩ := JE hk
 rw [Bool.and_eq_true, decide_eq_true_eq] at hn
 refine ⟨⟨r.val, r.pars, [.dead]⟩, hk', fun im ow w us hx hi => (H im ow w us hx hi).mono fun e w' hp => ?_⟩
 obtain ⟨u, im', ow', h1, h2, G⟩ := hp
 have hn0 : r.news = [] := List.isEmpty_iff.1 hn.1
 rw [hn0] at G
 have e16 : JM r.pars [] 16 = none := rfl
 have d16 : JM r.pars [.dead] 16 = some .dead := rfl
 have same : ∀ i, i ≠ 16 -> JM r.pars [.dead] i = JM r.pars [] i := by
   intro i hi
   unfold JM
   by_cases h16 : i < 16
   · rw [if_pos h16, if_pos h16]
   · rw [if_neg h16, if_neg h16]
     obtain ⟨m, hm⟩ : ∃ m, i - 16 = m + 1 := ⟨i - 17, by omega⟩
     rw [hm]; rfl
 have o16 : ow' 16 = none := by
   cases ho : ow' 16 with
   | none => rfl
   | some l =>
     obtain ⟨e, he⟩ := G.inv.dom 16 l ho
     rw [e16] at he; cases he
 let ow2 : Own := Wp ow' 16 ⟨none, 0, .box 0, 0⟩
 have t16 : ow2 16 = some ⟨none, 0, .box 0, 0⟩ := if_pos rfl
 have tne : ∀ i, i ≠ 16 -> ow2 i = ow' i := fun i hi => if_neg hi
 have how : ∀ i l, ow' i = some l -> ow2 i = some l := by
   intro i l hil
   by_cases h16 : i = 16
   · subst h16; rw [o16] at hil; cases hil
   · rw [tne i h16]; exact hil
 have live : ∀ i b, Live (JM r.pars [.dead]) ow2 i b -> Live (JM r.pars []) ow' i b := by
   rintro i b ⟨e, l, q1, q2, q3, q4⟩
   by_cases h16 : i = 16
   · subst h16; rw [d16] at q1; obtain rfl := Option.some.inj q1; cases q2
   · exact ⟨e, l, by rw [← same i h16]; exact q1, q2, by rw [← tne i h16]; exact q3, q4⟩
 refine ⟨u, im', ow2, h1, Je.mono (fun _ _ h => h) how _ _ h2, ⟨G.imX, fun i l hil => how i l (G.owX i l hil), ⟨G.inv.imOk, ?_, ?_, ?_⟩, G.size, G.keep, G.newim, fun i b hb => G.newlive i b (live i b hb), G.rest⟩⟩
 · intro i e he
   by_cases h16 : i = 16
   · subst h16; rw [d16] at he; obtain rfl := Option.some.inj he; exact ⟨_, t16, trivial⟩
   · rw [same i h16] at he
     have q := G.inv.ent i e he
     exact EntRep.keep (fun _ _ h => h) how (fun _ _ _ _ _ => rfl) (fun hf l b hl hb => q.free_none hf hl hb) q
 · intro i j b hi hj
   exact G.inv.inj i j b (live i b hi) (live j b hj)
 · intro i l hil
   by_cases h16 : i = 16
   · subst h16; exact ⟨_, d16⟩
   · rw [tne i h16] at hil
     obtain ⟨e, he⟩ := G.inv.dom i l hil
     exact ⟨e, by rw [same i h16]; exact he⟩
def Jxi : Sig := { own := s62.own, run := fun xs es k => s62.run xs es fun r => bif r.news.isEmpty && decide (r.pars.length <= 15) then k ⟨r.val, r.pars, [.dead]⟩ else none }
theorem Jxj : Jg tau Try.prog 62 Jxi := Jxh.dead
def F57 : Fns := JH 62 Jxi (JH 59 Jsp (JH 36 Jtb (F0)))
theorem Jtf : Jy tau Try.prog F57 := (((JD).add Jq0 Jxb).add Jqt JvO).add Jxj Jxg
def Jo3 : An := (.seq .leaf (.seq .leaf (.seq .leaf (.seq .leaf (.seq .leaf .leaf)))))
def g57 (f : Nat) (k0_z k0_f : Bool) (k0 : List PV) (k1_z k1_f : Bool) (k1 : List PV) (k2_z k2_f : Bool) (k2 : List PV) (host : Int) (prev : List PV) (y0 y1 : Bool) (y2 y3 : List PV) (at1 : Int) (o_z o_f : Bool) (o : List PV) (k : Res -> Option Res) : Option Res := bif Jk (0 + y2.length) 1 && true then bif Jk (0 + o.length) 32 && true then bif Jk (0 + (List.take 32 prev).length) 1 && true then bif eOk (EV.mk (List.take (0 + y2.length) y2) y3 at1 (List.take (0 + o.length) o)) then bif Jk (0 + (List.take 32 prev).length + (List.take (Jr (EV.mk (List.take (0 + y2.length) y2) y3 at1 (List.take (0 + o.length) o))).length (pu IntKind.u8 (Jr (EV.mk (List.take (0 + y2.length) y2) y3 at1 (List.take (0 + o.length) o))))).length) 1 && true then bif Jj IntKind.u8 (List.take (0 + (List.take 32 prev).length + (List.take (Jr (EV.mk (List.take (0 + y2.length) y2) y3 at1 (List.take (0 + o.length) o))).length (pu IntKind.u8 (Jr (EV.mk (List.take (0 + y2.length) y2) y3 at1 (List.take (0 + o.length) o))))).length) (List.take (0 + (List.take 32 prev).length) (List.take 32 prev) ++ List.take (Jr (EV.mk (List.take (0 + y2.length) y2) y3 at1 (List.take (0 + o.length) o))).length (pu IntKind.u8 (Jr (EV.mk (List.take (0 + y2.length) y2) y3 at1 (List.take (0 + o.length) o)))))) && decide ((List.take (0 + (List.take 32 prev).length + (List.take (Jr (EV.mk (List.take (0 + y2.length) y2) y3 at1 (List.take (0 + o.length) o))).length (pu IntKind.u8 (Jr (EV.mk (List.take (0 + y2.length) y2) y3 at1 (List.take (0 + o.length) o))))).length) (List.take (0 + (List.take 32 prev).length) (List.take 32 prev) ++ List.take (Jr (EV.mk (List.take (0 + y2.length) y2) y3 at1 (List.take (0 + o.length) o))).length (pu IntKind.u8 (Jr (EV.mk (List.take (0 + y2.length) y2) y3 at1 (List.take (0 + o.length) o)))))).length <= 140737488355000) then bif decide (0 <= host) && decide (host < zi 3) && true then bif PV.isRo 5 (Jb (PV.st 31 [.ro 5 k0_z k0_f k0, .ro 5 k1_z k1_f k1, .ro 5 k2_z k2_f k2]) [host.toNat]) && true then bif eOk (EV.mk (List.take (0 + y2.length) y2) y3 at1 (List.take (0 + o.length) o)) then bif Jk ((Jr (EV.mk (List.take (0 + y2.length) y2) y3 at1 (List.take (0 + o.length) o))).length + (List.take 32 (pu IntKind.u8 (JT (Jw (List.take (0 + (List.take 32 prev).length + (List.take (Jr (EV.mk (List.take (0 + y2.length) y2) y3 at1 (List.take (0 + o.length) o))).length (pu IntKind.u8 (Jr (EV.mk (List.take (0 + y2.length) y2) y3 at1 (List.take (0 + o.length) o))))).length) (List.take (0 + (List.take 32 prev).length) (List.take 32 prev) ++ List.take (Jr (EV.mk (List.take (0 + y2.length) y2) y3 at1 (List.take (0 + o.length) o))).length (pu IntKind.u8 (Jr (EV.mk (List.take (0 + y2.length) y2) y3 at1 (List.take (0 + o.length) o)))))))))).length) 1 && true then bif Jj IntKind.u8 (Jb (PV.st 31 [.ro 5 k0_z k0_f k0, .ro 5 k1_z k1_f k1, .ro 5 k2_z k2_f k2]) [host.toNat]).els && decide ((Jb (PV.st 31 [.ro 5 k0_z k0_f k0, .ro 5 k1_z k1_f k1, .ro 5 k2_z k2_f k2]) [host.toNat]).els.length <= 1000000000) && (Jj IntKind.u8 (List.take ((Jr (EV.mk (List.take (0 + y2.length) y2) y3 at1 (List.take (0 + o.length) o))).length + (List.take 32 (pu IntKind.u8 (JT (Jw (List.take (0 + (List.take 32 prev).length + (List.take (Jr (EV.mk (List.take (0 + y2.length) y2) y3 at1 (List.take (0 + o.length) o))).length (pu IntKind.u8 (Jr (EV.mk (List.take (0 + y2.length) y2) y3 at1 (List.take (0 + o.length) o))))).length) (List.take (0 + (List.take 32 prev).length) (List.take 32 prev) ++ List.take (Jr (EV.mk (List.take (0 + y2.length) y2) y3 at1 (List.take (0 + o.length) o))).length (pu IntKind.u8 (Jr (EV.mk (List.take (0 + y2.length) y2) y3 at1 (List.take (0 + o.length) o)))))))))).length) (List.take (Jr (EV.mk (List.take (0 + y2.length) y2) y3 at1 (List.take (0 + o.length) o))).length (pu IntKind.u8 (Jr (EV.mk (List.take (0 + y2.length) y2) y3 at1 (List.take (0 + o.length) o)))) ++ List.take 32 (pu IntKind.u8 (JT (Jw (List.take (0 + (List.take 32 prev).length + (List.take (Jr (EV.mk (List.take (0 + y2.length) y2) y3 at1 (List.take (0 + o.length) o))).length (pu IntKind.u8 (Jr (EV.mk (List.take (0 + y2.length) y2) y3 at1 (List.take (0 + o.length) o))))).length) (List.take (0 + (List.take 32 prev).length) (List.take 32 prev) ++ List.take (Jr (EV.mk (List.take (0 + y2.length) y2) y3 at1 (List.take (0 + o.length) o))).length (pu IntKind.u8 (Jr (EV.mk (List.take (0 + y2.length) y2) y3 at1 (List.take (0 + o.length) o))))))))))) && decide ((List.take ((Jr (EV.mk (List.take (0 + y2.length) y2) y3 at1 (List.take (0 + o.length) o))).length + (List.take 32 (pu IntKind.u8 (JT (Jw (List.take (0 + (List.take 32 prev).length + (List.take (Jr (EV.mk (List.take (0 + y2.length) y2) y3 at1 (List.take (0 + o.length) o))).length (pu IntKind.u8 (Jr (EV.mk (List.take (0 + y2.length) y2) y3 at1 (List.take (0 + o.length) o))))).length) (List.take (0 + (List.take 32 prev).length) (List.take 32 prev) ++ List.take (Jr (EV.mk (List.take (0 + y2.length) y2) y3 at1 (List.take (0 + o.length) o))).length (pu IntKind.u8 (Jr (EV.mk (List.take (0 + y2.length) y2) y3 at1 (List.take (0 + o.length) o)))))))))).length) (List.take (Jr (EV.mk (List.take (0 + y2.length) y2) y3 at1 (List.take (0 + o.length) o))).length (pu IntKind.u8 (Jr (EV.mk (List.take (0 + y2.length) y2) y3 at1 (List.take (0 + o.length) o)))) ++ List.take 32 (pu IntKind.u8 (JT (Jw (List.take (0 + (List.take 32 prev).length + (List.take (Jr (EV.mk (List.take (0 + y2.length) y2) y3 at1 (List.take (0 + o.length) o))).length (pu IntKind.u8 (Jr (EV.mk (List.take (0 + y2.length) y2) y3 at1 (List.take (0 + o.length) o))))).length) (List.take (0 + (List.take 32 prev).length) (List.take 32 prev) ++ List.take (Jr (EV.mk (List.take (0 + y2.length) y2) y3 at1 (List.take (0 + o.length) o))).length (pu IntKind.u8 (Jr (EV.mk (List.take (0 + y2.length) y2) y3 at1 (List.take (0 + o.length) o))))))))))).length <= 1000000000)) then k (Res.mk (.st 93 [.st 77 [.ro 5 false false (List.take (0 + y2.length) y2), .ar 37 y3], .sc (.int .i64 at1), .ro 99 false false (List.take (0 + o.length) o), .ar 37 (pu IntKind.u8 (JT (Jw (List.take (0 + (List.take 32 prev).length + (List.take (Jr (EV.mk (List.take (0 + y2.length) y2) y3 at1 (List.take (0 + o.length) o))).length (pu IntKind.u8 (Jr (EV.mk (List.take (0 + y2.length) y2) y3 at1 (List.take (0 + o.length) o))))).length) (List.take (0 + (List.take 32 prev).length) (List.take 32 prev) ++ List.take (Jr (EV.mk (List.take (0 + y2.length) y2) y3 at1 (List.take (0 + o.length) o))).length (pu IntKind.u8 (Jr (EV.mk (List.take (0 + y2.length) y2) y3 at1 (List.take (0 + o.length) o))))))))), .ar 37 (pu IntKind.u8 (Jcp (Jw (Jb (PV.st 31 [.ro 5 k0_z k0_f k0, .ro 5 k1_z k1_f k1, .ro 5 k2_z k2_f k2]) [host.toNat]).els) (Jw (List.take ((Jr (EV.mk (List.take (0 + y2.length) y2) y3 at1 (List.take (0 + o.length) o))).length + (List.take 32 (pu IntKind.u8 (JT (Jw (List.take (0 + (List.take 32 prev).length + (List.take (Jr (EV.mk (List.take (0 + y2.length) y2) y3 at1 (List.take (0 + o.length) o))).length (pu IntKind.u8 (Jr (EV.mk (List.take (0 + y2.length) y2) y3 at1 (List.take (0 + o.length) o))))).length) (List.take (0 + (List.take 32 prev).length) (List.take 32 prev) ++ List.take (Jr (EV.mk (List.take (0 + y2.length) y2) y3 at1 (List.take (0 + o.length) o))).length (pu IntKind.u8 (Jr (EV.mk (List.take (0 + y2.length) y2) y3 at1 (List.take (0 + o.length) o)))))))))).length) (List.take (Jr (EV.mk (List.take (0 + y2.length) y2) y3 at1 (List.take (0 + o.length) o))).length (pu IntKind.u8 (Jr (EV.mk (List.take (0 + y2.length) y2) y3 at1 (List.take (0 + o.length) o)))) ++ List.take 32 (pu IntKind.u8 (JT (Jw (List.take (0 + (List.take 32 prev).length + (List.take (Jr (EV.mk (List.take (0 + y2.length) y2) y3 at1 (List.take (0 + o.length) o))).length (pu IntKind.u8 (Jr (EV.mk (List.take (0 + y2.length) y2) y3 at1 (List.take (0 + o.length) o))))).length) (List.take (0 + (List.take 32 prev).length) (List.take 32 prev) ++ List.take (Jr (EV.mk (List.take (0 + y2.length) y2) y3 at1 (List.take (0 + o.length) o))).length (pu IntKind.u8 (Jr (EV.mk (List.take (0 + y2.length) y2) y3 at1 (List.take (0 + o.length) o))))))))))))))]) [] []) else none else none else none else none else none else none else none else none else none else none else none
theorem e57 (f : Nat) (k0_z k0_f : Bool) (k0 : List PV) (k1_z k1_f : Bool) (k1 : List PV) (k2_z k2_f : Bool) (k2 : List PV) (host : Int) (prev : List PV) (y0 y1 : Bool) (y2 y3 : List PV) (at1 : Int) (o_z o_f : Bool) (o : List PV) (k : Res -> Option Res) : JQ tau F57 Try.f57 (Try.f57.body.get!) Jo3 [.ro] 0 [.st 31 [.ro 5 k0_z k0_f k0, .ro 5 k1_z k1_f k1, .ro 5 k2_z k2_f k2], .sc (.int .i64 host), .ar 37 prev, .st 77 [.ro 5 y0 y1 y2, .ar 37 y3], .sc (.int .i64 at1), .ro 99 o_z o_f o] [] k = g57 f k0_z k0_f k0 k1_z k1_f k1 k2_z k2_f k2 host prev y0 y1 y2 y3 at1 o_z o_f o k := by kernel_rfl
theorem JAm (f : Nat) : Jf (Try.f57.body.get!) Jo3 = [] := by kernel_rfl
theorem JAn (f : Nat) : ∀ q ∈ Jf (Try.f57.body.get!) Jo3, q.Ok tau Try.prog 0 := by
 rw [JAm f]; intro q hq; cases hq
theorem Jxk : Try.prog.funcs[57]? = some Try.f57 := by kernel_rfl
theorem Jxl : Try.f57.body = some (Try.f57.body.get!) := by kernel_rfl
theorem JAo : Enters Try.prog 57 := enters_of Jxk (by kernel_rfl) Jxl
def Jmp : List PV -> List Ent -> (Res -> Option Res) -> Option Res
 | [.st 31 [.ro 5 k0_z k0_f k0, .ro 5 k1_z k1_f k1, .ro 5 k2_z k2_f k2], .sc (.int .i64 host), .ar 37 prev, .st 77 [.ro 5 y0 y1 y2, .ar 37 y3], .sc (.int .i64 at1), .ro 99 o_z o_f o], [], k => g57 0 k0_z k0_f k0 k1_z k1_f k1 k2_z k2_f k2 host prev y0 y1 y2 y3 at1 o_z o_f o k
 | _, _, _ => none
def s57 : Sig := { own := [], run := Jmp }
theorem JAp : Jg tau Try.prog 57 s57 := J0 Jp Jtf Jq Jxk Jxl Jo3 [.ro] 0 [] Jmp (JAn 0) fun xs es k res hr => by
 unfold Jmp at hr
 split at hr
 · exact ⟨rfl, 0, (e57 0 _ _ _ _ _ _ _ _ _ _ _ _ _ _ _ _ _ _ _  _).trans hr⟩
 · cases hr


-- FN wire.Parse
structure PA where
 (l : List PV) (b : List PV)
def kOk (l : List PV) : Bool := Jj .u8 l && decide (l.length <= 1000000000)
theorem Jo4 {z0 f0 z1 f1 z2 f2 : Bool} {k0 k1 k2 : List PV} (h0 : kOk k0 = true) (h1 : kOk k1 = true) (h2 : kOk k2 = true) (d : Int) : kOk (Jd8 ⟨[.ro 5 z0 f0 k0, .ro 5 z1 f1 k1, .ro 5 z2 f2 k2], d⟩) = true := by
 rw [JiO]
 show kOk (JfD _ d).els = true
 unfold JfD
 cases h : WR d 2 with
 | false => rfl
 | true =>
  simp only [WR, Bool.and_eq_true, decide_eq_true_eq] at h
  have : d = 0 ∨ d = 1 ∨ d = 2 := by omega
  rcases this with rfl | rfl | rfl
  · exact h0
  · exact h1
  · exact h2
-- FN sign.Delta | sign.Open | sign.Entry | sign.Check | ref9.Delta | ref9.Open | ref9.Next | ref9.Entry | ref9.Check
def h32 : List PV -> Bool := hid fun h => Jj .u8 h && decide (h.length = 32)
theorem h32_iff {h : List PV} : h32 h = true ↔ Jj .u8 h = true /\ h.length = 32 := by rw [h32, hid_eq, Bool.and_eq_true, decide_eq_true_eq]
def kO3 : List PV -> Bool := hid fun l => l.all fun p => kOk p.els
theorem Jjp {z0 f0 z1 f1 z2 f2 : Bool} {k0 k1 k2 : List PV} : kO3 [.ro 5 z0 f0 k0, .ro 5 z1 f1 k1, .ro 5 z2 f2 k2] = true ↔ kOk k0 = true /\ kOk k1 = true /\ kOk k2 = true := by
 rw [kO3, hid_eq]; simp [PV.els]
structure MK where
 (l : List PV) (d : Int) (t : List Int)
def mcK : MK -> List Int := hid fun m => Jcp (Jw (Jd8 ⟨m.l, m.d⟩)) m.t
theorem JhK (m : MK) : mcK m = Jcp (Jw (Jd8 ⟨m.l, m.d⟩)) m.t := by rw [mcK, hid_eq]
theorem JhL (m : MK) : (mcK m).length = 32 := by rw [JhK]; exact JfT _ _
structure NX where
 (p : List PV) (e : EV)
def nxP : NX -> List Int := hid fun x => JT (Jw x.p ++ Jr x.e)
theorem Jey (x : NX) : nxP x = JT (Jw x.p ++ Jr x.e) := by rw [nxP, hid_eq]
theorem Vs (x : NX) : (nxP x).length = 32 := by rw [Jey]; exact Qi _
structure EM where
 (l : List PV) (d : Int) (e : EV) (h : List PV)
def emP : EM -> List Int := hid fun x => mcK ⟨x.l, x.d, Jr x.e ++ Jw x.h⟩
theorem Jtg (x : EM) : emP x = mcK ⟨x.l, x.d, Jr x.e ++ Jw x.h⟩ := by rw [emP, hid_eq]
structure EC where
 (l : List PV) (d : Int) (e : EV) (h m : List PV)
structure SO where
 (l b m : List PV)
theorem Zm {a b : List PV} (h : Jj .u8 a = true) (h' : Jj .u8 b = true) : Jj .u8 (a ++ b) = true := by
 induction a with
 | nil => exact h'
 | cons p ps ih =>
  have e : ∀ l : List PV, Jj .u8 (p :: l) = (p.isInt .u8 && Jj .u8 l) := fun l => rfl
  rw [e, Bool.and_eq_true] at h
  rw [List.cons_append, e, Bool.and_eq_true]; exact ⟨h.1, ih h.2⟩
theorem Jdn (a b : List PV) : Jw (a ++ b) = Jw a ++ Jw b := by simp [Jw]
theorem Jmq {z0 f0 z1 f1 z2 f2 : Bool} {k0 k1 k2 : List PV} (h : kO3 [.ro 5 z0 f0 k0, .ro 5 z1 f1 k1, .ro 5 z2 f2 k2] = true) {d : Int} (hd : WR d 2 = true) :
  PV.isRo 5 (Jb (PV.st 31 [.ro 5 z0 f0 k0, .ro 5 z1 f1 k1, .ro 5 z2 f2 k2]) [d.toNat]) = true /\ (Jb (PV.st 31 [.ro 5 z0 f0 k0, .ro 5 z1 f1 k1, .ro 5 z2 f2 k2]) [d.toNat]).els = Jd8 ⟨[.ro 5 z0 f0 k0, .ro 5 z1 f1 k1, .ro 5 z2 f2 k2], d⟩ := by
 rw [JiO, JfD, hd]
 simp only [WR, Bool.and_eq_true, decide_eq_true_eq] at hd
 have : d = 0 ∨ d = 1 ∨ d = 2 := by omega
 rcases this with rfl | rfl | rfl <;> exact ⟨rfl, rfl⟩
theorem Jmr {z0 f0 z1 f1 z2 f2 : Bool} {k0 k1 k2 : List PV} (h : kO3 [.ro 5 z0 f0 k0, .ro 5 z1 f1 k1, .ro 5 z2 f2 k2] = true) (d : Int) : Jj .u8 (Jd8 ⟨[.ro 5 z0 f0 k0, .ro 5 z1 f1 k1, .ro 5 z2 f2 k2], d⟩) = true /\ (Jd8 ⟨[.ro 5 z0 f0 k0, .ro 5 z1 f1 k1, .ro 5 z2 f2 k2], d⟩).length <= 1000000000 := by
 obtain ⟨a, b, c⟩ := Jjp.1 h
 have := Jo4 (z0 := z0) (f0 := f0) (z1 := z1) (f1 := f1) (z2 := z2) (f2 := f2) a b c d
 rw [kOk, Bool.and_eq_true, decide_eq_true_eq] at this; exact this
theorem Jke {d : DV} (h : dOk d = true) : (dlB d).length <= 65618 := by rw [Vh h]; have := (XX.1 h).2.2.2; omega
theorem JaB {e : EV} (h : eOk e = true) : (Jr e).length <= 131114 := by rw [V9 h]; have := XW.1 h; omega
/-! sign.Delta, ref9.Delta -/
def JhM : List PV -> List Ent -> (Res -> Option Res) -> Option Res
 | [.st 31 [.ro 5 z0 f0 k0, .ro 5 z1 f1 k1, .ro 5 z2 f2 k2], .st 73 [.st 45 [.sc (.int .i64 ad), .sc (.int .i64 au)], .sc (.int .i64 id1), .sc (.int .i64 ve), .ar 37 h, .sc (.int .i64 kd), .ro 99 oz of o, .st 45 [.sc (.int .i64 wd), .sc (.int .i64 wu)]]], [], k =>
  bif dOk ⟨ad, au, id1, ve, h, kd, o, wd, wu⟩ && (kO3 [.ro 5 z0 f0 k0, .ro 5 z1 f1 k1, .ro 5 z2 f2 k2] && kIn ad) then
   k ⟨.st 77 [.ro 5 false false (pu .u8 (dlB ⟨ad, au, id1, ve, h, kd, o, wd, wu⟩)), .ar 37 (pu .u8 (mcK ⟨[.ro 5 z0 f0 k0, .ro 5 z1 f1 k1, .ro 5 z2 f2 k2], ad, dlB ⟨ad, au, id1, ve, h, kd, o, wd, wu⟩⟩))], [], []⟩ else none
 | _, _, _ => none
def Jxm : Sig := { own := [], run := JhM }
theorem Jxn : Jg tau Try.prog 48 Jxm := JAj.of fun xs es k res hr => by
 change JhM xs es k = some res at hr
 unfold JhM at hr
 split at hr
 · rename_i z0 f0 k0 z1 f1 k1 z2 f2 k2 ad au id1 ve h kd oz of o wd wu
   obtain ⟨hc, hr⟩ := JE hr
   simp only [Bool.and_eq_true] at hc
   have hK := Jmr hc.2.1 ad
   have hs := Jke hc.1
   have hin := hc.2.2
   rw [Jew] at hin
   obtain ⟨q1, q2⟩ := Jmq hc.2.1 hin
   have htp : ∀ l : List Int, List.take l.length (pu .u8 l) = pu .u8 l := fun l => List.take_of_length_le (by simp)
   simp only [WR, Bool.and_eq_true, decide_eq_true_eq] at hin
   refine Eq.trans ?_ hr
   show g48 0 z0 f0 k0 z1 f1 k1 z2 f2 k2 ad au id1 ve h kd oz of o wd wu k = _
   unfold g48
   simp only [q2, htp, JR, Q7, JG]
   refine (Jc hc.1).trans ((Jc (by simp [zi]; omega)).trans ((Jc (by rw [q1]; rfl)).trans ((Jc (by rw [hK.1]; simp; omega)).trans ?_)))
   rw [JhK]
 · cases hr
/-! sign.Open, ref9.Open -/
/-! entries -/
def JhN : List PV -> List Ent -> (Res -> Option Res) -> Option Res
 | [.st 31 [.ro 5 z0 f0 k0, .ro 5 z1 f1 k1, .ro 5 z2 f2 k2], .sc (.int .i64 ho), .ar 37 pr, .st 77 [.ro 5 z f b, .ar 37 m], .sc (.int .i64 at1), .ro 99 oz of o], [], k =>
  bif (kIn ho && eOk ⟨b, m, at1, o⟩) && (h32 pr && kO3 [.ro 5 z0 f0 k0, .ro 5 z1 f1 k1, .ro 5 z2 f2 k2]) then
   k ⟨.st 93 [.st 77 [.ro 5 false false b, .ar 37 m], .sc (.int .i64 at1), .ro 99 false false o, .ar 37 (pu .u8 (nxP ⟨pr, ⟨b, m, at1, o⟩⟩)), .ar 37 (pu .u8 (emP ⟨[.ro 5 z0 f0 k0, .ro 5 z1 f1 k1, .ro 5 z2 f2 k2], ho, ⟨b, m, at1, o⟩, pu .u8 (nxP ⟨pr, ⟨b, m, at1, o⟩⟩)⟩))], [], []⟩ else none
 | _, _, _ => none
def Jxo : Sig := { own := [], run := JhN }
theorem Jxp : Jg tau Try.prog 57 Jxo := JAp.of fun xs es k res hr => by
 change JhN xs es k = some res at hr
 unfold JhN at hr
 split at hr
 · rename_i z0 f0 k0 z1 f1 k1 z2 f2 k2 ho pr z f b m at1 oz of o
   obtain ⟨hc, hr⟩ := JE hr
   simp only [Bool.and_eq_true] at hc
   have hK := Jmr hc.2.2 ho
   have hin := hc.1.1
   rw [Jew] at hin
   obtain ⟨q1, q2⟩ := Jmq hc.2.2 hin
   simp only [WR, Bool.and_eq_true, decide_eq_true_eq] at hin
   obtain ⟨p1, p2⟩ := h32_iff.1 hc.2.1
   have hcl := JaB hc.1.2
   have heo := XW.1 hc.1.2
   have hbl : b.length <= 65535 := heo.2.1
   have hol : o.length <= 1000 := (Jek.1 heo.2.2.2.2.1).2.2
   have hnl := Vs ⟨pr, ⟨b, m, at1, o⟩⟩
   have htp : List.take 32 pr = pr := List.take_of_length_le (by omega)
   have htc : List.take (Jr ⟨b, m, at1, o⟩).length (pu .u8 (Jr ⟨b, m, at1, o⟩)) = pu .u8 (Jr ⟨b, m, at1, o⟩) := List.take_of_length_le (by simp)
   have htn : List.take (pr.length + (Jr ⟨b, m, at1, o⟩).length) (pr ++ pu .u8 (Jr ⟨b, m, at1, o⟩)) = pr ++ pu .u8 (Jr ⟨b, m, at1, o⟩) := List.take_of_length_le (by simp)
   have hth : List.take 32 (pu .u8 (nxP ⟨pr, ⟨b, m, at1, o⟩⟩)) = pu .u8 (nxP ⟨pr, ⟨b, m, at1, o⟩⟩) := List.take_of_length_le (by rw [JG]; omega)
   have hte : List.take ((Jr ⟨b, m, at1, o⟩).length + (nxP ⟨pr, ⟨b, m, at1, o⟩⟩).length) (pu .u8 (Jr ⟨b, m, at1, o⟩) ++ pu .u8 (nxP ⟨pr, ⟨b, m, at1, o⟩⟩)) = pu .u8 (Jr ⟨b, m, at1, o⟩) ++ pu .u8 (nxP ⟨pr, ⟨b, m, at1, o⟩⟩) := List.take_of_length_le (by simp)
   have hnx : JT (Jw pr ++ Jr ⟨b, m, at1, o⟩) = nxP ⟨pr, ⟨b, m, at1, o⟩⟩ := by rw [Jey]
   have hem : Jcp (Jw (Jd8 ⟨[.ro 5 z0 f0 k0, .ro 5 z1 f1 k1, .ro 5 z2 f2 k2], ho⟩)) (Jr ⟨b, m, at1, o⟩ ++ nxP ⟨pr, ⟨b, m, at1, o⟩⟩) = emP ⟨[.ro 5 z0 f0 k0, .ro 5 z1 f1 k1, .ro 5 z2 f2 k2], ho, ⟨b, m, at1, o⟩, pu .u8 (nxP ⟨pr, ⟨b, m, at1, o⟩⟩)⟩ := by rw [Jtg, JhK, Q7]
   refine Eq.trans ?_ hr
   show g57 0 z0 f0 k0 z1 f1 k1 z2 f2 k2 ho pr z f b m at1 oz of o k = _
   unfold g57
   simp only [List.take_length, Nat.zero_add, htp, htc, JG, htn, Jdn, Q7, hnx, hth, hte, q2, hem]
   refine (Jc (by simp [Jk]; omega)).trans ((Jc (by simp [Jk]; omega)).trans ((Jc (by simp [Jk]; omega)).trans ((Jc hc.1.2).trans ((Jc (by simp [Jk]; omega)).trans ((Jc (by rw [Zm p1 (JR _ _)]; simp; omega)).trans ((Jc (by simp [zi]; omega)).trans ((Jc (by rw [q1]; rfl)).trans ((Jc hc.1.2).trans ((Jc (by simp [Jk]; omega)).trans ((Jc (by rw [hK.1, Zm (JR _ _) (JR _ _)]; simp; omega)).trans ?_))))))))))
   rfl
 · cases hr
def JhO : List PV -> List Ent -> (Res -> Option Res) -> Option Res
 | [.ar 37 pr, .st 93 [.st 77 [.ro 5 z f b, .ar 37 m], .sc (.int .i64 at1), .ro 99 oz of o, .ar 37 h, .ar 37 mc]], [], k =>
  bif h32 pr && eOk ⟨b, m, at1, o⟩ then k ⟨.ar 37 (pu .u8 (nxP ⟨pr, ⟨b, m, at1, o⟩⟩)), [], []⟩ else none
 | _, _, _ => none
def Jxq : Sig := { own := [], run := JhO }
theorem Jxr : Jg tau Try.prog 62 Jxq := Jxh.of fun xs es k res hr => by
 change JhO xs es k = some res at hr
 unfold JhO at hr
 split at hr
 · rename_i pr z f b m at1 oz of o h mc
   obtain ⟨hc, hr⟩ := JE hr
   rw [Bool.and_eq_true] at hc
   obtain ⟨p1, p2⟩ := h32_iff.1 hc.1
   have hcl := JaB hc.2
   have htp : List.take 32 pr = pr := List.take_of_length_le (by omega)
   have htc : List.take (Jr ⟨b, m, at1, o⟩).length (pu .u8 (Jr ⟨b, m, at1, o⟩)) = pu .u8 (Jr ⟨b, m, at1, o⟩) := List.take_of_length_le (by simp)
   have htn : List.take (pr.length + (Jr ⟨b, m, at1, o⟩).length) (pr ++ pu .u8 (Jr ⟨b, m, at1, o⟩)) = pr ++ pu .u8 (Jr ⟨b, m, at1, o⟩) := List.take_of_length_le (by simp)
   refine Eq.trans ?_ hr
   show g62 0 pr z f b m at1 oz of o h mc k = _
   unfold g62
   simp only [List.take_length, Nat.zero_add, htp, htc, JG, htn, Jdn, Q7]
   refine (Jc (by simp [Jk]; omega)).trans ((Jc hc.2).trans ((Jc (by simp [Jk]; omega)).trans ((Jc (by rw [Zm p1 (JR _ _)]; simp; omega)).trans ?_)))
   rw [Jey]
 · cases hr
def Jcq : Nat := 25
def Jms : Fns := F0
theorem Jjq : Jy tau Try.prog Jms := JD
def G1 : Code := Qo (Try.f146.body.get!) [1, 1, 0, 1, 0, 0]
def Wz : Nm := [(0, .any), (3, .any), (4, .any)]
def W9 : Nm := [(3, .any)]
def Jb3 : An := (.seq (.seq .leaf (.cond .leaf .leaf)) (.seq (.block none (.seq .leaf (.cond .leaf .leaf))) .leaf))
def Jjr (r0 : QE) : An := (.seq .leaf (.seq .leaf (.seq (.seq .leaf (.block none (.sum Wz Jcq r0))) (.seq .leaf .leaf))))
def Zn (f : Nat) (rc : Bool -> Bool -> List PV -> Int -> Int -> Option Res) (k0 : Int -> Option Res) (v0 v1 : Bool) (v2 : List PV) (v3 v4 : Int) : Option Res := bif decide (v4 < zi v2.length) then bif decide (0 <= v4) && decide (v4 < zi v2.length) && (PV.isSt 99 #[Field.mk "Kind" 3 0 false "" "" 0, Field.mk "N" 3 1 false "" "" 8, Field.mk "S" 9 2 false "" "" 16].size (v2.getD v4.toNat PV.top) && (PV.isInt IntKind.i64 (PV.child 0 (v2.getD v4.toNat PV.top)) && (PV.isInt IntKind.i64 (PV.child (0 + 1) (v2.getD v4.toNat PV.top)) && ((PV.child (0 + 1 + 1) (v2.getD v4.toNat PV.top)).isStr && true)))) && true then bif (PV.child 0 (v2.getD v4.toNat PV.top)).int != 2 then bif decide (0 <= v4) && decide (v4 < zi v2.length) && (PV.isSt 99 #[Field.mk "Kind" 3 0 false "" "" 0, Field.mk "N" 3 1 false "" "" 8, Field.mk "S" 9 2 false "" "" 16].size (v2.getD v4.toNat PV.top) && (PV.isInt IntKind.i64 (PV.child 0 (v2.getD v4.toNat PV.top)) && (PV.isInt IntKind.i64 (PV.child (0 + 1) (v2.getD v4.toNat PV.top)) && ((PV.child (0 + 1 + 1) (v2.getD v4.toNat PV.top)).isStr && true)))) && true then rc v0 v1 v2 (IntKind.i64.wrap (v3 + (PV.child (0 + 1) (v2.getD v4.toNat PV.top)).int)) (IntKind.i64.wrap (v4 + 1)) else none else rc v0 v1 v2 v3 (IntKind.i64.wrap (v4 + 1)) else none else k0 v3
def Yf (f : Nat) (k0 : Int -> Option Res) : Nat -> Bool -> Bool -> List PV -> Int -> Int -> Option Res
 | 0, _, _, _, _, _ => none
 | n + 1, v0, v1, v2, v3, v4 => Zn f (Yf f k0 n) k0 v0 v1 v2 v3 v4
theorem Jmt (f : Nat) (k : Kont) (n : Nat) (v0 v1 : Bool) (v2 : List PV) (v3 v4 : Int) : Jl tau 0 Wz (fun s k => ev tau Jms 0 0 G1 (Jb3 ) s k) (n + 1) (Jd Wz Jcq [.ro 99 v0 v1 v2, .sc (.int .i64 v3), .sc (.int .i64 v4)] []) (Jo tau 0 W9 k) = Zn f (fun v0 v1 v2 v3 v4 => Jl tau 0 Wz (fun s k => ev tau Jms 0 0 G1 (Jb3 ) s k) n (Jd Wz Jcq [.ro 99 v0 v1 v2, .sc (.int .i64 v3), .sc (.int .i64 v4)] []) (Jo tau 0 W9 k)) (fun x0 => k (Ex.exit 0) (Jd W9 Jcq [.sc (.int .i64 x0)] [])) v0 v1 v2 v3 v4 := by kernel_rfl
theorem Jf3 (f : Nat) (k : Kont) : ∀ (n : Nat) (v0 v1 : Bool) (v2 : List PV) (v3 v4 : Int), Jl tau 0 Wz (fun s k => ev tau Jms 0 0 G1 (Jb3 ) s k) n (Jd Wz Jcq [.ro 99 v0 v1 v2, .sc (.int .i64 v3), .sc (.int .i64 v4)] []) (Jo tau 0 W9 k) = Yf f (fun x0 => k (Ex.exit 0) (Jd W9 Jcq [.sc (.int .i64 x0)] [])) n v0 v1 v2 v3 v4 | 0, _, _, _, _, _ => rfl | n + 1, v0, v1, v2, v3, v4 => (Jmt f k n v0 v1 v2 v3 v4).trans (congrArg (fun r => Zn f r (fun x0 => k (Ex.exit 0) (Jd W9 Jcq [.sc (.int .i64 x0)] [])) v0 v1 v2 v3 v4) (by funext v0 v1 v2 v3 v4; exact Jf3 f k n v0 v1 v2 v3 v4))
def Vt (f : Nat) : List PV -> List (Nat × Ent) -> Kont -> Option Res
 | [.ro 99 v0 v1 v2, .sc (.int .i64 v3),
 .sc (.int .i64 v4)], [], k => Yf f (fun x0 => k (Ex.exit 0) (Jd W9 Jcq [.sc (.int .i64 x0)] [])) f v0 v1 v2 v3 v4
 | _, _, _ => none
theorem Jo5 (f : Nat) : Jf G1 Jb3 = [] := by kernel_rfl
theorem Jth (f : Nat) : (Item.l G1 Wz Jcq (Vt f)).Ok tau Try.prog 0 := Jz Jp Jjq Jq (x := Jb3) (nm2 := W9) (Jm _ _ (by rw [Jo5 f]; intro q hq; cases hq)) fun vs hp k res hr => by
 unfold Vt at hr
 split at hr
 · exact ⟨f, 0, (Jf3 f _ f _ _ _ _ _ ).trans hr⟩
 · cases hr
def Jxs (f : Nat) (o_z o_f : Bool) (o : List PV) (k : Res -> Option Res) : Option Res := Yf f (fun x0_0 => k (Res.mk (.sc (.int .i64 x0_0)) [] [])) f o_z o_f o (0) (0)
theorem JAq (f : Nat) (o_z o_f : Bool) (o : List PV) (k : Res -> Option Res) : JQ tau Jms Try.f146 (Try.f146.body.get!) (Jjr (Vt f)) [.ro] 0 [.ro 99 o_z o_f o] [] k = Jxs f o_z o_f o k := by kernel_rfl
theorem Jxt (f : Nat) : Jf (Try.f146.body.get!) (Jjr (Vt f)) = [.l G1 Wz Jcq (Vt f)] := by kernel_rfl
theorem Jxu (f : Nat) : ∀ q ∈ Jf (Try.f146.body.get!) (Jjr (Vt f)), q.Ok tau Try.prog 0 := by
 rw [Jxt f]; simp only [List.forall_mem_cons, List.not_mem_nil, false_implies, implies_true, and_true]; exact Jth f
theorem Jq1 : Try.prog.funcs[146]? = some Try.f146 := by kernel_rfl
theorem Jq2 : Try.f146.body = some (Try.f146.body.get!) := by kernel_rfl
theorem Jxv : Enters Try.prog 146 := enters_of Jq1 (by kernel_rfl) Jq2
def Jcr : Nat := 33
def Jmu : Fns := F0
theorem Jjs : Jy tau Try.prog Jmu := JD
def G2 : Code := Qo (Try.f147.body.get!) [1, 1, 0, 1, 0, 0]
def WA : Nm := [(0, .any), (3, .any), (4, .any)]
def Xa : Nm := [(3, .any)]
def Jb4 : An := (.seq (.seq .leaf (.cond .leaf .leaf)) (.seq (.block none (.seq (.seq .leaf (.cond .leaf .leaf)) .leaf)) .leaf))
def Jjt (r0 : QE) : An := (.seq .leaf (.seq .leaf (.seq (.seq .leaf (.block none (.sum WA Jcr r0))) (.seq .leaf .leaf))))
def Zo (f : Nat) (rc : Bool -> Bool -> List PV -> Int -> Int -> Option Res) (k0 : Int -> Option Res) (v0 v1 : Bool) (v2 : List PV) (v3 v4 : Int) : Option Res := bif decide (v4 < zi v2.length) then bif decide (0 <= v4) && decide (v4 < zi v2.length) && (PV.isSt 99 #[Field.mk "Kind" 3 0 false "" "" 0, Field.mk "N" 3 1 false "" "" 8, Field.mk "S" 9 2 false "" "" 16].size (v2.getD v4.toNat PV.top) && (PV.isInt IntKind.i64 (PV.child 0 (v2.getD v4.toNat PV.top)) && (PV.isInt IntKind.i64 (PV.child (0 + 1) (v2.getD v4.toNat PV.top)) && ((PV.child (0 + 1 + 1) (v2.getD v4.toNat PV.top)).isStr && true)))) && true then bif (PV.child 0 (v2.getD v4.toNat PV.top)).int == 1 then bif decide (0 <= v4) && decide (v4 < zi v2.length) && (PV.isSt 99 #[Field.mk "Kind" 3 0 false "" "" 0, Field.mk "N" 3 1 false "" "" 8, Field.mk "S" 9 2 false "" "" 16].size (v2.getD v4.toNat PV.top) && (PV.isInt IntKind.i64 (PV.child 0 (v2.getD v4.toNat PV.top)) && (PV.isInt IntKind.i64 (PV.child (0 + 1) (v2.getD v4.toNat PV.top)) && ((PV.child (0 + 1 + 1) (v2.getD v4.toNat PV.top)).isStr && true)))) && true then bif decide (0 <= v4) && decide (v4 < zi v2.length) && (PV.isSt 99 #[Field.mk "Kind" 3 0 false "" "" 0, Field.mk "N" 3 1 false "" "" 8, Field.mk "S" 9 2 false "" "" 16].size (v2.getD v4.toNat PV.top) && (PV.isInt IntKind.i64 (PV.child 0 (v2.getD v4.toNat PV.top)) && (PV.isInt IntKind.i64 (PV.child (0 + 1) (v2.getD v4.toNat PV.top)) && ((PV.child (0 + 1 + 1) (v2.getD v4.toNat PV.top)).isStr && true)))) && true then rc v0 v1 v2 (IntKind.i64.wrap (IntKind.i64.wrap (v3 + (PV.child (0 + 1) (v2.getD v4.toNat PV.top)).int) + zi (PV.child (0 + 1 + 1) (v2.getD v4.toNat PV.top)).str.size)) (IntKind.i64.wrap (v4 + 1)) else none else none else bif decide (0 <= v4) && decide (v4 < zi v2.length) && (PV.isSt 99 #[Field.mk "Kind" 3 0 false "" "" 0, Field.mk "N" 3 1 false "" "" 8, Field.mk "S" 9 2 false "" "" 16].size (v2.getD v4.toNat PV.top) && (PV.isInt IntKind.i64 (PV.child 0 (v2.getD v4.toNat PV.top)) && (PV.isInt IntKind.i64 (PV.child (0 + 1) (v2.getD v4.toNat PV.top)) && ((PV.child (0 + 1 + 1) (v2.getD v4.toNat PV.top)).isStr && true)))) && true then rc v0 v1 v2 (IntKind.i64.wrap (v3 + zi (PV.child (0 + 1 + 1) (v2.getD v4.toNat PV.top)).str.size)) (IntKind.i64.wrap (v4 + 1)) else none else none else k0 v3
def Yg (f : Nat) (k0 : Int -> Option Res) : Nat -> Bool -> Bool -> List PV -> Int -> Int -> Option Res
 | 0, _, _, _, _, _ => none
 | n + 1, v0, v1, v2, v3, v4 => Zo f (Yg f k0 n) k0 v0 v1 v2 v3 v4
theorem Jmv (f : Nat) (k : Kont) (n : Nat) (v0 v1 : Bool) (v2 : List PV) (v3 v4 : Int) : Jl tau 0 WA (fun s k => ev tau Jmu 0 0 G2 (Jb4 ) s k) (n + 1) (Jd WA Jcr [.ro 99 v0 v1 v2, .sc (.int .i64 v3), .sc (.int .i64 v4)] []) (Jo tau 0 Xa k) = Zo f (fun v0 v1 v2 v3 v4 => Jl tau 0 WA (fun s k => ev tau Jmu 0 0 G2 (Jb4 ) s k) n (Jd WA Jcr [.ro 99 v0 v1 v2, .sc (.int .i64 v3), .sc (.int .i64 v4)] []) (Jo tau 0 Xa k)) (fun x0 => k (Ex.exit 0) (Jd Xa Jcr [.sc (.int .i64 x0)] [])) v0 v1 v2 v3 v4 := by kernel_rfl
theorem Jf4 (f : Nat) (k : Kont) : ∀ (n : Nat) (v0 v1 : Bool) (v2 : List PV) (v3 v4 : Int), Jl tau 0 WA (fun s k => ev tau Jmu 0 0 G2 (Jb4 ) s k) n (Jd WA Jcr [.ro 99 v0 v1 v2, .sc (.int .i64 v3), .sc (.int .i64 v4)] []) (Jo tau 0 Xa k) = Yg f (fun x0 => k (Ex.exit 0) (Jd Xa Jcr [.sc (.int .i64 x0)] [])) n v0 v1 v2 v3 v4 | 0, _, _, _, _, _ => rfl | n + 1, v0, v1, v2, v3, v4 => (Jmv f k n v0 v1 v2 v3 v4).trans (congrArg (fun r => Zo f r (fun x0 => k (Ex.exit 0) (Jd Xa Jcr [.sc (.int .i64 x0)] [])) v0 v1 v2 v3 v4) (by funext v0 v1 v2 v3 v4; exact Jf4 f k n v0 v1 v2 v3 v4))
def Vu (f : Nat) : List PV -> List (Nat × Ent) -> Kont -> Option Res
 | [.ro 99 v0 v1 v2, .sc (.int .i64 v3),
 .sc (.int .i64 v4)], [], k => Yg f (fun x0 => k (Ex.exit 0) (Jd Xa Jcr [.sc (.int .i64 x0)] [])) f v0 v1 v2 v3 v4
 | _, _, _ => none
theorem Jo6 (f : Nat) : Jf G2 Jb4 = [] := by kernel_rfl
theorem Jti (f : Nat) : (Item.l G2 WA Jcr (Vu f)).Ok tau Try.prog 0 := Jz Jp Jjs Jq (x := Jb4) (nm2 := Xa) (Jm _ _ (by rw [Jo6 f]; intro q hq; cases hq)) fun vs hp k res hr => by
 unfold Vu at hr
 split at hr
 · exact ⟨f, 0, (Jf4 f _ f _ _ _ _ _ ).trans hr⟩
 · cases hr
def Jxw (f : Nat) (o_z o_f : Bool) (o : List PV) (k : Res -> Option Res) : Option Res := Yg f (fun x0_0 => k (Res.mk (.sc (.int .i64 x0_0)) [] [])) f o_z o_f o (0) (0)
theorem JAr (f : Nat) (o_z o_f : Bool) (o : List PV) (k : Res -> Option Res) : JQ tau Jmu Try.f147 (Try.f147.body.get!) (Jjt (Vu f)) [.ro] 0 [.ro 99 o_z o_f o] [] k = Jxw f o_z o_f o k := by kernel_rfl
theorem Jxx (f : Nat) : Jf (Try.f147.body.get!) (Jjt (Vu f)) = [.l G2 WA Jcr (Vu f)] := by kernel_rfl
theorem Jxy (f : Nat) : ∀ q ∈ Jf (Try.f147.body.get!) (Jjt (Vu f)), q.Ok tau Try.prog 0 := by
 rw [Jxx f]; simp only [List.forall_mem_cons, List.not_mem_nil, false_implies, implies_true, and_true]; exact Jti f
theorem Jq3 : Try.prog.funcs[147]? = some Try.f147 := by kernel_rfl
theorem Jq4 : Try.f147.body = some (Try.f147.body.get!) := by kernel_rfl
theorem Jxz : Enters Try.prog 147 := enters_of Jq3 (by kernel_rfl) Jq4

-- FN law16.within
def okW : Int -> Bool := hid fun n => decide (0 < n) && decide (n < 1000000000000)
theorem Vv (n : Int) : okW n = (decide (0 < n) && decide (n < 1000000000000)) := by rw [okW, hid_eq]
-- FN
def kpP (k : Int) : PV := .st 99 [.sc (.int .i64 1), .sc (.int .i64 k), .sc (.string (ByteArray.mk #[]))]
def ctP (k : Int) : PV := .st 99 [.sc (.int .i64 3), .sc (.int .i64 k), .sc (.string (ByteArray.mk #[]))]
def ptP (s : ByteArray) : PV := .st 99 [.sc (.int .i64 2), .sc (.int .i64 0), .sc (.string s)]
def abc : ByteArray := ByteArray.mk (Array.mk [97, 98, 99, 100, 101, 102, 103, 104, 105, 106])
def zed : ByteArray := ByteArray.mk (Array.mk [122])
def Jcs (k : Int) : ByteArray := abc.extract 0 k.toNat
theorem Jdo {k : Int} (h : 0 <= k) (h2 : k <= 10) : ((Jcs k).size : Int) = k := by
 have : (Jcs k).size = min k.toNat 10 - 0 := by simp [Jcs, abc, ByteArray.size_extract]; rfl
 omega
def mkK (x n : Int) : Int := 1 + IntKind.i64.wrap (x.tdiv 7) % Qv n 9
def mkS (x : Int) : Int := 1 + IntKind.i64.wrap (x.tdiv 7) % 5
theorem Jju {n : Int} (h : 0 < n) : 0 < Qv n 9 /\ Qv n 9 <= n /\ Qv n 9 <= 9 := by unfold Qv; split <;> omega
def mkE (c : Bool) (n out : Int) : List PV := (bif decide (n > 0) then [kpP n] else []) ++ (bif c && decide (out <= 115) then [ptP zed] else [])
def Xx (c : Bool) : Nat -> Int -> Int -> List PV -> List PV
 | 0, n, out, _ => mkE c n out
 | _ + 1, n, out, [] => mkE c n out
 | b + 1, n, out, p :: ps =>
  bif decide (n > 0) then
   (bif p.int % 4 == 0 || p.int % 4 == 1 then kpP (mkK p.int n) :: Xx c b (n - mkK p.int n) out ps
   else bif p.int % 4 == 2 then ctP (mkK p.int n) :: Xx c b (n - mkK p.int n) (out - mkK p.int n) ps
   else bif decide (out + mkS p.int <= 120) then ptP (Jcs (mkS p.int)) :: Xx c b n (out + mkS p.int) ps
   else Xx c b n out ps)
  else mkE c n out
def mkC (ns : List PV) : Bool := decide (ns.length > 0) && IntKind.i64.wrap ((ns.getD 0 .top).int.tdiv 3) % 3 == 0
structure MN where
 (n : Int) (ns : List PV)
def JI : MN -> List PV := hid fun x => Xx (mkC x.ns) 12 x.n x.n x.ns
theorem Jf5 (x : MN) : JI x = Xx (mkC x.ns) 12 x.n x.n x.ns := by rw [JI, hid_eq]
def Jez : Int -> List PV -> Bool := hid fun n ns => decide (0 <= n) && (decide (n <= 120) && (Jj .i64 ns && decide (ns.length <= 9223372036854775807)))
theorem Jf6 {n : Int} {ns : List PV} : Jez n ns = true ↔ 0 <= n /\ n <= 120 /\ Jj .i64 ns = true /\ ns.length <= 9223372036854775807 := by
 rw [Jez, hid_eq]; simp only [Bool.and_eq_true, decide_eq_true_eq]
def inC (c : CV) : Int := bif c.kd == 2 then 0 else c.n
def WV (c : CV) : Int := bif c.kd == 1 then c.n else c.s.size
def inL : List PV -> Int
 | [] => 0
 | p :: ps => inC (cv p) + inL ps
def outL : List PV -> Int
 | [] => 0
 | p :: ps => WV (cv p) + outL ps
structure MkOk (n done b : Int) (l : List PV) : Prop where
 cp : ∀ p ∈ l, isCp p = true
 ck : ∀ p ∈ l, ckC (cv p) = 0
 sz : ∀ p ∈ l, (cv p).s.size <= 10
 len : (l.length : Int) <= b
 inn : inL l = n
 out : done + outL l <= 120
 out0 : 0 <= outL l
theorem Gs {n n' done done' b : Int} {p : PV} {l : List PV} (h : MkOk n' done' b l) (h1 : isCp p = true) (h2 : ckC (cv p) = 0) (h3 : (cv p).s.size <= 10) (h4 : inC (cv p) + n' = n) (h5 : done + WV (cv p) = done') (h6 : 0 <= WV (cv p)) : MkOk n done (b + 1) (p :: l) where
 cp := fun q hq => (List.mem_cons.1 hq).elim (fun e => e ▸ h1) (fun m => h.cp q m)
 ck := fun q hq => (List.mem_cons.1 hq).elim (fun e => e ▸ h2) (fun m => h.ck q m)
 sz := fun q hq => (List.mem_cons.1 hq).elim (fun e => e ▸ h3) (fun m => h.sz q m)
 len := by have := h.len; simp only [List.length_cons]; omega
 inn := by have := h.inn; simp only [inL]; omega
 out := by have := h.out; simp only [outL]; omega
 out0 := by have := h.out0; simp only [outL]; omega
theorem Yr {n done b b' : Int} {l : List PV} (h : MkOk n done b l) (hb : b <= b') : MkOk n done b' l := { h with len := by have := h.len; omega }
theorem JeA {done : Int} (h : done <= 120) : MkOk 0 done 0 [] where
 cp := fun q hq => by cases hq
 ck := fun q hq => by cases hq
 sz := fun q hq => by cases hq
 len := by simp
 inn := rfl
 out := by simp only [outL]; omega
 out0 := by simp [outL]
theorem Jq5 {k : Int} (h : 1 <= k) (h2 : k <= 120) : ckC (cv (kpP k)) = 0 := by
 have e : cv (kpP k) = ⟨1, k, ByteArray.mk #[]⟩ := rfl
 rw [e, Jby]; unfold JgZ
 have hs : (ByteArray.mk #[]).size = 0 := rfl
 simp only [hs]
 rw [show (decide (k < 1)) = false from decide_eq_false (by omega), show (decide (k > 120)) = false from decide_eq_false (by omega)]; rfl
theorem JxA {k : Int} (h : 1 <= k) (h2 : k <= 120) : ckC (cv (ctP k)) = 0 := by
 have e : cv (ctP k) = ⟨3, k, ByteArray.mk #[]⟩ := rfl
 rw [e, Jby]; unfold JgZ
 have hs : (ByteArray.mk #[]).size = 0 := rfl
 simp only [hs]
 rw [show (decide (k < 1)) = false from decide_eq_false (by omega), show (decide (k > 120)) = false from decide_eq_false (by omega)]; rfl
theorem Jq6 {s : ByteArray} (h : 1 <= s.size) (h2 : s.size <= 120) : ckC (cv (ptP s)) = 0 := by
 have e : cv (ptP s) = ⟨2, 0, s⟩ := rfl
 rw [e, Jby]; unfold JgZ
 rw [show (s.size == 0) = false from beq_false_of_ne (by omega)]
 refine (Ji rfl).trans ((Jc rfl).trans ((Ji rfl).trans (Ji (decide_eq_false (by show ¬ ((s.size : Int) > 120); omega)))))
theorem JhP (c : Bool) {n out : Int} (h : 0 <= n) (h2 : n <= out) (h3 : out <= 120) : MkOk n (out - n) 2 (mkE c n out) := by
 have hz : ∀ {d : Int}, d + 1 <= 120 -> MkOk 0 d 1 [ptP zed] := fun {d} hd =>
  Gs (n' := 0) (done' := d + 1) (JeA hd) rfl (Jq6 (by decide) (by decide)) (by show zed.size <= 10; decide) rfl rfl (by decide)
 unfold mkE
 cases hn : decide (n > 0) with
 | true =>
  have hn := of_decide_eq_true hn
  rw [cond_true, List.singleton_append]
  have e : ∀ {b : Int} {l : List PV}, MkOk 0 out b l -> MkOk n (out - n) (b + 1) (kpP n :: l) := fun hl =>
   Gs hl rfl (Jq5 (by omega) (by omega)) (by show (0 : Nat) <= 10; omega) (by show n + 0 = n; omega) (by show out - n + n = out; omega) (by show 0 <= n; omega)
  cases hc : (c && decide (out <= 115)) with
  | true => simp only [Bool.and_eq_true, decide_eq_true_eq] at hc; rw [cond_true]; exact e (hz (by omega))
  | false => rw [cond_false]; exact Yr (e (JeA h3)) (by omega)
 | false =>
  have hn := of_decide_eq_false hn
  have : n = 0 := by omega
  subst this
  rw [cond_false, List.nil_append, Int.sub_zero]
  cases hc : (c && decide (out <= 115)) with
  | true => simp only [Bool.and_eq_true, decide_eq_true_eq] at hc; rw [cond_true]; exact Yr (hz (by omega)) (by omega)
  | false => rw [cond_false]; exact Yr (JeA h3) (by omega)
theorem Jmw {x n : Int} (h : 0 < n) : 1 <= mkK x n /\ mkK x n <= n /\ mkK x n <= 9 := by
 obtain ⟨m1, m2, m3⟩ := Jju h
 have h1 := Int.emod_nonneg (IntKind.i64.wrap (x.tdiv 7)) (show Qv n 9 ≠ 0 by omega)
 have h2 := Int.emod_lt_of_pos (IntKind.i64.wrap (x.tdiv 7)) m1
 unfold mkK; omega
theorem Jmx (x : Int) : 1 <= mkS x /\ mkS x <= 5 := by
 have h1 := Int.emod_nonneg (IntKind.i64.wrap (x.tdiv 7)) (show (5 : Int) ≠ 0 by omega)
 have h2 := Int.emod_lt_of_pos (IntKind.i64.wrap (x.tdiv 7)) (show (0 : Int) < 5 by omega)
 unfold mkS; omega
theorem Gt (c : Bool) : ∀ (b : Nat) (n out : Int) (ns : List PV), 0 <= n -> n <= out -> out <= 120 -> MkOk n (out - n) (b + 2) (Xx c b n out ns)
 | 0, n, out, _, h, h2, h3 => Yr (JhP c h h2 h3) (by omega)
 | b + 1, n, out, [], h, h2, h3 => Yr (JhP c h h2 h3) (by omega)
 | b + 1, n, out, p :: ps, h, h2, h3 => by
  simp only [Xx]
  cases hn : decide (n > 0) with
  | false => rw [cond_false]; exact Yr (JhP c h h2 h3) (by omega)
  | true =>
   have hn := of_decide_eq_true hn
   obtain ⟨k1, k2, k3⟩ := Jmw (x := p.int) hn
   obtain ⟨s1, s2⟩ := Jmx p.int
   rw [cond_true]
   cases hc : (p.int % 4 == 0 || p.int % 4 == 1) with
   | true =>
    rw [cond_true]
    refine Yr (Gs (Gt c b (n - mkK p.int n) out ps (by omega) (by omega) h3) rfl (Jq5 k1 (by omega)) (by show (0 : Nat) <= 10; omega) (by show mkK p.int n + _ = _; omega) (by show out - n + mkK p.int n = _; omega) (by show 0 <= mkK p.int n; omega)) (by omega)
   | false =>
    rw [cond_false]
    cases hc2 : (p.int % 4 == 2) with
    | true =>
     rw [cond_true]
     refine Yr (Gs (Gt c b (n - mkK p.int n) (out - mkK p.int n) ps (by omega) (by omega) (by omega)) rfl (JxA k1 (by omega)) (by show (0 : Nat) <= 10; omega) (by show mkK p.int n + _ = _; omega) (by show out - n + (0 : Int) = _; omega) (by show 0 <= (0 : Int); omega)) (by omega)
    | false =>
     rw [cond_false]
     cases hc3 : decide (out + mkS p.int <= 120) with
     | false => rw [cond_false]; exact Yr (Gt c b n out ps h h2 h3) (by omega)
     | true =>
      have hc3 := of_decide_eq_true hc3
      have hz := Jdo (k := mkS p.int) (by omega) (by omega)
      rw [cond_true]
      refine Yr (Gs (Gt c b n (out + mkS p.int) ps (by omega) (by omega) hc3) rfl (Jq6 (by omega) (by omega)) (by show (Jcs (mkS p.int)).size <= 10; omega) (by show (0 : Int) + n = n; omega) (by show out - n + ((Jcs (mkS p.int)).size : Int) = _; omega) (by show 0 <= ((Jcs (mkS p.int)).size : Int); omega)) (by omega)
theorem Jmy {n : Int} (ns : List PV) (h : 0 <= n) (h2 : n <= 120) : MkOk n 0 14 (JI ⟨n, ns⟩) := by
 rw [Jf5]
 have := Gt (mkC ns) 12 n n ns h (by omega) h2
 rwa [Int.sub_self] at this
theorem Jmz : ∀ {l : List PV}, (∀ p ∈ l, ckC (cv p) = 0) -> ckL l = 0
 | [], _ => rfl
 | p :: r, h => by
  simp only [ckL]
  rw [h p List.mem_cons_self]
  exact Jmz fun q hq => h q (List.mem_cons_of_mem _ hq)
theorem JmA {n d : Int} {l : List PV} (h : MkOk n d 14 l) : cBy l = true := by
 have := h.len
 exact Jek.2 ⟨List.all_eq_true.2 h.cp, fun p hp => by have := h.sz p hp; omega, by omega⟩
theorem JmB {n d : Int} {l : List PV} (h : MkOk n d 14 l) : (opB l).length <= 400 := by
 have h1 := JbN 10 l h.sz
 have h2 := h.len
 rw [JlR, Jog, List.length_append]
 simp only [List.length_cons, List.length_nil]; omega
-- FN ref4.In | ref4.Out
theorem Zp {c : CV} (h : ckC c = 0) : (c.kd = 1 ∨ c.kd = 3) /\ 1 <= c.n /\ c.n <= 120 /\ c.s.size = 0 ∨ c.kd = 2 /\ c.n = 0 /\ 1 <= c.s.size /\ c.s.size <= 120 := by
 rw [Jby] at h
 unfold JgZ at h
 cases h1 : (c.kd == 1 || c.kd == 3) with
 | true =>
  rw [h1, cond_true] at h
  cases h2 : (decide (c.n < 1) || (decide (c.n > 120) || !(c.s.size == 0))) with
  | true => rw [h2, cond_true] at h; exact absurd h (by decide)
  | false =>
   simp only [Bool.or_eq_false_iff, decide_eq_false_iff_not, Bool.not_eq_false', beq_iff_eq] at h2
   simp only [Bool.or_eq_true, beq_iff_eq] at h1
   exact .inl ⟨h1, by omega, by omega, h2.2.2⟩
 | false =>
  rw [h1, cond_false] at h
  cases h3 : (c.kd == 2) with
  | false => rw [h3, cond_false] at h; exact absurd h (by decide)
  | true =>
   rw [h3, cond_true] at h
   cases h2 : (!(c.n == 0) || c.s.size == 0) with
   | true => rw [h2, cond_true] at h; exact absurd h (by decide)
   | false =>
    rw [h2, cond_false] at h
    cases h4 : decide (zi c.s.size > 120) with
    | true => rw [h4, cond_true] at h; exact absurd h (by decide)
    | false =>
     simp only [Bool.or_eq_false_iff, Bool.not_eq_false', beq_iff_eq, beq_eq_false_iff_ne] at h2
     simp only [zi, decide_eq_false_iff_not] at h4
     simp only [beq_iff_eq] at h3
     exact .inr ⟨h3, h2.1, by omega, by omega⟩
def aOk : List PV -> Bool := hid fun l => cOk l && ckO l == 0
theorem Jdp : ∀ {l : List PV}, ckL l = 0 -> ∀ p ∈ l, ckC (cv p) = 0
 | [], _, p, hp => by cases hp
 | q :: r, h, p, hp => by
  simp only [ckL] at h
  cases hq : (ckC (cv q) == 0) with
  | false => rw [hq, cond_false] at h; rw [h] at hq; exact absurd hq (by decide)
  | true =>
   rw [hq, cond_true] at h
   rcases List.mem_cons.1 hp with rfl | hp
   · simpa using hq
   · exact Jdp h p hp
theorem Xb {l : List PV} : aOk l = true ↔ l.all isCp = true /\ l.length <= 40 /\ ∀ p ∈ l, ckC (cv p) = 0 := by
 rw [aOk, hid_eq, Bool.and_eq_true, beq_iff_eq, XN]
 constructor
 · rintro ⟨⟨h1, h2⟩, h3⟩
   rw [Jg0] at h3
   unfold Jk1 at h3
   cases hc : decide (zi l.length > 40) with
   | true => rw [hc, cond_true] at h3; exact absurd h3 (by decide)
   | false =>
    rw [hc, cond_false] at h3
    simp only [zi, decide_eq_false_iff_not] at hc
    exact ⟨h1, by omega, Jdp h3⟩
 · rintro ⟨h1, h2, h3⟩
   refine ⟨⟨h1, by omega⟩, ?_⟩
   rw [Jg0]; unfold Jk1
   exact (Ji (decide_eq_false (by simp only [zi]; omega))).trans (Jmz h3)
theorem JmC {l : List PV} (h : cOk l = true) (h2 : ckO l = 0) : aOk l = true := by rw [aOk, hid_eq, h, h2]; rfl
theorem Jb5 {l : List PV} (h : aOk l = true) {i : Nat} (hi : i < l.length) : isCp (l.getD i .top) = true /\ ckC (cv (l.getD i .top)) = 0 := by
 obtain ⟨h1, _, h3⟩ := Xb.1 h
 refine ⟨ZH h1 hi, ?_⟩
 rw [List.getD_eq_getElem?_getD, List.getElem?_eq_getElem hi]
 exact h3 _ (List.getElem_mem hi)
def Jb6 (p : PV) : Bool := PV.isSt 99 #[Field.mk "Kind" 3 0 false "" "" 0, Field.mk "N" 3 1 false "" "" 8, Field.mk "S" 9 2 false "" "" 16].size p && (PV.isInt IntKind.i64 (PV.child 0 p) && (PV.isInt IntKind.i64 (PV.child (0 + 1) p) && ((PV.child (0 + 1 + 1) p).isStr && true)))
theorem JmD {l : List PV} (h : l.all isCp = true) {i : Nat} (hi : i < l.length) : (decide (0 <= (i : Int)) && decide ((i : Int) < zi l.length) && Jb6 (l.getD i .top) && true) = true := by
 have hq : Jb6 (l.getD i .top) = true := GP (ZH h hi)
 rw [hq]; simp [zi]; omega
def inO : List PV -> Int := hid inL
def Jo7 : List PV -> Int := hid outL
theorem JmE (l : List PV) : inO l = inL l := by rw [inO, hid_eq]
theorem Jjv (l : List PV) : Jo7 l = outL l := by rw [Jo7, hid_eq]
theorem JhQ {c : CV} (h : ckC c = 0) : 0 <= inC c /\ inC c <= 120 := by
 unfold inC
 rcases Zp h with ⟨h1, h2, h3, h4⟩ | ⟨h1, h2, h3, h4⟩
 · rw [show (c.kd == 2) = false from beq_false_of_ne (by omega), cond_false]; omega
 · rw [h1]; show 0 <= (0 : Int) /\ (0 : Int) <= 120; decide
theorem Jjw {c : CV} (h : ckC c = 0) : 0 <= WV c /\ WV c <= 120 := by
 unfold WV
 rcases Zp h with ⟨h1, h2, h3, h4⟩ | ⟨h1, h2, h3, h4⟩
 · cases hc : (c.kd == 1) with
   | true => rw [cond_true]; omega
   | false => rw [cond_false]; omega
 · rw [h1]; show 0 <= (c.s.size : Int) /\ (c.s.size : Int) <= 120; omega
theorem JhR (l : List PV) (ha : aOk l = true) (f : Nat) (k0 : Int -> Option Res) (z fl : Bool) : ∀ (d i n : Nat) (s : Int), i + d = l.length -> d < n -> 0 <= s -> s <= 120 * i ->
  Yf f k0 n z fl l s (i : Int) = k0 (s + inL (l.drop i))
 | 0, i, n + 1, s, hi, hn, h3, h4 => by
   rw [List.drop_of_length_le (by omega)]
   simp only [Yf, Zn, inL, Int.add_zero]
   exact Ji (by simp [zi]; omega)
 | d + 1, i, n + 1, s, hi, hn, h3, h4 => by
   obtain ⟨h1, hl, _⟩ := Xb.1 ha
   have g1 : ((i : Int)).toNat = i := by omega
   have w1 : IntKind.i64.wrap ((i : Int) + 1) = ((i + 1 : Nat) : Int) := by rw [wrap_i64 (by omega) (by omega)]; omega
   have hc := JmD h1 (i := i) (by omega)
   unfold Jb6 at hc
   have hk := (Jb5 ha (i := i) (by omega)).2
   rw [Qf (by omega)]
   simp only [Yf, Zn, g1, w1]
   refine (Jc (by simp [zi]; omega)).trans ((Jc hc).trans ?_)
   generalize l.getD i .top = p at *
   have i1 := JhQ hk
   have e1 : (PV.child 0 p).int = (cv p).kd := rfl
   have e2 : (PV.child (0 + 1) p).int = (cv p).n := rfl
   rw [e1, e2, inL, ← Int.add_assoc]
   cases hq : ((cv p).kd != 2) with
   | true =>
    have hz : inC (cv p) = (cv p).n := by unfold inC; rw [show ((cv p).kd == 2) = false from by simpa [bne] using hq]; rfl
    refine (Jc rfl).trans ((Jc hc).trans ?_)
    rw [← hz, wrap_i64 (by omega) (by omega)]
    exact JhR l ha f k0 z fl d (i + 1) n _ (by omega) (by omega) (by omega) (by omega)
   | false =>
    have hz : inC (cv p) = 0 := by unfold inC; rw [show ((cv p).kd == 2) = true from by simpa [bne] using hq]; rfl
    rw [hz, Int.add_zero]
    exact (Ji rfl).trans (JhR l ha f k0 z fl d (i + 1) n s (by omega) (by omega) h3 (by omega))
theorem JhS (l : List PV) (ha : aOk l = true) (f : Nat) (k0 : Int -> Option Res) (z fl : Bool) : ∀ (d i n : Nat) (s : Int), i + d = l.length -> d < n -> 0 <= s -> s <= 120 * i ->
  Yg f k0 n z fl l s (i : Int) = k0 (s + outL (l.drop i))
 | 0, i, n + 1, s, hi, hn, h3, h4 => by
   rw [List.drop_of_length_le (by omega)]
   simp only [Yg, Zo, outL, Int.add_zero]
   exact Ji (by simp [zi]; omega)
 | d + 1, i, n + 1, s, hi, hn, h3, h4 => by
   obtain ⟨h1, hl, _⟩ := Xb.1 ha
   have g1 : ((i : Int)).toNat = i := by omega
   have w1 : IntKind.i64.wrap ((i : Int) + 1) = ((i + 1 : Nat) : Int) := by rw [wrap_i64 (by omega) (by omega)]; omega
   have hc := JmD h1 (i := i) (by omega)
   unfold Jb6 at hc
   have hk := (Jb5 ha (i := i) (by omega)).2
   rw [Qf (by omega)]
   simp only [Yg, Zo, g1, w1]
   refine (Jc (by simp [zi]; omega)).trans ((Jc hc).trans ?_)
   generalize l.getD i .top = p at *
   have i1 := Jjw hk
   have e1 : (PV.child 0 p).int = (cv p).kd := rfl
   have e2 : (PV.child (0 + 1) p).int = (cv p).n := rfl
   have e3 : (PV.child (0 + 1 + 1) p).str = (cv p).s := rfl
   rw [e1, e2, e3, outL, ← Int.add_assoc]
   have hf := Zp hk
   cases hq : ((cv p).kd == 1) with
   | true =>
    have hz : WV (cv p) = (cv p).n := by unfold WV; rw [hq]; rfl
    have hq' : (cv p).kd = 1 := by simpa using hq
    have hs : zi (cv p).s.size = 0 := by show ((cv p).s.size : Int) = 0; omega
    refine (Jc rfl).trans ((Jc hc).trans ((Jc hc).trans ?_))
    rw [hs, ← hz, Int.add_zero, wrap_i64 (x := s + WV (cv p)) (by omega) (by omega), wrap_i64 (by omega) (by omega)]
    exact JhS l ha f k0 z fl d (i + 1) n _ (by omega) (by omega) (by omega) (by omega)
   | false =>
    have hz : WV (cv p) = zi (cv p).s.size := by unfold WV; rw [hq]; rfl
    refine (Ji rfl).trans ((Jc hc).trans ?_)
    rw [← hz, wrap_i64 (by omega) (by omega)]
    exact JhS l ha f k0 z fl d (i + 1) n _ (by omega) (by omega) (by omega) (by omega)
def JeB : List PV -> List Ent -> (Res -> Option Res) -> Option Res
 | [.ro 99 z f o], [], k => bif aOk o then k ⟨.sc (.int .i64 (inO o)), [], []⟩ else none
 | _, _, _ => none
def Jq7 : Sig := { own := [], run := JeB }
theorem Jtj : Jg tau Try.prog 146 Jq7 := Jg.mk' fun xs es k res hl hr => by
 change JeB xs es k = some res at hr
 unfold JeB at hr
 split at hr
 · rename_i z f o
   obtain ⟨hc, hr⟩ := JE hr
   have hl2 := (Xb.1 hc).2.1
   refine Qr Jp Jjq Jq Jq1 Jq2 (Jjr (Vt 50)) [.ro] 0 0 (Jxu 50) hl rfl ((JAq 50 z f o k).trans (Eq.trans ?_ hr))
   unfold Jxs
   refine (JhR o hc 50 _ z f o.length 0 50 0 (by omega) (by omega) (by omega) (by omega)).trans ?_
   rw [List.drop_zero, Int.zero_add, JmE]
 · cases hr
def JeC : List PV -> List Ent -> (Res -> Option Res) -> Option Res
 | [.ro 99 z f o], [], k => bif aOk o then k ⟨.sc (.int .i64 (Jo7 o)), [], []⟩ else none
 | _, _, _ => none
def Jq8 : Sig := { own := [], run := JeC }
theorem Jtk : Jg tau Try.prog 147 Jq8 := Jg.mk' fun xs es k res hl hr => by
 change JeC xs es k = some res at hr
 unfold JeC at hr
 split at hr
 · rename_i z f o
   obtain ⟨hc, hr⟩ := JE hr
   have hl2 := (Xb.1 hc).2.1
   refine Qr Jp Jjs Jq Jq3 Jq4 (Jjt (Vu 50)) [.ro] 0 0 (Jxy 50) hl rfl ((JAr 50 z f o k).trans (Eq.trans ?_ hr))
   unfold Jxw
   refine (JhS o hc 50 _ z f o.length 0 50 0 (by omega) (by omega) (by omega) (by omega)).trans ?_
   rw [List.drop_zero, Int.zero_add, Jjv]
 · cases hr
def Jct : Nat := 66
def JmF : Fns := JH 147 Jq8 (JH 146 Jq7 (F0))
theorem Jjx : Jy tau Try.prog JmF := ((JD).add Jtj Jxv).add Jtk Jxz
def G3 : Code := Qo (Try.f118.body.get!) [1, 1, 1, 1, 1, 0, 1, 0, 0]
def WB : Nm := [(0, .any), (1, .any), (6, .any), (7, .any), (8, .any)]
def Xc : Nm := [(6, .any)]
def Jb7 : An := (.seq (.seq .leaf (.cond .leaf .leaf)) (.seq (.block none (.seq .leaf (.block none (.seq .leaf (.cond (.seq .leaf .leaf) (.seq .leaf (.cond .leaf .leaf))))))) .leaf))
def Jjy (r0 : QE) : An := (.seq .leaf (.seq (.seq .leaf (.cond (.seq .leaf .leaf) .leaf)) (.seq (.seq .leaf (.cond (.seq .leaf .leaf) .leaf)) (.seq .leaf (.seq .leaf (.seq (.seq .leaf (.block none (.sum WB Jct r0))) (.seq .leaf .leaf)))))))
def Zq (f : Nat) (rc : ByteArray -> Bool -> Bool -> List PV -> ByteArray -> Int -> Int -> Option Res) (k0 : ByteArray -> Option Res) (v0 : ByteArray) (v1 v2 : Bool) (v3 : List PV) (v4 : ByteArray) (v5 v6 : Int) : Option Res := bif decide (v6 < zi v3.length) then bif decide (0 <= v6) && decide (v6 < zi v3.length) && (PV.isSt 99 #[Field.mk "Kind" 3 0 false "" "" 0, Field.mk "N" 3 1 false "" "" 8, Field.mk "S" 9 2 false "" "" 16].size (v3.getD v6.toNat PV.top) && (PV.isInt IntKind.i64 (PV.child 0 (v3.getD v6.toNat PV.top)) && (PV.isInt IntKind.i64 (PV.child (0 + 1) (v3.getD v6.toNat PV.top)) && ((PV.child (0 + 1 + 1) (v3.getD v6.toNat PV.top)).isStr && true)))) && true then bif (PV.child 0 (v3.getD v6.toNat PV.top)).int == 1 then bif decide (0 <= v6) && decide (v6 < zi v3.length) && (PV.isSt 99 #[Field.mk "Kind" 3 0 false "" "" 0, Field.mk "N" 3 1 false "" "" 8, Field.mk "S" 9 2 false "" "" 16].size (v3.getD v6.toNat PV.top) && (PV.isInt IntKind.i64 (PV.child 0 (v3.getD v6.toNat PV.top)) && (PV.isInt IntKind.i64 (PV.child (0 + 1) (v3.getD v6.toNat PV.top)) && ((PV.child (0 + 1 + 1) (v3.getD v6.toNat PV.top)).isStr && true)))) && true then bif decide (0 <= v5) && decide (0 <= IntKind.i64.wrap (v5 + (PV.child (0 + 1) (v3.getD v6.toNat PV.top)).int)) && decide (v5.toNat <= (IntKind.i64.wrap (v5 + (PV.child (0 + 1) (v3.getD v6.toNat PV.top)).int)).toNat) && decide ((IntKind.i64.wrap (v5 + (PV.child (0 + 1) (v3.getD v6.toNat PV.top)).int)).toNat <= v0.size) && true then bif decide (v4.size + (v0.extract v5.toNat (IntKind.i64.wrap (v5 + (PV.child (0 + 1) (v3.getD v6.toNat PV.top)).int)).toNat).size <= 9223372036854775807) && true then bif decide (0 <= v6) && decide (v6 < zi v3.length) && (PV.isSt 99 #[Field.mk "Kind" 3 0 false "" "" 0, Field.mk "N" 3 1 false "" "" 8, Field.mk "S" 9 2 false "" "" 16].size (v3.getD v6.toNat PV.top) && (PV.isInt IntKind.i64 (PV.child 0 (v3.getD v6.toNat PV.top)) && (PV.isInt IntKind.i64 (PV.child (0 + 1) (v3.getD v6.toNat PV.top)) && ((PV.child (0 + 1 + 1) (v3.getD v6.toNat PV.top)).isStr && true)))) && true then rc v0 v1 v2 v3 (v4 ++ v0.extract v5.toNat (IntKind.i64.wrap (v5 + (PV.child (0 + 1) (v3.getD v6.toNat PV.top)).int)).toNat) (IntKind.i64.wrap (v5 + (PV.child (0 + 1) (v3.getD v6.toNat PV.top)).int)) (IntKind.i64.wrap (v6 + 1)) else none else none else none else none else bif (PV.child 0 (v3.getD v6.toNat PV.top)).int == 2 then bif decide (0 <= v6) && decide (v6 < zi v3.length) && (PV.isSt 99 #[Field.mk "Kind" 3 0 false "" "" 0, Field.mk "N" 3 1 false "" "" 8, Field.mk "S" 9 2 false "" "" 16].size (v3.getD v6.toNat PV.top) && (PV.isInt IntKind.i64 (PV.child 0 (v3.getD v6.toNat PV.top)) && (PV.isInt IntKind.i64 (PV.child (0 + 1) (v3.getD v6.toNat PV.top)) && ((PV.child (0 + 1 + 1) (v3.getD v6.toNat PV.top)).isStr && true)))) && true then bif decide (v4.size + (PV.child (0 + 1 + 1) (v3.getD v6.toNat PV.top)).str.size <= 9223372036854775807) && true then rc v0 v1 v2 v3 (v4 ++ (PV.child (0 + 1 + 1) (v3.getD v6.toNat PV.top)).str) v5 (IntKind.i64.wrap (v6 + 1)) else none else none else bif decide (0 <= v6) && decide (v6 < zi v3.length) && (PV.isSt 99 #[Field.mk "Kind" 3 0 false "" "" 0, Field.mk "N" 3 1 false "" "" 8, Field.mk "S" 9 2 false "" "" 16].size (v3.getD v6.toNat PV.top) && (PV.isInt IntKind.i64 (PV.child 0 (v3.getD v6.toNat PV.top)) && (PV.isInt IntKind.i64 (PV.child (0 + 1) (v3.getD v6.toNat PV.top)) && ((PV.child (0 + 1 + 1) (v3.getD v6.toNat PV.top)).isStr && true)))) && true then rc v0 v1 v2 v3 v4 (IntKind.i64.wrap (v5 + (PV.child (0 + 1) (v3.getD v6.toNat PV.top)).int)) (IntKind.i64.wrap (v6 + 1)) else none else none else k0 v4
def Yh (f : Nat) (k0 : ByteArray -> Option Res) : Nat -> ByteArray -> Bool -> Bool -> List PV -> ByteArray -> Int -> Int -> Option Res
 | 0, _, _, _, _, _, _, _ => none
 | n + 1, v0, v1, v2, v3, v4, v5, v6 => Zq f (Yh f k0 n) k0 v0 v1 v2 v3 v4 v5 v6
theorem JmG (f : Nat) (k : Kont) (n : Nat) (v0 : ByteArray) (v1 v2 : Bool) (v3 : List PV) (v4 : ByteArray) (v5 v6 : Int) : Jl tau 0 WB (fun s k => ev tau JmF 0 0 G3 (Jb7 ) s k) (n + 1) (Jd WB Jct [.sc (.string v0), .ro 99 v1 v2 v3, .sc (.string v4), .sc (.int .i64 v5), .sc (.int .i64 v6)] []) (Jo tau 0 Xc k) = Zq f (fun v0 v1 v2 v3 v4 v5 v6 => Jl tau 0 WB (fun s k => ev tau JmF 0 0 G3 (Jb7 ) s k) n (Jd WB Jct [.sc (.string v0), .ro 99 v1 v2 v3, .sc (.string v4), .sc (.int .i64 v5), .sc (.int .i64 v6)] []) (Jo tau 0 Xc k)) (fun x0 => k (Ex.exit 0) (Jd Xc Jct [.sc (.string x0)] [])) v0 v1 v2 v3 v4 v5 v6 := by kernel_rfl
theorem Jf7 (f : Nat) (k : Kont) : ∀ (n : Nat) (v0 : ByteArray) (v1 v2 : Bool) (v3 : List PV) (v4 : ByteArray) (v5 v6 : Int), Jl tau 0 WB (fun s k => ev tau JmF 0 0 G3 (Jb7 ) s k) n (Jd WB Jct [.sc (.string v0), .ro 99 v1 v2 v3, .sc (.string v4), .sc (.int .i64 v5), .sc (.int .i64 v6)] []) (Jo tau 0 Xc k) = Yh f (fun x0 => k (Ex.exit 0) (Jd Xc Jct [.sc (.string x0)] [])) n v0 v1 v2 v3 v4 v5 v6 | 0, _, _, _, _, _, _, _ => rfl | n + 1, v0, v1, v2, v3, v4, v5, v6 => (JmG f k n v0 v1 v2 v3 v4 v5 v6).trans (congrArg (fun r => Zq f r (fun x0 => k (Ex.exit 0) (Jd Xc Jct [.sc (.string x0)] [])) v0 v1 v2 v3 v4 v5 v6) (by funext v0 v1 v2 v3 v4 v5 v6; exact Jf7 f k n v0 v1 v2 v3 v4 v5 v6))
def Vw (f : Nat) : List PV -> List (Nat × Ent) -> Kont -> Option Res
 | [.sc (.string v0), .ro 99 v1 v2 v3, .sc (.string v4), .sc (.int .i64 v5),
 .sc (.int .i64 v6)], [], k => Yh f (fun x0 => k (Ex.exit 0) (Jd Xc Jct [.sc (.string x0)] [])) f v0 v1 v2 v3 v4 v5 v6
 | _, _, _ => none
theorem Jo8 (f : Nat) : Jf G3 Jb7 = [] := by kernel_rfl
theorem Jtl (f : Nat) : (Item.l G3 WB Jct (Vw f)).Ok tau Try.prog 0 := Jz Jp Jjx Jq (x := Jb7) (nm2 := Xc) (Jm _ _ (by rw [Jo8 f]; intro q hq; cases hq)) fun vs hp k res hr => by
 unfold Vw at hr
 split at hr
 · exact ⟨f, 0, (Jf7 f _ f _ _ _ _ _ _ _ ).trans hr⟩
 · cases hr
def Jtm (f : Nat) (doc : ByteArray) (o_z o_f : Bool) (o : List PV) (k : Res -> Option Res) : Option Res := bif aOk o then bif inO o != zi doc.size then k (Res.mk (.tup [.sc (.string (ByteArray.mk (Array.mk []))), .sc (.int .i64 7)]) [] []) else bif aOk o then bif decide (Jo7 o > 120) then k (Res.mk (.tup [.sc (.string (ByteArray.mk (Array.mk []))), .sc (.int .i64 5)]) [] []) else Yh f (fun x0_0 => k (Res.mk (.tup [.sc (.string x0_0), .sc (.int .i64 0)]) [] [])) f doc o_z o_f o (ByteArray.mk (Array.mk [])) (0) (0) else none else none
theorem JAs (f : Nat) (doc : ByteArray) (o_z o_f : Bool) (o : List PV) (k : Res -> Option Res) : JQ tau JmF Try.f118 (Try.f118.body.get!) (Jjy (Vw f)) [.ro, .ro] 0 [.sc (.string doc), .ro 99 o_z o_f o] [] k = Jtm f doc o_z o_f o k := by kernel_rfl
theorem JxB (f : Nat) : Jf (Try.f118.body.get!) (Jjy (Vw f)) = [.l G3 WB Jct (Vw f)] := by kernel_rfl
theorem JxC (f : Nat) : ∀ q ∈ Jf (Try.f118.body.get!) (Jjy (Vw f)), q.Ok tau Try.prog 0 := by
 rw [JxB f]; simp only [List.forall_mem_cons, List.not_mem_nil, false_implies, implies_true, and_true]; exact Jtl f
theorem Jq9 : Try.prog.funcs[118]? = some Try.f118 := by kernel_rfl
theorem Jra : Try.f118.body = some (Try.f118.body.get!) := by kernel_rfl
theorem JxD : Enters Try.prog 118 := enters_of Jq9 (by kernel_rfl) Jra
end
end Go.Proofs.Ytcklhipdldpkhaa.Rx
