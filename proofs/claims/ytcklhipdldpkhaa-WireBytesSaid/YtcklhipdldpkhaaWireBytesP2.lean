/- What the functions of this law compute, and their plain laws. Conditions: none. -/
import Derived.KernelRfl
import Derived.Test.YtcklhipdldpkhaaWireBytesP1
namespace Go.Proofs.Ytcklhipdldpkhaa.Rx
open Go
set_option linter.unusedVariables false
set_option maxRecDepth 100000
set_option maxHeartbeats 4000000
def fillM (g : Nat → Int) (t : List Int) (i : Nat) : List Int := (List.range i).map g ++ t.drop i
theorem fillM_zero (g : Nat → Int) (t : List Int) : fillM g t 0 = t := by simp [fillM]
theorem fillM_full (g : Nat → Int) (t : List Int) : fillM g t t.length = (List.range t.length).map g := by simp [fillM]
theorem fillM_length (g : Nat → Int) (t : List Int) (i : Nat) (h : i ≤ t.length) : (fillM g t i).length = t.length := by simp [fillM]; omega
theorem fillM_set (g : Nat → Int) (t : List Int) (i : Nat) (h : i < t.length) : (fillM g t i).set i (g i) = fillM g t (i + 1) := by
  rw [fillM, List.set_append_right _ _ (by simp), List.drop_eq_getElem_cons h, List.length_map, List.length_range, Nat.sub_self, List.set_cons_zero]
  simp [fillM, List.range_succ]
theorem fillM_get (g : Nat → Int) (t : List Int) (i : Nat) (h : i < t.length) : (fillM g t i).getD i 0 = t.getD i 0 := by
  simp only [fillM, List.getD_eq_getElem?_getD]
  rw [List.getElem?_append_right (by simp)]
  simp
def kks : List Int := [1116352408, 1899447441, 3049323471, 3921009573, 961987163, 1508970993, 2453635748, 2870763221, 3624381080, 310598401, 607225278, 1426881987, 1925078388, 2162078206, 2614888103, 3248222580, 3835390401, 4022224774, 264347078, 604807628, 770255983, 1249150122, 1555081692, 1996064986, 2554220882, 2821834349, 2952996808, 3210313671, 3336571891, 3584528711, 113926993, 338241895, 666307205, 773529912, 1294757372, 1396182291, 1695183700, 1986661051, 2177026350, 2456956037, 2730485921, 2820302411, 3259730800, 3345764771, 3516065817, 3600352804, 4094571909, 275423344, 430227734, 506948616, 659060556, 883997877, 958139571, 1322822218, 1537002063, 1747873779, 1955562222, 2024104815, 2227730452, 2361852424, 2428436474, 2756734187, 3204031479, 3329325298]
def iv : List Int := [1779033703, 3144134277, 1013904242, 2773480762, 1359893119, 2600822924, 528734635, 1541459225]
def xW (k w h e f g : Int) : Int := ww (ww (ww (ww (h + bitI .xor .u32 (bitI .xor .u32 (rr e 6) (rr e 11)) (rr e 25)) + bitI .xor .u32 (bitI .and .u32 e f) (bitI .and .u32 (bitI .xor .u32 (Int.ofNat (2 ^ IntKind.u32.bits - Nat.succ 0)) e) g)) + k) + w)
def yW (a b c : Int) : Int := ww (bitI .xor .u32 (bitI .xor .u32 (rr a 2) (rr a 13)) (rr a 22) + bitI .xor .u32 (bitI .xor .u32 (bitI .and .u32 a b) (bitI .and .u32 a c)) (bitI .and .u32 b c))
def rnd (k w : Int) (t : List Int) : List Int :=
  [ww (xW k w (t.getD 7 0) (t.getD 4 0) (t.getD 5 0) (t.getD 6 0) + yW (t.getD 0 0) (t.getD 1 0) (t.getD 2 0)), t.getD 0 0, t.getD 1 0, t.getD 2 0,
    ww (t.getD 3 0 + xW k w (t.getD 7 0) (t.getD 4 0) (t.getD 5 0) (t.getD 6 0)), t.getD 4 0, t.getD 5 0, t.getD 6 0]
def rnds (W s : List Int) : Nat → List Int
  | 0 => s
  | i + 1 => rnd (kks.getD i 0) (W.getD i 0) (rnds W s i)
theorem rnds_length (W s : List Int) (h : s.length = 8) : ∀ i, (rnds W s i).length = 8
  | 0 => h
  | i + 1 => rfl
def addP (s bs : List Int) : List Int := (List.range 8).map fun i => ww ((rnds (spreadP bs) s 64).getD i 0 + s.getD i 0)
theorem addP_length (s bs : List Int) : (addP s bs).length = 8 := by simp [addP]
def foldB (s b : List Int) : Nat → List Int
  | 0 => s
  | n + 1 => addP (foldB s b n) ((b.drop (64 * n)).take 64)
theorem foldB_length (s b : List Int) (h : s.length = 8) : ∀ n, (foldB s b n).length = 8
  | 0 => h
  | n + 1 => addP_length _ _
def zs (m : Nat) : Nat := (120 - m % 64) % 64
def lenB (n : Nat) : List Int := (List.range 8).map fun (i : Nat) => IntKind.u8.wrap (shrI .u64 (IntKind.u64.wrap (IntKind.u64.wrap (n : Int) * 8)) (56 - 8 * (i : Int)))
def padP (bs : List Int) : List Int := (bs ++ [128] ++ List.replicate (zs (bs.length + 1)) 0) ++ lenB bs.length
theorem padP_length (bs : List Int) : (padP bs).length = 64 * ((padP bs).length / 64) := by
  have : (padP bs).length = bs.length + 1 + zs (bs.length + 1) + 8 := by simp [padP, lenB]; omega
  rw [this]; unfold zs; omega
def outB (s : List Int) (i : Nat) : Int := IntKind.u8.wrap (shrI .u32 (s.getD (i / 4) 0) (24 - 8 * ((i % 4 : Nat) : Int)))
def outP (s : List Int) : List Int := (List.range 32).map (outB s)
def sumP0 (bs : List Int) : List Int := outP (foldB iv (padP bs) ((padP bs).length / 64))
def sumP (bs : List Int) : List Int := bif Nat.ble bs.length bs.length then sumP0 bs else []
theorem sumP_eq (bs : List Int) : sumP bs = sumP0 bs := by
  have : Nat.ble bs.length bs.length = true := by rw [Nat.ble_eq]; exact Nat.le_refl _
  rw [sumP, this]; rfl
theorem sumP_length (bs : List Int) : (sumP bs).length = 32 := by simp [sumP_eq, sumP0, outP]
theorem tmod64 (n : Nat) : (zi n).tmod 64 = ((n % 64 : Nat) : Int) := by
  show (n : Int).tmod 64 = _
  rw [Int.tmod_eq_emod_of_nonneg (by omega)]; omega
end Go.Proofs.Ytcklhipdldpkhaa.Rx

-- FN ref8.Hash
namespace Go.Proofs.Ytcklhipdldpkhaa.Rx
open Go
set_option linter.unusedVariables false
set_option linter.unusedSimpArgs false
set_option maxRecDepth 100000
set_option maxHeartbeats 1000000
def runB : Nat → RS → RS
  | 0, s => s
  | n + 1, s => runB n (stepS0 1 s)
def runH : Nat → RS → List Int
  | 0, _ => []
  | n + 1, s => IntKind.u8.wrap (numS0 1 s) :: runH n (stepS0 1 s)
def runT : Nat → RT → RT
  | 0, t => t
  | n + 1, t => runT n (stepT0 1 t)
noncomputable def hashS : RS → RS := hid (runB 32)
noncomputable def hashV : RS → List Int := hid (runH 32)
noncomputable def hashT : RT → RT := hid (runT 32)
noncomputable def hashVT : RT → List Int := hid fun t => runH 32 t.view
theorem hashS_eq (s : RS) : hashS s = runB 32 s := by rw [hashS, hid_eq]
theorem hashV_eq (s : RS) : hashV s = runH 32 s := by rw [hashV, hid_eq]
theorem hashT_eq (t : RT) : hashT t = runT 32 t := by rw [hashT, hid_eq]
theorem hashVT_eq (t : RT) : hashVT t = runH 32 t.view := by rw [hashVT, hid_eq]
theorem runH_length : ∀ (n : Nat) (s : RS), (runH n s).length = n
  | 0, _ => rfl
  | n + 1, s => by simp [runH, runH_length n]
@[simp] theorem hashV_length (s : RS) : (hashV s).length = 32 := by rw [hashV_eq]; exact runH_length 32 s
theorem runT_view : ∀ (n : Nat) (t : RT), (runT n t).view = runB n t.view
  | 0, _ => rfl
  | n + 1, t => by simp only [runT, runB, runT_view n, view_step]
@[simp] theorem hashT_view (t : RT) : (hashT t).view = hashS t.view := by rw [hashT_eq, hashS_eq, runT_view]
@[simp] theorem hashVT_val (t : RT) : hashVT t = hashV t.view := by rw [hashVT_eq, hashV_eq]
theorem okT_run : ∀ (n : Nat) {t : RT}, okT t = true → okT (runT n t) = true
  | 0, _, h => h
  | n + 1, t, h => okT_run n (okT_step h 1)
@[simp] theorem okT_hash {t : RT} (h : okT t = true) : okT (hashT t) = true := by rw [hashT_eq]; exact okT_run 32 h
theorem byB_run : ∀ (n : Nat) {s : RS}, byB s.b = true → byB (runB n s).b = true
  | 0, _, h => h
  | n + 1, s, h => byB_run n (byB_step h 1)
theorem l87_0 (f : Nat) (k0 : Bool → Bool → List PV → Int → Int → List PV → List PV → Option Res) (z fl : Bool) (h0 : List PV) : ∀ (d i n : Nat) (t : RT) (L : List Int), i + d = 32 → d < n → okT t = true → L.length = 32 →
    lp87_0 f k0 n (i : Int) z fl t.B t.P t.e h0 (pu .u8 L) = k0 z fl (runT d t).B (runT d t).P (runT d t).e h0 (pu .u8 (L.take i ++ runH d t.view))
  | 0, i, n + 1, t, L, h, hn, hk, hL => by
      obtain rfl : i = 32 := by omega
      simp only [lp87_0, lpS87_0, runT, runH, List.append_nil]
      rw [List.take_of_length_le (by omega)]
      exact bif_f (by decide)
  | d + 1, i, n + 1, t, L, h, hn, hk, hL => by
      have g1 : ((i : Int)).toNat = i := by omega
      have w1 : IntKind.i64.wrap ((i : Int) + 1) = ((i + 1 : Nat) : Int) := by rw [wrap_i64 (by omega) (by omega)]; omega
      simp only [lp87_0, lpS87_0, g1, w1, pu_set]
      refine (bif_t (by simp; omega)).trans ((bif_t hk).trans ((bif_t (by simp; omega)).trans ?_))
      have := l87_0 f k0 z fl h0 d (i + 1) n (stepT0 1 t) (L.set i (IntKind.u8.wrap (numT 1 t))) (by omega) (by omega) (okT_step hk 1) (by simpa using hL)
      rw [stepT_eq]
      refine this.trans ?_
      have hset : (L.set i (IntKind.u8.wrap (numT 1 t))).take (i + 1) = L.take i ++ [IntKind.u8.wrap (numT 1 t)] := by
        rw [List.take_add_one, List.take_set_of_le (Nat.le_refl i), List.getElem?_set_self (by omega)]; rfl
      rw [hset, view_step, numT_eq]
      simp only [runT, runH, List.append_assoc, List.cons_append, List.nil_append]
noncomputable def run87' : List PV → List Ent → (Res → Option Res) → Option Res
  | [.ptr 0 []], [.box false 138 (.st 138 [.ro 5 z f B, .sc (.int .i64 P), .sc (.int .i64 e)])], k =>
    bif okT ⟨B, P, e⟩ then k ⟨.ar 37 (pu .u8 (hashVT ⟨B, P, e⟩)), [rfP z f (hashT ⟨B, P, e⟩)], []⟩ else none
  | _, _, _ => none
noncomputable def s87' : Sig := { own := [], run := run87' }
theorem ok87' : CallOk tau Try.prog 87 s87' := CallOk.mk' fun xs es k res hl hr => by
  change run87' xs es k = some res at hr
  unfold run87' at hr
  split at hr
  · rename_i z f B P e
    obtain ⟨hc, hr⟩ := of_bif hr
    have hg : g87 40 z f B P e k = some res := by
      have h := l87_0 40 (fun x0_0 x1_0 x2_0 x3_0 x4_0 x5_0 x6_0 => k (Res.mk (.ar 37 x6_0) [.box false 138 (.st 138 [.ro 5 x0_0 x1_0 x2_0, .sc (.int .i64 x3_0), .sc (.int .i64 x4_0)])] [])) z f (pu .u8 (List.replicate 32 0)) 32 0 40 ⟨B, P, e⟩ (List.replicate 32 0) (by omega) (by omega) hc (by simp)
      rw [List.take_zero, List.nil_append] at h
      rw [hashVT_eq, hashT_eq] at hr
      exact Eq.trans h hr
    exact fn_at tabOk F87_ok mixed fo87 bo87 (an87 (r87_0 40)) [.ro] 1 0 (ia87 40) hl rfl ((e87 40 z f B P e k).trans hg)
  · cases hr
end Go.Proofs.Ytcklhipdldpkhaa.Rx

-- FN wire.read
namespace Go.Proofs.Ytcklhipdldpkhaa.Rx
open Go
set_option linter.unusedVariables false
set_option linter.unusedSimpArgs false
set_option maxRecDepth 100000
set_option maxHeartbeats 1000000
noncomputable def fS : Nat → RS → RS
  | 0, s => s
  | 1, s => stepS 1 s
  | n + 2, s => stepS 8 (fS (n + 1) s)
noncomputable def fld0 : Nat → RS → Int
  | 0, s => numS 1 s
  | n + 1, s => numS 8 (fS (n + 1) s)
def failS (c : Int) (s : RS) : RS := ⟨s.b, bif s.e == 0 then c else s.e⟩
noncomputable def txR : Nat → RS → RS
  | 0, s => s
  | n + 1, s => txR n (txtS s)
def bodyP (t : ByteArray) : PV := .ro 5 false false (ofBytes t)
noncomputable def txL : Nat → RS → List PV
  | 0, _ => []
  | n + 1, s => bodyP (txtV s) :: txL n (txtS s)
noncomputable def cntS (s : RS) : Int := numS 1 (fS 13 s)
noncomputable def msgN (s : RS) : Nat := bif decide (cntS s > 4) then 0 else (cntS s).toNat
noncomputable def msgS (s : RS) : RS := bif decide (cntS s > 4) then failS 4 (stepS 1 (fS 13 s)) else stepS 1 (fS 13 s)
noncomputable def fld : Nat → RS → Int := hid fld0
noncomputable def bodL : RS → List PV := hid fun s => txL (msgN s) (msgS s)
noncomputable def msgE : RS → RS := hid fun s => hashS (txR (msgN s) (msgS s))
noncomputable def msgH : RS → List Int := hid fun s => hashV (txR (msgN s) (msgS s))
theorem fld_eq (i : Nat) (s : RS) : fld i s = fld0 i s := by rw [fld, hid_eq]
theorem bodL_eq (s : RS) : bodL s = txL (msgN s) (msgS s) := by rw [bodL, hid_eq]
theorem msgE_eq (s : RS) : msgE s = hashS (txR (msgN s) (msgS s)) := by rw [msgE, hid_eq]
theorem msgH_eq (s : RS) : msgH s = hashV (txR (msgN s) (msgS s)) := by rw [msgH, hid_eq]
@[simp] theorem msgH_length (s : RS) : (msgH s).length = 32 := by rw [msgH_eq]; exact hashV_length _
theorem byS_step {s : RS} (h : byB s.b = true) (n : Nat) : byB (stepS n s).b = true := by rw [stepS_eq]; exact byB_step h n
theorem byS_txt {s : RS} (h : byB s.b = true) : byB (txtS s).b = true := by rw [txtS_eq]; exact byB_step (byB_step h 2) _
theorem byS_fS {s : RS} (h : byB s.b = true) : ∀ n, byB (fS n s).b = true
  | 0 => h
  | 1 => byS_step h 1
  | n + 2 => byS_step (byS_fS h (n + 1)) 8
theorem toBytes_len : ∀ l : List PV, (toBytes l).length = l.length
  | [] => rfl
  | p :: ps => by simp [toBytes, toBytes_len ps]
theorem txtV_size {s : RS} (h : byB s.b = true) : (txtV s).size ≤ 65535 := by
  rw [txtV_eq]
  show (toBytes _).length ≤ _
  rw [toBytes_len]
  have h1 := out_length (numS0 2 s).toNat (stepS0 2 s)
  have h2 := numS_small h (n := 2) (Nat.le_refl 2)
  omega
theorem ofBytes_len (t : ByteArray) : (ofBytes t).length = t.size := by simp only [ofBytes, List.length_map, Array.length_toList]; rfl
theorem cnt_bounds {s : RS} (h : byB s.b = true) : 0 ≤ cntS s := by
  rw [cntS, numS_eq]; exact (numS_small (byS_fS h 13) (n := 1) (by omega)).1
theorem l77_1 (f : Nat) (k0 : Bool → Bool → List PV → Int → Int → Int → Int → Int → Int → Int → Int → Int → Int → Int → Int → Int → Int → Nat → List PV → Bool → List PV → Option Res) (z fl : Bool) (hz : (!z || fl) = true) (N : Nat) (hN : N ≤ 4) (x6 x7 x8 x9 x10 x11 x12 x13 x14 x15 x16 x17 x18 : Int) (A : List PV) : ∀ (d i n : Nat) (s : RS) (nl : Bool) (L : List PV), i + d = N → d < n → byB s.b = true → L.length = i →
    lp77_1 f k0 n (N : Int) (i : Int) z fl s.b s.e x6 x7 x8 x9 x10 x11 x12 x13 x14 x15 x16 x17 x18 i A nl L = k0 z fl (txR d s).b (txR d s).e x6 x7 x8 x9 x10 x11 x12 x13 x14 x15 x16 x17 x18 N A (nl && (txL d s).isEmpty) (L ++ txL d s)
  | 0, i, n + 1, s, nl, L, h, hn, hb, hL => by
      obtain rfl : i = N := by omega
      simp only [lp77_1, lpS77_1, txR, txL, List.append_nil, List.isEmpty_nil, Bool.and_true]
      exact bif_f (by simp)
  | d + 1, i, n + 1, s, nl, L, h, hn, hb, hL => by
      have w : IntKind.i64.wrap ((i : Int) + 1) = ((i + 1 : Nat) : Int) := by rw [wrap_i64 (by omega) (by omega)]; omega
      have hs := txtV_size hb
      have ht : List.take (txtV s).size (ofBytes (txtV s)) = ofBytes (txtV s) := List.take_of_length_le (by rw [ofBytes_len]; exact Nat.le_refl _)
      have hm : RS.mk s.b s.e = s := rfl
      simp only [lp77_1, lpS77_1, w, hm, ht]
      rw [List.take_of_length_le (show L.length ≤ i by omega)]
      refine (bif_t (by simp; omega)).trans ((bif_t (by rw [hb, Bool.and_true]; exact hz)).trans ((bif_t (by simp [roomy]; omega)).trans ((bif_t (by simp [roomy]; omega)).trans ?_)))
      have := l77_1 f k0 z fl hz N hN x6 x7 x8 x9 x10 x11 x12 x13 x14 x15 x16 x17 x18 A d (i + 1) n (txtS s) (nl && false) (L ++ [bodyP (txtV s)]) (by omega) (by omega) (byS_txt hb) (by simp [hL])
      refine Eq.trans this ?_
      simp only [txR, txL, Bool.and_false, Bool.false_and, List.isEmpty_cons, List.append_assoc, List.cons_append, List.nil_append]
theorem l77_2 (f : Nat) (k0 : Bool → Bool → List PV → Int → Int → Int → Int → Int → Int → Int → Int → Int → Int → Int → Int → Int → Int → Bool → Bool → List PV → List PV → Option Res) (z fl : Bool) (hz : (!z || fl) = true) (x5 x6 x7 x8 x9 x10 x11 x12 x13 x14 x15 x16 x17 : Int) (z1 z2 : Bool) (B : List PV) : ∀ (d i n : Nat) (s : RS) (L : List Int), i + d = 32 → d < n → byB s.b = true → L.length = 32 →
    lp77_2 f k0 n (i : Int) z fl s.b s.e x5 x6 x7 x8 x9 x10 x11 x12 x13 x14 x15 x16 x17 z1 z2 B (pu .u8 L) = k0 z fl (runB d s).b (runB d s).e x5 x6 x7 x8 x9 x10 x11 x12 x13 x14 x15 x16 x17 z1 z2 B (pu .u8 (L.take i ++ runH d s))
  | 0, i, n + 1, s, L, h, hn, hb, hL => by
      obtain rfl : i = 32 := by omega
      simp only [lp77_2, lpS77_2, runB, runH, List.append_nil]
      rw [List.take_of_length_le (by omega)]
      exact bif_f (by decide)
  | d + 1, i, n + 1, s, L, h, hn, hb, hL => by
      have g1 : ((i : Int)).toNat = i := by omega
      have w1 : IntKind.i64.wrap ((i : Int) + 1) = ((i + 1 : Nat) : Int) := by rw [wrap_i64 (by omega) (by omega)]; omega
      have hm : RS.mk s.b s.e = s := rfl
      simp only [lp77_2, lpS77_2, g1, w1, hm, pu_set]
      refine (bif_t (by simp; omega)).trans ((bif_t (by rw [hb, hz]; rfl)).trans ((bif_t (by simp; omega)).trans ?_))
      have := l77_2 f k0 z fl hz x5 x6 x7 x8 x9 x10 x11 x12 x13 x14 x15 x16 x17 z1 z2 B d (i + 1) n (stepS0 1 s) (L.set i (IntKind.u8.wrap (numS 1 s))) (by omega) (by omega) (byB_step hb 1) (by simpa using hL)
      rw [stepS_eq]
      refine Eq.trans this ?_
      have hset : (L.set i (IntKind.u8.wrap (numS 1 s))).take (i + 1) = L.take i ++ [IntKind.u8.wrap (numS 1 s)] := by
        rw [List.take_add_one, List.take_set_of_le (Nat.le_refl i), List.getElem?_set_self (by omega)]; rfl
      rw [hset, numS_eq]
      simp only [runB, runH, List.append_assoc, List.cons_append, List.nil_append]
noncomputable def msgP (s : RS) : PV := .st 54 [.sc (.int .i64 (fld 0 s)), .sc (.int .i64 (fld 1 s)), .sc (.int .i64 (fld 2 s)), .st 34 [.sc (.int .i64 (fld 3 s)), .sc (.int .i64 (fld 4 s))], .st 45 [.sc (.int .i64 (fld 5 s)), .sc (.int .i64 (fld 6 s))], .sc (.int .i64 (fld 7 s)), .sc (.int .i64 (fld 8 s)), .st 45 [.sc (.int .i64 (fld 9 s)), .sc (.int .i64 (fld 10 s))], .sc (.int .i64 (fld 11 s)), .sc (.int .i64 (fld 12 s)), .ro 29 (bodL s).isEmpty (bodL s).isEmpty (bodL s)]
noncomputable def run77' : List PV → List Ent → (Res → Option Res) → Option Res
  | [.ptr 0 []], [.box false 186 (.st 186 [.ro 5 z f b, .sc (.int .i64 e)])], k =>
    bif (!z || f) && byB b then k ⟨.tup [msgP ⟨b, e⟩, .ar 37 (pu .u8 (msgH ⟨b, e⟩))], [rdP z f (msgE ⟨b, e⟩)], []⟩ else none
  | _, _, _ => none
noncomputable def s77' : Sig := { own := [], run := run77' }
theorem g77_eq (z f : Bool) (b : List PV) (e : Int) (hz : (!z || f) = true) (hb : byB b = true) (k : Res → Option Res) :
    g77 40 z f b e k = k ⟨.tup [msgP ⟨b, e⟩, .ar 37 (pu .u8 (msgH ⟨b, e⟩))], [rdP z f (msgE ⟨b, e⟩)], []⟩ := by
  have hfs := byS_fS (s := ⟨b, e⟩) hb
  have c : ∀ n, ((!z || f) && true && byB (fS n ⟨b, e⟩).b) = true := fun n => by rw [hz, hfs n]; rfl
  have hb14 : byB (stepS 1 (fS 13 ⟨b, e⟩)).b = true := byS_step (hfs 13) 1
  have hcnt := cnt_bounds (s := ⟨b, e⟩) hb
  -- what is behind the count
  have tail : ∀ (N : Nat) (s : RS), N ≤ 4 → byB s.b = true → msgN ⟨b, e⟩ = N → msgS ⟨b, e⟩ = s →
      lp77_1 40 (fun x0_0 x1_0 x2_0 x3_0 x4_0 x5_0 x6_0 x7_0 x8_0 x9_0 x10_0 x11_0 x12_0 x13_0 x14_0 x15_0 x16_0 x17_0 x18_0 x19_0 x20_0 =>
        bif slB (Ent.vec false 29 x19_0 x20_0).nil (List.take x17_0 (List.drop 0 x20_0)) then
          lp77_2 40 (fun x0_1 x1_1 x2_1 x3_1 x4_1 x5_1 x6_1 x7_1 x8_1 x9_1 x10_1 x11_1 x12_1 x13_1 x14_1 x15_1 x16_1 x17_1 x18_1 x19_1 x20_1 =>
            k (Res.mk (.tup [.st 54 [.sc (.int .i64 x4_1), .sc (.int .i64 x5_1), .sc (.int .i64 x6_1), .st 34 [.sc (.int .i64 x7_1), .sc (.int .i64 x8_1)], .st 45 [.sc (.int .i64 x9_1), .sc (.int .i64 x10_1)], .sc (.int .i64 x11_1), .sc (.int .i64 x12_1), .st 45 [.sc (.int .i64 x13_1), .sc (.int .i64 x14_1)], .sc (.int .i64 x15_1), .sc (.int .i64 x16_1), .ro 29 x17_1 x18_1 x19_1], .ar 37 x20_1]) [.box false 186 (.st 186 [.ro 5 x0_1 x1_1 x2_1, .sc (.int .i64 x3_1)])] [])) 40 0 x0_0 x1_0 x2_0 x3_0 x4_0 x5_0 x6_0 x7_0 x8_0 x9_0 x10_0 x11_0 x12_0 x13_0 x14_0 x15_0 x16_0 ((Ent.vec false 29 x19_0 x20_0).nil) ((Ent.vec false 29 x19_0 x20_0).nil) (List.take x17_0 x20_0) x18_0
        else none) 40 (N : Int) 0 z f s.b s.e (fld0 0 ⟨b, e⟩) (fld0 1 ⟨b, e⟩) (fld0 2 ⟨b, e⟩) (fld0 3 ⟨b, e⟩) (fld0 4 ⟨b, e⟩) (fld0 5 ⟨b, e⟩) (fld0 6 ⟨b, e⟩) (fld0 7 ⟨b, e⟩) (fld0 8 ⟨b, e⟩) (fld0 9 ⟨b, e⟩) (fld0 10 ⟨b, e⟩) (fld0 11 ⟨b, e⟩) (fld0 12 ⟨b, e⟩) 0 (pu .u8 (List.replicate 32 0)) true []
      = k ⟨.tup [msgP ⟨b, e⟩, .ar 37 (pu .u8 (msgH ⟨b, e⟩))], [rdP z f (msgE ⟨b, e⟩)], []⟩ := by
    intro N s hN hbs h1 h2
    have q := l77_1 40 (fun x0_0 x1_0 x2_0 x3_0 x4_0 x5_0 x6_0 x7_0 x8_0 x9_0 x10_0 x11_0 x12_0 x13_0 x14_0 x15_0 x16_0 x17_0 x18_0 x19_0 x20_0 =>
        bif slB (Ent.vec false 29 x19_0 x20_0).nil (List.take x17_0 (List.drop 0 x20_0)) then
          lp77_2 40 (fun x0_1 x1_1 x2_1 x3_1 x4_1 x5_1 x6_1 x7_1 x8_1 x9_1 x10_1 x11_1 x12_1 x13_1 x14_1 x15_1 x16_1 x17_1 x18_1 x19_1 x20_1 =>
            k (Res.mk (.tup [.st 54 [.sc (.int .i64 x4_1), .sc (.int .i64 x5_1), .sc (.int .i64 x6_1), .st 34 [.sc (.int .i64 x7_1), .sc (.int .i64 x8_1)], .st 45 [.sc (.int .i64 x9_1), .sc (.int .i64 x10_1)], .sc (.int .i64 x11_1), .sc (.int .i64 x12_1), .st 45 [.sc (.int .i64 x13_1), .sc (.int .i64 x14_1)], .sc (.int .i64 x15_1), .sc (.int .i64 x16_1), .ro 29 x17_1 x18_1 x19_1], .ar 37 x20_1]) [.box false 186 (.st 186 [.ro 5 x0_1 x1_1 x2_1, .sc (.int .i64 x3_1)])] [])) 40 0 x0_0 x1_0 x2_0 x3_0 x4_0 x5_0 x6_0 x7_0 x8_0 x9_0 x10_0 x11_0 x12_0 x13_0 x14_0 x15_0 x16_0 ((Ent.vec false 29 x19_0 x20_0).nil) ((Ent.vec false 29 x19_0 x20_0).nil) (List.take x17_0 x20_0) x18_0
        else none) z f hz N hN (fld0 0 ⟨b, e⟩) (fld0 1 ⟨b, e⟩) (fld0 2 ⟨b, e⟩) (fld0 3 ⟨b, e⟩) (fld0 4 ⟨b, e⟩) (fld0 5 ⟨b, e⟩) (fld0 6 ⟨b, e⟩) (fld0 7 ⟨b, e⟩) (fld0 8 ⟨b, e⟩) (fld0 9 ⟨b, e⟩) (fld0 10 ⟨b, e⟩) (fld0 11 ⟨b, e⟩) (fld0 12 ⟨b, e⟩) (pu .u8 (List.replicate 32 0)) N 0 40 s true [] (by omega) (by omega) hbs rfl
    refine Eq.trans q ?_
    have tl : ∀ (d : Nat) (s : RS), (txL d s).length = d := by
      intro d
      induction d with
      | zero => intro s; rfl
      | succ d ih => intro s; simp [txL, ih]
    have hbt : ∀ (d : Nat) (s : RS), byB s.b = true → byB (txR d s).b = true := by
      intro d
      induction d with
      | zero => intro s h; exact h
      | succ d ih => intro s h; exact ih _ (byS_txt h)
    have hnl : (Ent.vec false 29 (true && (txL N s).isEmpty) ([] ++ txL N s)).nil = (txL N s).isEmpty := by simp [Ent.nil]
    have htk : List.take N ([] ++ txL N s) = txL N s := by rw [List.nil_append]; exact List.take_of_length_le (by rw [tl]; exact Nat.le_refl _)
    simp only [hnl, htk, List.drop_zero]
    refine (bif_t (slB_iff.2 ⟨fun h => List.isEmpty_iff.1 h, by rw [tl]; omega⟩)).trans ?_
    have q2 := l77_2 40 (fun x0_1 x1_1 x2_1 x3_1 x4_1 x5_1 x6_1 x7_1 x8_1 x9_1 x10_1 x11_1 x12_1 x13_1 x14_1 x15_1 x16_1 x17_1 x18_1 x19_1 x20_1 =>
            k (Res.mk (.tup [.st 54 [.sc (.int .i64 x4_1), .sc (.int .i64 x5_1), .sc (.int .i64 x6_1), .st 34 [.sc (.int .i64 x7_1), .sc (.int .i64 x8_1)], .st 45 [.sc (.int .i64 x9_1), .sc (.int .i64 x10_1)], .sc (.int .i64 x11_1), .sc (.int .i64 x12_1), .st 45 [.sc (.int .i64 x13_1), .sc (.int .i64 x14_1)], .sc (.int .i64 x15_1), .sc (.int .i64 x16_1), .ro 29 x17_1 x18_1 x19_1], .ar 37 x20_1]) [.box false 186 (.st 186 [.ro 5 x0_1 x1_1 x2_1, .sc (.int .i64 x3_1)])] [])) z f hz (fld0 0 ⟨b, e⟩) (fld0 1 ⟨b, e⟩) (fld0 2 ⟨b, e⟩) (fld0 3 ⟨b, e⟩) (fld0 4 ⟨b, e⟩) (fld0 5 ⟨b, e⟩) (fld0 6 ⟨b, e⟩) (fld0 7 ⟨b, e⟩) (fld0 8 ⟨b, e⟩) (fld0 9 ⟨b, e⟩) (fld0 10 ⟨b, e⟩) (fld0 11 ⟨b, e⟩) (fld0 12 ⟨b, e⟩) (txL N s).isEmpty (txL N s).isEmpty (txL N s) 32 0 40 (txR N s) (List.replicate 32 0) (by omega) (by omega) (hbt N s hbs) (by simp)
    refine Eq.trans q2 ?_
    simp only [msgP, fld_eq, bodL_eq, msgE_eq, msgH_eq, h1, h2, hashS_eq, hashV_eq, List.take_zero, List.nil_append, rdP]
  unfold g77
  refine (bif_t (c 0)).trans ((bif_t (c 1)).trans ((bif_t (c 2)).trans ((bif_t (c 3)).trans ((bif_t (c 4)).trans ((bif_t (c 5)).trans ((bif_t (c 6)).trans ((bif_t (c 7)).trans ((bif_t (c 8)).trans ((bif_t (c 9)).trans ((bif_t (c 10)).trans ((bif_t (c 11)).trans ((bif_t (c 12)).trans ((bif_t (c 13)).trans ?_)))))))))))))
  have hcs : ∀ b', decide (cntS ⟨b, e⟩ > 4) = b' → decide (numS 1 (fS 13 ⟨b, e⟩) > 4) = b' := fun b' h => h
  cases h4 : decide (cntS ⟨b, e⟩ > 4) with
  | true =>
    have hN : msgN ⟨b, e⟩ = 0 := by unfold msgN; rw [h4]; rfl
    have hS : msgS ⟨b, e⟩ = failS 4 (stepS 1 (fS 13 ⟨b, e⟩)) := by unfold msgS; rw [h4]; rfl
    have t := tail 0 _ (by omega) (by rw [hS]; exact hb14) hN rfl
    rw [hS] at t
    refine (bif_t (hcs _ h4)).trans ?_
    cases he : ((stepS 1 (fS 13 ⟨b, e⟩)).e == 0) with
    | true =>
      refine (bif_t he).trans ?_
      have : failS 4 (stepS 1 (fS 13 ⟨b, e⟩)) = ⟨(stepS 1 (fS 13 ⟨b, e⟩)).b, 4⟩ := by unfold failS; rw [he]; rfl
      rw [this] at t
      exact t
    | false =>
      refine (bif_f he).trans ?_
      have : failS 4 (stepS 1 (fS 13 ⟨b, e⟩)) = ⟨(stepS 1 (fS 13 ⟨b, e⟩)).b, (stepS 1 (fS 13 ⟨b, e⟩)).e⟩ := by unfold failS; rw [he]; rfl
      rw [this] at t
      exact t
  | false =>
    have hN : msgN ⟨b, e⟩ = (cntS ⟨b, e⟩).toNat := by unfold msgN; rw [h4]; rfl
    have hS : msgS ⟨b, e⟩ = stepS 1 (fS 13 ⟨b, e⟩) := by unfold msgS; rw [h4]; rfl
    have h4' : ¬ cntS ⟨b, e⟩ > 4 := by simpa using h4
    have t := tail (cntS ⟨b, e⟩).toNat _ (by omega) hb14 hN hS
    rw [Int.toNat_of_nonneg hcnt] at t
    exact (bif_f (hcs _ h4)).trans t
theorem ok77' : CallOk tau Try.prog 77 s77' := CallOk.mk' fun xs es k res hl hr => by
  change run77' xs es k = some res at hr
  unfold run77' at hr
  split at hr
  · rename_i z f b e
    obtain ⟨hc, hr⟩ := of_bif hr
    rw [Bool.and_eq_true] at hc
    have hg := (g77_eq z f b e hc.1 hc.2 k).trans hr
    exact fn_at tabOk F77_ok mixed fo77 bo77 (an77 (r77_1 40) (r77_2 40)) [.ro, .ro] 1 13 (ia77 40) hl rfl ((e77 40 z f b e k).trans hg)
  · cases hr
end Go.Proofs.Ytcklhipdldpkhaa.Rx

namespace Go.Proofs.Ytcklhipdldpkhaa.Rx
open Go
set_option linter.unusedVariables false
set_option maxRecDepth 100000
set_option maxHeartbeats 0
noncomputable def F78 : Fns := F0
theorem F78_ok : FnsOk tau Try.prog F78 := F0_ok
def an78 : An := (.seq .leaf (.seq (.seq .leaf (.cond (.seq .leaf .leaf) .leaf)) (.seq .leaf .leaf)))
noncomputable def g78 (f : Nat) (r_b_z : Bool) (r_b_f : Bool) (r_b : List PV) (r_e : Int) (k : Res → Option Res) : Option Res := bif r_e == 0 then bif decide (zi r_b.length > 0) then k (Res.mk (.sc (.int .i64 9)) [.box false 186 (PV.st 186 [.ro 5 r_b_z r_b_f r_b, .sc (.int .i64 r_e)])] []) else k (Res.mk (.sc (.int .i64 r_e)) [.box false 186 (PV.st 186 [.ro 5 r_b_z r_b_f r_b, .sc (.int .i64 r_e)])] []) else k (Res.mk (.sc (.int .i64 r_e)) [.box false 186 (PV.st 186 [.ro 5 r_b_z r_b_f r_b, .sc (.int .i64 r_e)])] [])
theorem e78 (f : Nat) (r_b_z : Bool) (r_b_f : Bool) (r_b : List PV) (r_e : Int) (k : Res → Option Res) : evFn tau F78 Try.f78 (Try.f78.body.get!) an78 [.ro] 0 [.ptr 0 []] [.box false 186 (.st 186 [.ro 5 r_b_z r_b_f r_b, .sc (.int .i64 r_e)])] k = g78 f r_b_z r_b_f r_b r_e k := by kernel_rfl
theorem it78 (f : Nat) : items (Try.f78.body.get!) an78 = [] := by kernel_rfl
theorem ia78 (f : Nat) : ∀ q ∈ items (Try.f78.body.get!) an78, q.Ok tau Try.prog 1 := by
  rw [it78 f]; intro q hq; cases hq
theorem fo78 : Try.prog.funcs[78]? = some Try.f78 := by kernel_rfl
theorem bo78 : Try.f78.body = some (Try.f78.body.get!) := by kernel_rfl
theorem en78 : Enters Try.prog 78 := enters_of fo78 (by kernel_rfl) bo78
noncomputable def run78 : List PV → List Ent → (Res → Option Res) → Option Res
  | [.ptr 0 []], [.box false 186 (.st 186 [.ro 5 r_b_z r_b_f r_b, .sc (.int .i64 r_e)])], k => g78 0 r_b_z r_b_f r_b r_e k
  | _, _, _ => none
noncomputable def s78 : Sig := { own := [], run := run78 }
theorem ok78 : CallOk tau Try.prog 78 s78 := fn_ok tabOk F78_ok mixed fo78 bo78 an78 [.ro] 1 [] run78 (ia78 0) fun xs es k res hr => by
  unfold run78 at hr
  split at hr
  · exact ⟨rfl, 0, (e78 0 _ _ _ _  _).trans hr⟩
  · cases hr
end Go.Proofs.Ytcklhipdldpkhaa.Rx

namespace Go.Proofs.Ytcklhipdldpkhaa.Rx
open Go
set_option linter.unusedVariables false
set_option maxRecDepth 100000
set_option maxHeartbeats 0
noncomputable def F137 : Fns := F0
theorem F137_ok : FnsOk tau Try.prog F137 := F0_ok
def an137 : An := (.seq .leaf (.seq .leaf .leaf))
noncomputable def g137 (f : Nat) (n : Int) (most : Int) (k : Res → Option Res) : Option Res := bif decide (n ≥ 0) then k (Res.mk (.sc (.bool (decide (n ≤ most)))) [] []) else k (Res.mk (.sc (.bool false)) [] [])
theorem e137 (f : Nat) (n : Int) (most : Int) (k : Res → Option Res) : evFn tau F137 Try.f137 (Try.f137.body.get!) an137 [.ro] 0 [.sc (.int .i64 n), .sc (.int .i64 most)] [] k = g137 f n most k := by kernel_rfl
theorem it137 (f : Nat) : items (Try.f137.body.get!) an137 = [] := by kernel_rfl
theorem ia137 (f : Nat) : ∀ q ∈ items (Try.f137.body.get!) an137, q.Ok tau Try.prog 0 := by
  rw [it137 f]; intro q hq; cases hq
theorem fo137 : Try.prog.funcs[137]? = some Try.f137 := by kernel_rfl
theorem bo137 : Try.f137.body = some (Try.f137.body.get!) := by kernel_rfl
theorem en137 : Enters Try.prog 137 := enters_of fo137 (by kernel_rfl) bo137
noncomputable def run137 : List PV → List Ent → (Res → Option Res) → Option Res
  | [.sc (.int .i64 n), .sc (.int .i64 most)], [], k => g137 0 n most k
  | _, _, _ => none
noncomputable def s137 : Sig := { own := [], run := run137 }
theorem ok137 : CallOk tau Try.prog 137 s137 := fn_ok tabOk F137_ok mixed fo137 bo137 an137 [.ro] 0 [] run137 (ia137 0) fun xs es k res hr => by
  unfold run137 at hr
  split at hr
  · exact ⟨rfl, 0, (e137 0 _ _  _).trans hr⟩
  · cases hr
end Go.Proofs.Ytcklhipdldpkhaa.Rx

namespace Go.Proofs.Ytcklhipdldpkhaa.Rx
open Go
set_option linter.unusedVariables false
set_option maxRecDepth 100000
set_option maxHeartbeats 0
noncomputable def F138 : Fns := addF 137 s137 (F0)
theorem F138_ok : FnsOk tau Try.prog F138 := (F0_ok).add ok137 en137
def an138 : An := (.seq .leaf (.seq .leaf .leaf))
noncomputable def g138 (f : Nat) (d : Int) (k : Res → Option Res) : Option Res := bif decide (d ≥ 0) then k (Res.mk (.sc (.bool (decide (d ≤ 2)))) [] []) else k (Res.mk (.sc (.bool false)) [] [])
theorem e138 (f : Nat) (d : Int) (k : Res → Option Res) : evFn tau F138 Try.f138 (Try.f138.body.get!) an138 [.ro] 0 [.sc (.int .i64 d)] [] k = g138 f d k := by kernel_rfl
theorem it138 (f : Nat) : items (Try.f138.body.get!) an138 = [] := by kernel_rfl
theorem ia138 (f : Nat) : ∀ q ∈ items (Try.f138.body.get!) an138, q.Ok tau Try.prog 0 := by
  rw [it138 f]; intro q hq; cases hq
theorem fo138 : Try.prog.funcs[138]? = some Try.f138 := by kernel_rfl
theorem bo138 : Try.f138.body = some (Try.f138.body.get!) := by kernel_rfl
theorem en138 : Enters Try.prog 138 := enters_of fo138 (by kernel_rfl) bo138
noncomputable def run138 : List PV → List Ent → (Res → Option Res) → Option Res
  | [.sc (.int .i64 d)], [], k => g138 0 d k
  | _, _, _ => none
noncomputable def s138 : Sig := { own := [], run := run138 }
theorem ok138 : CallOk tau Try.prog 138 s138 := fn_ok tabOk F138_ok mixed fo138 bo138 an138 [.ro] 0 [] run138 (ia138 0) fun xs es k res hr => by
  unfold run138 at hr
  split at hr
  · exact ⟨rfl, 0, (e138 0 _  _).trans hr⟩
  · cases hr
end Go.Proofs.Ytcklhipdldpkhaa.Rx

namespace Go.Proofs.Ytcklhipdldpkhaa.Rx
open Go
set_option linter.unusedVariables false
set_option maxRecDepth 100000
set_option maxHeartbeats 0
noncomputable def F139 : Fns := addF 138 s138 (addF 137 s137 (F0))
theorem F139_ok : FnsOk tau Try.prog F139 := ((F0_ok).add ok137 en137).add ok138 en138
def an139 : An := (.seq .leaf (.seq .leaf .leaf))
noncomputable def g139 (f : Nat) (a_D : Int) (a_U : Int) (k : Res → Option Res) : Option Res := bif decide (a_D ≥ 0) then bif decide (a_D ≤ 2) then bif decide (a_U ≥ 0) then k (Res.mk (.sc (.bool (decide (a_U ≤ 7)))) [] []) else k (Res.mk (.sc (.bool false)) [] []) else k (Res.mk (.sc (.bool false)) [] []) else k (Res.mk (.sc (.bool false)) [] [])
theorem e139 (f : Nat) (a_D : Int) (a_U : Int) (k : Res → Option Res) : evFn tau F139 Try.f139 (Try.f139.body.get!) an139 [.ro] 0 [.st 45 [.sc (.int .i64 a_D), .sc (.int .i64 a_U)]] [] k = g139 f a_D a_U k := by kernel_rfl
theorem it139 (f : Nat) : items (Try.f139.body.get!) an139 = [] := by kernel_rfl
theorem ia139 (f : Nat) : ∀ q ∈ items (Try.f139.body.get!) an139, q.Ok tau Try.prog 0 := by
  rw [it139 f]; intro q hq; cases hq
theorem fo139 : Try.prog.funcs[139]? = some Try.f139 := by kernel_rfl
theorem bo139 : Try.f139.body = some (Try.f139.body.get!) := by kernel_rfl
theorem en139 : Enters Try.prog 139 := enters_of fo139 (by kernel_rfl) bo139
noncomputable def run139 : List PV → List Ent → (Res → Option Res) → Option Res
  | [.st 45 [.sc (.int .i64 a_D), .sc (.int .i64 a_U)]], [], k => g139 0 a_D a_U k
  | _, _, _ => none
noncomputable def s139 : Sig := { own := [], run := run139 }
theorem ok139 : CallOk tau Try.prog 139 s139 := fn_ok tabOk F139_ok mixed fo139 bo139 an139 [.ro] 0 [] run139 (ia139 0) fun xs es k res hr => by
  unfold run139 at hr
  split at hr
  · exact ⟨rfl, 0, (e139 0 _ _  _).trans hr⟩
  · cases hr
end Go.Proofs.Ytcklhipdldpkhaa.Rx

namespace Go.Proofs.Ytcklhipdldpkhaa.Rx
open Go
set_option linter.unusedVariables false
set_option maxRecDepth 100000
set_option maxHeartbeats 0
def N79 : Nat := 75
noncomputable def F79 : Fns := addF 139 s139 (addF 138 s138 (addF 137 s137 (F0)))
theorem F79_ok : FnsOk tau Try.prog F79 := (((F0_ok).add ok137 en137).add ok138 en138).add ok139 en139
noncomputable def c79_0 : Code := subC (Try.f79.body.get!) [1, 0]
def nm79_0 : Nm := [(1, .any)]
def nx79_0 : Nm := [(2, .any)]
def x79_0 : An := (.seq (.block none (.seq .leaf (.cond (.seq .leaf .leaf) (.seq .leaf (.cond .leaf (.seq .leaf (.cond .leaf (.seq .leaf (.cond .leaf .leaf))))))))) (.seq (.seq .leaf .leaf) (.seq .leaf (.seq .leaf .leaf))))
def an79 (r0 : RunS) : An := (.seq .leaf (.ssum nm79_0 N79 (x79_0) r0))
noncomputable def lpS79_0 (f : Nat) (rc : Int → Int → Int → Int → Int → Int → Int → Int → Int → Int → Int → Int → Int → Bool → Bool → List PV → Option Res) (k0 : Int → Option Res) (v0 : Int) (v1 : Int) (v2 : Int) (v3 : Int) (v4 : Int) (v5 : Int) (v6 : Int) (v7 : Int) (v8 : Int) (v9 : Int) (v10 : Int) (v11 : Int) (v12 : Int) (v13 : Bool) (v14 : Bool) (v15 : List PV) : Option Res := k0 (1)
noncomputable def lp79_0 (f : Nat) (k0 : Int → Option Res) : Nat → Int → Int → Int → Int → Int → Int → Int → Int → Int → Int → Int → Int → Int → Bool → Bool → List PV → Option Res
  | 0, _, _, _, _, _, _, _, _, _, _, _, _, _, _, _, _ => none
  | n + 1, v0, v1, v2, v3, v4, v5, v6, v7, v8, v9, v10, v11, v12, v13, v14, v15 => lpS79_0 f (lp79_0 f k0 n) k0 v0 v1 v2 v3 v4 v5 v6 v7 v8 v9 v10 v11 v12 v13 v14 v15
theorem lpR79_0 (f : Nat) (k : Kont) (n : Nat) (v0 : Int) (v1 : Int) (v2 : Int) (v3 : Int) (v4 : Int) (v5 : Int) (v6 : Int) (v7 : Int) (v8 : Int) (v9 : Int) (v10 : Int) (v11 : Int) (v12 : Int) (v13 : Bool) (v14 : Bool) (v15 : List PV) : evScope tau 0 nm79_0 (hasLabel c79_0) (fun l s k => evFrom tau F79 0 0 c79_0 (x79_0 ) l s k) (n + 1) 0 (fillS nm79_0 N79 [.ptr 1216 []] [(1216, .box false 54 (PV.st 54 [.sc (.int .i64 v0), .sc (.int .i64 v1), .sc (.int .i64 v2), .st 34 [.sc (.int .i64 v3), .sc (.int .i64 v4)], .st 45 [.sc (.int .i64 v5), .sc (.int .i64 v6)], .sc (.int .i64 v7), .sc (.int .i64 v8), .st 45 [.sc (.int .i64 v9), .sc (.int .i64 v10)], .sc (.int .i64 v11), .sc (.int .i64 v12), .ro 29 v13 v14 v15]))]) (kNorm tau 0 nx79_0 k) = lpS79_0 f (fun v0 v1 v2 v3 v4 v5 v6 v7 v8 v9 v10 v11 v12 v13 v14 v15 => evScope tau 0 nm79_0 (hasLabel c79_0) (fun l s k => evFrom tau F79 0 0 c79_0 (x79_0 ) l s k) n 0 (fillS nm79_0 N79 [.ptr 1216 []] [(1216, .box false 54 (PV.st 54 [.sc (.int .i64 v0), .sc (.int .i64 v1), .sc (.int .i64 v2), .st 34 [.sc (.int .i64 v3), .sc (.int .i64 v4)], .st 45 [.sc (.int .i64 v5), .sc (.int .i64 v6)], .sc (.int .i64 v7), .sc (.int .i64 v8), .st 45 [.sc (.int .i64 v9), .sc (.int .i64 v10)], .sc (.int .i64 v11), .sc (.int .i64 v12), .ro 29 v13 v14 v15]))]) (kNorm tau 0 nx79_0 k)) (fun x0 => k Ex.ret (fillS nx79_0 N79 [.sc (.int .i64 x0)] [])) v0 v1 v2 v3 v4 v5 v6 v7 v8 v9 v10 v11 v12 v13 v14 v15 := by kernel_rfl
theorem lpE79_0 (f : Nat) (k : Kont) : ∀ (n : Nat) (v0 : Int) (v1 : Int) (v2 : Int) (v3 : Int) (v4 : Int) (v5 : Int) (v6 : Int) (v7 : Int) (v8 : Int) (v9 : Int) (v10 : Int) (v11 : Int) (v12 : Int) (v13 : Bool) (v14 : Bool) (v15 : List PV), evScope tau 0 nm79_0 (hasLabel c79_0) (fun l s k => evFrom tau F79 0 0 c79_0 (x79_0 ) l s k) n 0 (fillS nm79_0 N79 [.ptr 1216 []] [(1216, .box false 54 (PV.st 54 [.sc (.int .i64 v0), .sc (.int .i64 v1), .sc (.int .i64 v2), .st 34 [.sc (.int .i64 v3), .sc (.int .i64 v4)], .st 45 [.sc (.int .i64 v5), .sc (.int .i64 v6)], .sc (.int .i64 v7), .sc (.int .i64 v8), .st 45 [.sc (.int .i64 v9), .sc (.int .i64 v10)], .sc (.int .i64 v11), .sc (.int .i64 v12), .ro 29 v13 v14 v15]))]) (kNorm tau 0 nx79_0 k) = lp79_0 f (fun x0 => k Ex.ret (fillS nx79_0 N79 [.sc (.int .i64 x0)] [])) n v0 v1 v2 v3 v4 v5 v6 v7 v8 v9 v10 v11 v12 v13 v14 v15 | 0, _, _, _, _, _, _, _, _, _, _, _, _, _, _, _, _ => rfl | n + 1, v0, v1, v2, v3, v4, v5, v6, v7, v8, v9, v10, v11, v12, v13, v14, v15 => (lpR79_0 f k n v0 v1 v2 v3 v4 v5 v6 v7 v8 v9 v10 v11 v12 v13 v14 v15).trans (congrArg (fun r => lpS79_0 f r (fun x0 => k Ex.ret (fillS nx79_0 N79 [.sc (.int .i64 x0)] [])) v0 v1 v2 v3 v4 v5 v6 v7 v8 v9 v10 v11 v12 v13 v14 v15) (by funext v0 v1 v2 v3 v4 v5 v6 v7 v8 v9 v10 v11 v12 v13 v14 v15; exact lpE79_0 f k n v0 v1 v2 v3 v4 v5 v6 v7 v8 v9 v10 v11 v12 v13 v14 v15))
noncomputable def r79_0 (f : Nat) : Nat → List PV → List (Nat × Ent) → Kont → Option Res
  | 0, [.ptr 1216
    []], [(1216,
    Ent.box false 54
      (PV.st 54
        [.sc (.int .i64 v0), .sc (.int .i64 v1), .sc (.int .i64 v2), .st 34 [.sc (.int .i64 v3), .sc (.int .i64 v4)],
          PV.st 45 [.sc (.int .i64 v5), .sc (.int .i64 v6)], .sc (.int .i64 v7), .sc (.int .i64 v8),
          PV.st 45 [.sc (.int .i64 v9), .sc (.int .i64 v10)], .sc (.int .i64 v11), .sc (.int .i64 v12),
          PV.ro 29 v13 v14 v15]))], k => lp79_0 f (fun x0 => k Ex.ret (fillS nx79_0 N79 [.sc (.int .i64 x0)] [])) f v0 v1 v2 v3 v4 v5 v6 v7 v8 v9 v10 v11 v12 v13 v14 v15
  | _, _, _, _ => none
theorem it79_0 (f : Nat) : items c79_0 x79_0 = [] := by kernel_rfl
theorem i79_0 (f : Nat) : (Item.s c79_0 nm79_0 N79 (r79_0 f)).Ok tau Try.prog 0 := scope_item tabOk F79_ok mixed (x := x79_0) (nm2 := nx79_0) (anOk_items _ _ (by rw [it79_0 f]; intro q hq; cases hq)) fun l vs hp k res hr => by
  unfold r79_0 at hr
  split at hr
  · exact ⟨f, 0, (lpE79_0 f _ f _ _ _ _ _ _ _ _ _ _ _ _ _ _ _ _ ).trans hr⟩
  · cases hr
noncomputable def g79 (f : Nat) (m_Kind : Int) (m_From : Int) (m_To : Int) (m_W_Host : Int) (m_W_N : Int) (m_Creator_D : Int) (m_Creator_U : Int) (m_Version : Int) (m_Commit : Int) (m_Author_D : Int) (m_Author_U : Int) (m_Sub : Int) (m_Err : Int) (m_Body_z : Bool) (m_Body_f : Bool) (m_Body : List PV) (k : Res → Option Res) : Option Res := bif decide (IntKind.i64.wrap (m_Kind - 1) ≥ 0) then bif !decide (IntKind.i64.wrap (m_Kind - 1) ≤ 4) then k (Res.mk (.sc (.int .i64 3)) [] []) else bif decide (m_From ≥ 0) then bif !decide (m_From ≤ 2) then lp79_0 f (fun x0_0 => k (Res.mk (.sc (.int .i64 x0_0)) [] [])) f m_Kind m_From m_To m_W_Host m_W_N m_Creator_D m_Creator_U m_Version m_Commit m_Author_D m_Author_U m_Sub m_Err m_Body_z m_Body_f m_Body else bif decide (m_To ≥ 0) then bif !decide (m_To ≤ 2) then lp79_0 f (fun x0_1 => k (Res.mk (.sc (.int .i64 x0_1)) [] [])) f m_Kind m_From m_To m_W_Host m_W_N m_Creator_D m_Creator_U m_Version m_Commit m_Author_D m_Author_U m_Sub m_Err m_Body_z m_Body_f m_Body else bif m_From == m_To then lp79_0 f (fun x0_2 => k (Res.mk (.sc (.int .i64 x0_2)) [] [])) f m_Kind m_From m_To m_W_Host m_W_N m_Creator_D m_Creator_U m_Version m_Commit m_Author_D m_Author_U m_Sub m_Err m_Body_z m_Body_f m_Body else bif decide (m_W_Host ≥ 0) then bif !decide (m_W_Host ≤ 2) then lp79_0 f (fun x0_3 => k (Res.mk (.sc (.int .i64 x0_3)) [] [])) f m_Kind m_From m_To m_W_Host m_W_N m_Creator_D m_Creator_U m_Version m_Commit m_Author_D m_Author_U m_Sub m_Err m_Body_z m_Body_f m_Body else bif decide (m_W_N ≥ 0) then bif !decide (m_W_N ≤ 99) then lp79_0 f (fun x0_4 => k (Res.mk (.sc (.int .i64 x0_4)) [] [])) f m_Kind m_From m_To m_W_Host m_W_N m_Creator_D m_Creator_U m_Version m_Commit m_Author_D m_Author_U m_Sub m_Err m_Body_z m_Body_f m_Body else bif decide (m_Creator_D ≥ 0) then bif decide (m_Creator_D ≤ 2) then bif decide (m_Creator_U ≥ 0) then bif !decide (m_Creator_U ≤ 7) then lp79_0 f (fun x0_5 => k (Res.mk (.sc (.int .i64 x0_5)) [] [])) f m_Kind m_From m_To m_W_Host m_W_N m_Creator_D m_Creator_U m_Version m_Commit m_Author_D m_Author_U m_Sub m_Err m_Body_z m_Body_f m_Body else bif decide (m_Author_D ≥ 0) then bif decide (m_Author_D ≤ 2) then bif decide (m_Author_U ≥ 0) then bif !decide (m_Author_U ≤ 7) then lp79_0 f (fun x0_6 => k (Res.mk (.sc (.int .i64 x0_6)) [] [])) f m_Kind m_From m_To m_W_Host m_W_N m_Creator_D m_Creator_U m_Version m_Commit m_Author_D m_Author_U m_Sub m_Err m_Body_z m_Body_f m_Body else bif decide (m_Version ≥ 0) then bif !decide (m_Version ≤ 1073741824) then lp79_0 f (fun x0_7 => k (Res.mk (.sc (.int .i64 x0_7)) [] [])) f m_Kind m_From m_To m_W_Host m_W_N m_Creator_D m_Creator_U m_Version m_Commit m_Author_D m_Author_U m_Sub m_Err m_Body_z m_Body_f m_Body else bif decide (m_Commit ≥ 0) then bif !decide (m_Commit ≤ 1073741824) then lp79_0 f (fun x0_8 => k (Res.mk (.sc (.int .i64 x0_8)) [] [])) f m_Kind m_From m_To m_W_Host m_W_N m_Creator_D m_Creator_U m_Version m_Commit m_Author_D m_Author_U m_Sub m_Err m_Body_z m_Body_f m_Body else bif decide (m_Sub ≥ 0) then bif !decide (m_Sub ≤ 1073741824) then lp79_0 f (fun x0_9 => k (Res.mk (.sc (.int .i64 x0_9)) [] [])) f m_Kind m_From m_To m_W_Host m_W_N m_Creator_D m_Creator_U m_Version m_Commit m_Author_D m_Author_U m_Sub m_Err m_Body_z m_Body_f m_Body else bif decide (m_Err ≥ 0) then bif !decide (m_Err ≤ 255) then lp79_0 f (fun x0_10 => k (Res.mk (.sc (.int .i64 x0_10)) [] [])) f m_Kind m_From m_To m_W_Host m_W_N m_Creator_D m_Creator_U m_Version m_Commit m_Author_D m_Author_U m_Sub m_Err m_Body_z m_Body_f m_Body else k (Res.mk (.sc (.int .i64 0)) [] []) else lp79_0 f (fun x0_11 => k (Res.mk (.sc (.int .i64 x0_11)) [] [])) f m_Kind m_From m_To m_W_Host m_W_N m_Creator_D m_Creator_U m_Version m_Commit m_Author_D m_Author_U m_Sub m_Err m_Body_z m_Body_f m_Body else lp79_0 f (fun x0_12 => k (Res.mk (.sc (.int .i64 x0_12)) [] [])) f m_Kind m_From m_To m_W_Host m_W_N m_Creator_D m_Creator_U m_Version m_Commit m_Author_D m_Author_U m_Sub m_Err m_Body_z m_Body_f m_Body else lp79_0 f (fun x0_13 => k (Res.mk (.sc (.int .i64 x0_13)) [] [])) f m_Kind m_From m_To m_W_Host m_W_N m_Creator_D m_Creator_U m_Version m_Commit m_Author_D m_Author_U m_Sub m_Err m_Body_z m_Body_f m_Body else lp79_0 f (fun x0_14 => k (Res.mk (.sc (.int .i64 x0_14)) [] [])) f m_Kind m_From m_To m_W_Host m_W_N m_Creator_D m_Creator_U m_Version m_Commit m_Author_D m_Author_U m_Sub m_Err m_Body_z m_Body_f m_Body else lp79_0 f (fun x0_15 => k (Res.mk (.sc (.int .i64 x0_15)) [] [])) f m_Kind m_From m_To m_W_Host m_W_N m_Creator_D m_Creator_U m_Version m_Commit m_Author_D m_Author_U m_Sub m_Err m_Body_z m_Body_f m_Body else lp79_0 f (fun x0_16 => k (Res.mk (.sc (.int .i64 x0_16)) [] [])) f m_Kind m_From m_To m_W_Host m_W_N m_Creator_D m_Creator_U m_Version m_Commit m_Author_D m_Author_U m_Sub m_Err m_Body_z m_Body_f m_Body else lp79_0 f (fun x0_17 => k (Res.mk (.sc (.int .i64 x0_17)) [] [])) f m_Kind m_From m_To m_W_Host m_W_N m_Creator_D m_Creator_U m_Version m_Commit m_Author_D m_Author_U m_Sub m_Err m_Body_z m_Body_f m_Body else lp79_0 f (fun x0_18 => k (Res.mk (.sc (.int .i64 x0_18)) [] [])) f m_Kind m_From m_To m_W_Host m_W_N m_Creator_D m_Creator_U m_Version m_Commit m_Author_D m_Author_U m_Sub m_Err m_Body_z m_Body_f m_Body else lp79_0 f (fun x0_19 => k (Res.mk (.sc (.int .i64 x0_19)) [] [])) f m_Kind m_From m_To m_W_Host m_W_N m_Creator_D m_Creator_U m_Version m_Commit m_Author_D m_Author_U m_Sub m_Err m_Body_z m_Body_f m_Body else lp79_0 f (fun x0_20 => k (Res.mk (.sc (.int .i64 x0_20)) [] [])) f m_Kind m_From m_To m_W_Host m_W_N m_Creator_D m_Creator_U m_Version m_Commit m_Author_D m_Author_U m_Sub m_Err m_Body_z m_Body_f m_Body else lp79_0 f (fun x0_21 => k (Res.mk (.sc (.int .i64 x0_21)) [] [])) f m_Kind m_From m_To m_W_Host m_W_N m_Creator_D m_Creator_U m_Version m_Commit m_Author_D m_Author_U m_Sub m_Err m_Body_z m_Body_f m_Body else lp79_0 f (fun x0_22 => k (Res.mk (.sc (.int .i64 x0_22)) [] [])) f m_Kind m_From m_To m_W_Host m_W_N m_Creator_D m_Creator_U m_Version m_Commit m_Author_D m_Author_U m_Sub m_Err m_Body_z m_Body_f m_Body else lp79_0 f (fun x0_23 => k (Res.mk (.sc (.int .i64 x0_23)) [] [])) f m_Kind m_From m_To m_W_Host m_W_N m_Creator_D m_Creator_U m_Version m_Commit m_Author_D m_Author_U m_Sub m_Err m_Body_z m_Body_f m_Body else lp79_0 f (fun x0_24 => k (Res.mk (.sc (.int .i64 x0_24)) [] [])) f m_Kind m_From m_To m_W_Host m_W_N m_Creator_D m_Creator_U m_Version m_Commit m_Author_D m_Author_U m_Sub m_Err m_Body_z m_Body_f m_Body else k (Res.mk (.sc (.int .i64 3)) [] [])
theorem e79 (f : Nat) (m_Kind : Int) (m_From : Int) (m_To : Int) (m_W_Host : Int) (m_W_N : Int) (m_Creator_D : Int) (m_Creator_U : Int) (m_Version : Int) (m_Commit : Int) (m_Author_D : Int) (m_Author_U : Int) (m_Sub : Int) (m_Err : Int) (m_Body_z : Bool) (m_Body_f : Bool) (m_Body : List PV) (k : Res → Option Res) : evFn tau F79 Try.f79 (Try.f79.body.get!) (an79 (r79_0 f)) [.ro] 0 [.st 54 [.sc (.int .i64 m_Kind), .sc (.int .i64 m_From), .sc (.int .i64 m_To), .st 34 [.sc (.int .i64 m_W_Host), .sc (.int .i64 m_W_N)], .st 45 [.sc (.int .i64 m_Creator_D), .sc (.int .i64 m_Creator_U)], .sc (.int .i64 m_Version), .sc (.int .i64 m_Commit), .st 45 [.sc (.int .i64 m_Author_D), .sc (.int .i64 m_Author_U)], .sc (.int .i64 m_Sub), .sc (.int .i64 m_Err), .ro 29 m_Body_z m_Body_f m_Body]] [] k = g79 f m_Kind m_From m_To m_W_Host m_W_N m_Creator_D m_Creator_U m_Version m_Commit m_Author_D m_Author_U m_Sub m_Err m_Body_z m_Body_f m_Body k := by kernel_rfl
theorem it79 (f : Nat) : items (Try.f79.body.get!) (an79 (r79_0 f)) = [.s c79_0 nm79_0 N79 (r79_0 f)] := by kernel_rfl
theorem ia79 (f : Nat) : ∀ q ∈ items (Try.f79.body.get!) (an79 (r79_0 f)), q.Ok tau Try.prog 0 := by
  rw [it79 f]; simp only [List.forall_mem_cons, List.not_mem_nil, false_implies, implies_true, and_true]; exact i79_0 f
theorem fo79 : Try.prog.funcs[79]? = some Try.f79 := by kernel_rfl
theorem bo79 : Try.f79.body = some (Try.f79.body.get!) := by kernel_rfl
theorem en79 : Enters Try.prog 79 := enters_of fo79 (by kernel_rfl) bo79
end Go.Proofs.Ytcklhipdldpkhaa.Rx

namespace Go.Proofs.Ytcklhipdldpkhaa.Rx
open Go
set_option linter.unusedVariables false
set_option maxRecDepth 100000
set_option maxHeartbeats 0
noncomputable def F81 : Fns := addF 138 s138 (F0)
theorem F81_ok : FnsOk tau Try.prog F81 := (F0_ok).add ok138 en138
def an81 : An := (.seq .leaf (.seq (.seq .leaf (.cond (.seq .leaf .leaf) .leaf)) (.seq .leaf .leaf)))
noncomputable def g81 (f : Nat) (k0_z : Bool) (k0_f : Bool) (k0 : List PV) (k1_z : Bool) (k1_f : Bool) (k1 : List PV) (k2_z : Bool) (k2_f : Bool) (k2 : List PV) (d : Int) (k : Res → Option Res) : Option Res := bif decide (d ≥ 0) then bif !decide (d ≤ 2) then k (Res.mk (.ro 5 true true []) [] []) else bif decide (0 ≤ d) && decide (d < zi 3) && true then bif PV.isRo 5 (getP (PV.st 31 [.ro 5 k0_z k0_f k0, .ro 5 k1_z k1_f k1, .ro 5 k2_z k2_f k2]) [d.toNat]) && true then k (Res.mk (.ro 5 (getP (PV.st 31 [.ro 5 k0_z k0_f k0, .ro 5 k1_z k1_f k1, .ro 5 k2_z k2_f k2]) [d.toNat]).nl (getP (PV.st 31 [.ro 5 k0_z k0_f k0, .ro 5 k1_z k1_f k1, .ro 5 k2_z k2_f k2]) [d.toNat]).fl (getP (PV.st 31 [.ro 5 k0_z k0_f k0, .ro 5 k1_z k1_f k1, .ro 5 k2_z k2_f k2]) [d.toNat]).els) [] []) else none else none else k (Res.mk (.ro 5 true true []) [] [])
theorem e81 (f : Nat) (k0_z : Bool) (k0_f : Bool) (k0 : List PV) (k1_z : Bool) (k1_f : Bool) (k1 : List PV) (k2_z : Bool) (k2_f : Bool) (k2 : List PV) (d : Int) (k : Res → Option Res) : evFn tau F81 Try.f81 (Try.f81.body.get!) an81 [.ro] 0 [.st 31 [.ro 5 k0_z k0_f k0, .ro 5 k1_z k1_f k1, .ro 5 k2_z k2_f k2], .sc (.int .i64 d)] [] k = g81 f k0_z k0_f k0 k1_z k1_f k1 k2_z k2_f k2 d k := by kernel_rfl
theorem it81 (f : Nat) : items (Try.f81.body.get!) an81 = [] := by kernel_rfl
theorem ia81 (f : Nat) : ∀ q ∈ items (Try.f81.body.get!) an81, q.Ok tau Try.prog 0 := by
  rw [it81 f]; intro q hq; cases hq
theorem fo81 : Try.prog.funcs[81]? = some Try.f81 := by kernel_rfl
theorem bo81 : Try.f81.body = some (Try.f81.body.get!) := by kernel_rfl
theorem en81 : Enters Try.prog 81 := enters_of fo81 (by kernel_rfl) bo81
noncomputable def run81 : List PV → List Ent → (Res → Option Res) → Option Res
  | [.st 31 [.ro 5 k0_z k0_f k0, .ro 5 k1_z k1_f k1, .ro 5 k2_z k2_f k2], .sc (.int .i64 d)], [], k => g81 0 k0_z k0_f k0 k1_z k1_f k1 k2_z k2_f k2 d k
  | _, _, _ => none
noncomputable def s81 : Sig := { own := [], run := run81 }
theorem ok81 : CallOk tau Try.prog 81 s81 := fn_ok tabOk F81_ok mixed fo81 bo81 an81 [.ro] 0 [] run81 (ia81 0) fun xs es k res hr => by
  unfold run81 at hr
  split at hr
  · exact ⟨rfl, 0, (e81 0 _ _ _ _ _ _ _ _ _ _  _).trans hr⟩
  · cases hr
end Go.Proofs.Ytcklhipdldpkhaa.Rx

-- FN wire.check | wire.key
namespace Go.Proofs.Ytcklhipdldpkhaa.Rx
open Go
set_option linter.unusedVariables false
set_option linter.unusedSimpArgs false
set_option maxRecDepth 100000
set_option maxHeartbeats 1000000
def innB (x m : Int) : Bool := decide (x ≥ 0) && decide (x ≤ m)
def chkB (fr to wh wn cd cu ve co ad au su er : Int) : Bool := innB fr 2 && (innB to 2 && (!(fr == to) && (innB wh 2 && (innB wn 99 && (innB cd 2 && (innB cu 7 && (innB ad 2 && (innB au 7 && (innB ve 1073741824 && (innB co 1073741824 && (innB su 1073741824 && innB er 255)))))))))))
def chk0 (kd fr to wh wn cd cu ve co ad au su er : Int) : Int := bif innB (IntKind.i64.wrap (kd - 1)) 4 then (bif chkB fr to wh wn cd cu ve co ad au su er then 0 else 1) else 3
structure C13 where
  (kd fr to wh wn cd cu ve co ad au su er : Int)
noncomputable def chk : C13 → Int := hid fun c => chk0 c.kd c.fr c.to c.wh c.wn c.cd c.cu c.ve c.co c.ad c.au c.su c.er
theorem chk_eq (c : C13) : chk c = chk0 c.kd c.fr c.to c.wh c.wn c.cd c.cu c.ve c.co c.ad c.au c.su c.er := by rw [chk, hid_eq]
theorem nest1 {α : Type} (a b : Bool) (x y : α) : (bif a then (bif !b then x else y) else x) = bif a && b then y else x := by cases a <;> cases b <;> rfl
theorem nest2 {α : Type} (a b : Bool) (x y : α) : (bif a then (bif b then y else x) else x) = bif a && b then y else x := by cases a <;> cases b <;> rfl
theorem nest3 {α : Type} (a c : Bool) (x y : α) : (bif a then x else bif c then y else x) = bif !a && c then y else x := by cases a <;> cases c <;> rfl
theorem g79_eq (kd fr to wh wn cd cu ve co ad au su er : Int) (z f : Bool) (l : List PV) (k : Res → Option Res) :
    g79 1 kd fr to wh wn cd cu ve co ad au su er z f l k = k ⟨.sc (.int .i64 (chk ⟨kd, fr, to, wh, wn, cd, cu, ve, co, ad, au, su, er⟩)), [], []⟩ := by
  rw [chk_eq, chk0]
  unfold g79
  simp only [lp79_0, lpS79_0, nest1, nest2, nest3]
  have e : ∀ a b : Bool, ∀ x y z : Option Res, (bif a then (bif !b then z else x) else z) = bif a && b then x else z := fun a b x y z => nest1 a b z x
  cases h1 : innB (IntKind.i64.wrap (kd - 1)) 4 with
  | false =>
    unfold innB at h1
    simp only [h1, cond_false]
  | true =>
    unfold innB at h1
    simp only [h1, cond_true]
    have hb : chkB fr to wh wn cd cu ve co ad au su er = chkB fr to wh wn cd cu ve co ad au su er := rfl
    conv at hb => lhs; simp only [chkB, innB, Bool.and_assoc]
    simp only [Bool.and_assoc, Bool.not_not, hb]
    cases chkB fr to wh wn cd cu ve co ad au su er <;> rfl
noncomputable def run79' : List PV → List Ent → (Res → Option Res) → Option Res
  | [.st 54 [.sc (.int .i64 kd), .sc (.int .i64 fr), .sc (.int .i64 to), .st 34 [.sc (.int .i64 wh), .sc (.int .i64 wn)], .st 45 [.sc (.int .i64 cd), .sc (.int .i64 cu)], .sc (.int .i64 ve), .sc (.int .i64 co), .st 45 [.sc (.int .i64 ad), .sc (.int .i64 au)], .sc (.int .i64 su), .sc (.int .i64 er), .ro 29 z f l]], [], k =>
    k ⟨.sc (.int .i64 (chk ⟨kd, fr, to, wh, wn, cd, cu, ve, co, ad, au, su, er⟩)), [], []⟩
  | _, _, _ => none
noncomputable def s79' : Sig := { own := [], run := run79' }
theorem ok79' : CallOk tau Try.prog 79 s79' := CallOk.mk' fun xs es k res hl hr => by
  change run79' xs es k = some res at hr
  unfold run79' at hr
  split at hr
  · rename_i kd fr to wh wn cd cu ve co ad au su er z f l
    have hg := (g79_eq kd fr to wh wn cd cu ve co ad au su er z f l k).trans hr
    exact fn_at tabOk F79_ok mixed fo79 bo79 (an79 (r79_0 1)) [.ro] 0 0 (ia79 1) hl rfl ((e79 1 kd fr to wh wn cd cu ve co ad au su er z f l k).trans hg)
  · cases hr
def keyF0 (l : List PV) (d : Int) : PV := bif innB d 2 then l.getD d.toNat .top else .ro 5 true true []
structure K3 where
  (l : List PV) (d : Int)
noncomputable def keyF : K3 → List PV := hid fun c => (keyF0 c.l c.d).els
noncomputable def keyZ : K3 → Bool := hid fun c => (keyF0 c.l c.d).nl
noncomputable def keyL : K3 → Bool := hid fun c => (keyF0 c.l c.d).fl
theorem keyF_eq (c : K3) : keyF c = (keyF0 c.l c.d).els := by rw [keyF, hid_eq]
theorem keyZ_eq (c : K3) : keyZ c = (keyF0 c.l c.d).nl := by rw [keyZ, hid_eq]
theorem keyL_eq (c : K3) : keyL c = (keyF0 c.l c.d).fl := by rw [keyL, hid_eq]
noncomputable def run81' : List PV → List Ent → (Res → Option Res) → Option Res
  | [.st 31 [.ro 5 z0 f0 k0, .ro 5 z1 f1 k1, .ro 5 z2 f2 k2], .sc (.int .i64 d)], [], k =>
    k ⟨.ro 5 (keyZ ⟨[.ro 5 z0 f0 k0, .ro 5 z1 f1 k1, .ro 5 z2 f2 k2], d⟩) (keyL ⟨[.ro 5 z0 f0 k0, .ro 5 z1 f1 k1, .ro 5 z2 f2 k2], d⟩) (keyF ⟨[.ro 5 z0 f0 k0, .ro 5 z1 f1 k1, .ro 5 z2 f2 k2], d⟩), [], []⟩
  | _, _, _ => none
noncomputable def s81' : Sig := { own := [], run := run81' }
theorem ok81' : CallOk tau Try.prog 81 s81' := ok81.of fun xs es k res hr => by
  change run81' xs es k = some res at hr
  unfold run81' at hr
  split at hr
  · rename_i z0 f0 k0 z1 f1 k1 z2 f2 k2 d
    show g81 0 z0 f0 k0 z1 f1 k1 z2 f2 k2 d k = some res
    rw [keyZ_eq, keyL_eq, keyF_eq] at hr
    unfold g81
    by_cases h1 : 0 ≤ d
    · refine (bif_t (by simpa using h1)).trans ?_
      by_cases h2 : d ≤ 2
      · refine (bif_f (by simp; omega)).trans ?_
        refine (bif_t (by simp [zi]; omega)).trans ?_
        have hi : innB d 2 = true := by simp [innB]; omega
        have hk : keyF0 [.ro 5 z0 f0 k0, .ro 5 z1 f1 k1, .ro 5 z2 f2 k2] d = getP (PV.st 31 [.ro 5 z0 f0 k0, .ro 5 z1 f1 k1, .ro 5 z2 f2 k2]) [d.toNat] := by unfold keyF0; rw [hi]; rfl
        simp only [hk] at hr
        refine (bif_t ?_).trans hr
        have : d = 0 ∨ d = 1 ∨ d = 2 := by omega
        rcases this with rfl | rfl | rfl <;> rfl
      · refine (bif_t (by simp; omega)).trans ?_
        have hi : innB d 2 = false := by simp [innB]; omega
        have hk : keyF0 [.ro 5 z0 f0 k0, .ro 5 z1 f1 k1, .ro 5 z2 f2 k2] d = .ro 5 true true [] := by unfold keyF0; rw [hi]; rfl
        simp only [hk] at hr
        exact hr
    · refine (bif_f (by simp; omega)).trans ?_
      have hi : innB d 2 = false := by simp [innB]; omega
      have hk : keyF0 [.ro 5 z0 f0 k0, .ro 5 z1 f1 k1, .ro 5 z2 f2 k2] d = .ro 5 true true [] := by unfold keyF0; rw [hi]; rfl
      simp only [hk] at hr
      exact hr
  · cases hr
end Go.Proofs.Ytcklhipdldpkhaa.Rx

namespace Go.Proofs.Ytcklhipdldpkhaa.Rx
open Go
set_option linter.unusedVariables false
set_option maxRecDepth 100000
set_option maxHeartbeats 0
noncomputable def F123 : Fns := F0
theorem F123_ok : FnsOk tau Try.prog F123 := F0_ok
def an123 : An := (.seq .leaf (.seq .leaf .leaf))
noncomputable def g123 (f : Nat) (k : Res → Option Res) : Option Res := k (Res.mk (.ar 118 [.sc (.int .u32 1116352408), .sc (.int .u32 1899447441), .sc (.int .u32 3049323471), .sc (.int .u32 3921009573), .sc (.int .u32 961987163), .sc (.int .u32 1508970993), .sc (.int .u32 2453635748), .sc (.int .u32 2870763221), .sc (.int .u32 3624381080), .sc (.int .u32 310598401), .sc (.int .u32 607225278), .sc (.int .u32 1426881987), .sc (.int .u32 1925078388), .sc (.int .u32 2162078206), .sc (.int .u32 2614888103), .sc (.int .u32 3248222580), .sc (.int .u32 3835390401), .sc (.int .u32 4022224774), .sc (.int .u32 264347078), .sc (.int .u32 604807628), .sc (.int .u32 770255983), .sc (.int .u32 1249150122), .sc (.int .u32 1555081692), .sc (.int .u32 1996064986), .sc (.int .u32 2554220882), .sc (.int .u32 2821834349), .sc (.int .u32 2952996808), .sc (.int .u32 3210313671), .sc (.int .u32 3336571891), .sc (.int .u32 3584528711), .sc (.int .u32 113926993), .sc (.int .u32 338241895), .sc (.int .u32 666307205), .sc (.int .u32 773529912), .sc (.int .u32 1294757372), .sc (.int .u32 1396182291), .sc (.int .u32 1695183700), .sc (.int .u32 1986661051), .sc (.int .u32 2177026350), .sc (.int .u32 2456956037), .sc (.int .u32 2730485921), .sc (.int .u32 2820302411), .sc (.int .u32 3259730800), .sc (.int .u32 3345764771), .sc (.int .u32 3516065817), .sc (.int .u32 3600352804), .sc (.int .u32 4094571909), .sc (.int .u32 275423344), .sc (.int .u32 430227734), .sc (.int .u32 506948616), .sc (.int .u32 659060556), .sc (.int .u32 883997877), .sc (.int .u32 958139571), .sc (.int .u32 1322822218), .sc (.int .u32 1537002063), .sc (.int .u32 1747873779), .sc (.int .u32 1955562222), .sc (.int .u32 2024104815), .sc (.int .u32 2227730452), .sc (.int .u32 2361852424), .sc (.int .u32 2428436474), .sc (.int .u32 2756734187), .sc (.int .u32 3204031479), .sc (.int .u32 3329325298)]) [] [])
theorem e123 (f : Nat) (k : Res → Option Res) : evFn tau F123 Try.f123 (Try.f123.body.get!) an123 [.ro] 0 [] [] k = g123 f k := by kernel_rfl
theorem it123 (f : Nat) : items (Try.f123.body.get!) an123 = [] := by kernel_rfl
theorem ia123 (f : Nat) : ∀ q ∈ items (Try.f123.body.get!) an123, q.Ok tau Try.prog 0 := by
  rw [it123 f]; intro q hq; cases hq
theorem fo123 : Try.prog.funcs[123]? = some Try.f123 := by kernel_rfl
theorem bo123 : Try.f123.body = some (Try.f123.body.get!) := by kernel_rfl
theorem en123 : Enters Try.prog 123 := enters_of fo123 (by kernel_rfl) bo123
noncomputable def run123 : List PV → List Ent → (Res → Option Res) → Option Res
  | [], [], k => g123 0  k
  | _, _, _ => none
noncomputable def s123 : Sig := { own := [], run := run123 }
theorem ok123 : CallOk tau Try.prog 123 s123 := fn_ok tabOk F123_ok mixed fo123 bo123 an123 [.ro] 0 [] run123 (ia123 0) fun xs es k res hr => by
  unfold run123 at hr
  split at hr
  · exact ⟨rfl, 0, (e123 0  _).trans hr⟩
  · cases hr
end Go.Proofs.Ytcklhipdldpkhaa.Rx

namespace Go.Proofs.Ytcklhipdldpkhaa.Rx
open Go
set_option linter.unusedVariables false
set_option maxRecDepth 100000
set_option maxHeartbeats 0
def N71 : Nat := 113
noncomputable def F71 : Fns := addF 123 s123 (addF 122 s122' (addF 124 s124' F0))
theorem F71_ok : FnsOk tau Try.prog F71 := ((F0_ok.add ok124' en124).add ok122' en122).add ok123 en123
noncomputable def c71_0 : Code := subC (Try.f71.body.get!) [1, 1, 1, 0, 1, 0, 0]
def nm71_0 : Nm := [(2, .any), (4, .any), (5, .any), (6, .any), (7, .any), (18, .any)]
def nx71_0 : Nm := [(2, .any), (4, .any), (7, .any)]
def x71_0 : An := (.seq .leaf (.seq (.cond .leaf .leaf) (.seq (.block none (.seq .leaf (.seq .leaf (.seq .leaf (.seq .leaf .leaf))))) .leaf)))
noncomputable def c71_1 : Code := subC (Try.f71.body.get!) [1, 1, 1, 1, 0, 1, 0, 0]
def nm71_1 : Nm := [(2, .any), (4, .any), (7, .any), (100, .any)]
def nx71_1 : Nm := [(4, .any), (7, .any)]
def x71_1 : An := (.seq .leaf (.seq (.cond .leaf .leaf) (.seq (.block none (.seq .leaf .leaf)) .leaf)))
def an71 (r0 : RunL) (r1 : RunL) : An := (.seq .leaf (.seq .leaf (.seq .leaf (.seq (.seq .leaf (.block none (.sum nm71_0 N71 r0))) (.seq (.seq .leaf (.block none (.sum nm71_1 N71 r1))) (.seq .leaf .leaf))))))
def lpS71_0 (f : Nat) (rc : Int → List PV → List PV → List PV → List PV → List PV → Option Res) (k0 : List PV → List PV → List PV → Option Res) (v0 : Int) (v1 : List PV) (v2 : List PV) (v3 : List PV) (v4 : List PV) (v5 : List PV) : Option Res := bif decide (v0 < 64) then bif PV.isInt IntKind.u32 (getP (PV.ar 113 v5) [4]) && true then bif PV.isInt IntKind.u32 (getP (PV.ar 113 v5) [0]) && true then bif PV.isInt IntKind.u32 (getP (PV.ar 113 v5) [7]) && true then bif PV.isInt IntKind.u32 (getP (PV.ar 113 v5) [5]) && true then bif PV.isInt IntKind.u32 (getP (PV.ar 113 v5) [6]) && true then bif decide (0 ≤ v0) && decide (v0 < zi 64) && true then bif PV.isInt IntKind.u32 (getP (PV.ar 118 v4) [v0.toNat]) && true then bif decide (0 ≤ v0) && decide (v0 < zi 64) && true then bif PV.isInt IntKind.u32 (getP (PV.ar 118 v3) [v0.toNat]) && true then bif PV.isInt IntKind.u32 (getP (PV.ar 113 v5) [1]) && true then bif PV.isInt IntKind.u32 (getP (PV.ar 113 v5) [2]) && true then bif PV.isInt IntKind.u32 (getP (PV.ar 113 v5) [1]) && true then bif PV.isInt IntKind.u32 (getP (PV.ar 113 v5) [2]) && true then bif PV.isInt IntKind.u32 (getP (PV.ar 113 v5) [0]) && true then bif PV.isInt IntKind.u32 (getP (PV.ar 113 v5) [1]) && true then bif PV.isInt IntKind.u32 (getP (PV.ar 113 v5) [2]) && true then bif PV.isInt IntKind.u32 (getP (PV.ar 113 v5) [3]) && true then bif PV.isInt IntKind.u32 (getP (PV.ar 113 v5) [4]) && true then bif PV.isInt IntKind.u32 (getP (PV.ar 113 v5) [5]) && true then bif PV.isInt IntKind.u32 (getP (PV.ar 113 v5) [6]) && true then rc (IntKind.i64.wrap (v0 + 1)) v1 v2 v3 v4 ([.sc (.int .u32 (IntKind.u32.wrap (IntKind.u32.wrap (IntKind.u32.wrap (IntKind.u32.wrap (IntKind.u32.wrap ((getP (PV.ar 113 v5) [7]).int + bitI BinOp.xor IntKind.u32 (bitI BinOp.xor IntKind.u32 (rr (getP (PV.ar 113 v5) [4]).int 6) (rr (getP (PV.ar 113 v5) [4]).int 11)) (rr (getP (PV.ar 113 v5) [4]).int 25)) + bitI BinOp.xor IntKind.u32 (bitI BinOp.and IntKind.u32 (getP (PV.ar 113 v5) [4]).int (getP (PV.ar 113 v5) [5]).int) (bitI BinOp.and IntKind.u32 (bitI BinOp.xor IntKind.u32 (Int.ofNat (2 ^ IntKind.u32.bits - Nat.succ 0)) (getP (PV.ar 113 v5) [4]).int) (getP (PV.ar 113 v5) [6]).int)) + (getP (PV.ar 118 v4) [v0.toNat]).int) + (getP (PV.ar 118 v3) [v0.toNat]).int) + IntKind.u32.wrap (bitI BinOp.xor IntKind.u32 (bitI BinOp.xor IntKind.u32 (rr (getP (PV.ar 113 v5) [0]).int 2) (rr (getP (PV.ar 113 v5) [0]).int 13)) (rr (getP (PV.ar 113 v5) [0]).int 22) + bitI BinOp.xor IntKind.u32 (bitI BinOp.xor IntKind.u32 (bitI BinOp.and IntKind.u32 (getP (PV.ar 113 v5) [0]).int (getP (PV.ar 113 v5) [1]).int) (bitI BinOp.and IntKind.u32 (getP (PV.ar 113 v5) [0]).int (getP (PV.ar 113 v5) [2]).int)) (bitI BinOp.and IntKind.u32 (getP (PV.ar 113 v5) [1]).int (getP (PV.ar 113 v5) [2]).int))))), .sc (.int .u32 (getP (PV.ar 113 v5) [0]).int), .sc (.int .u32 (getP (PV.ar 113 v5) [1]).int), .sc (.int .u32 (getP (PV.ar 113 v5) [2]).int), .sc (.int .u32 (IntKind.u32.wrap ((getP (PV.ar 113 v5) [3]).int + IntKind.u32.wrap (IntKind.u32.wrap (IntKind.u32.wrap (IntKind.u32.wrap ((getP (PV.ar 113 v5) [7]).int + bitI BinOp.xor IntKind.u32 (bitI BinOp.xor IntKind.u32 (rr (getP (PV.ar 113 v5) [4]).int 6) (rr (getP (PV.ar 113 v5) [4]).int 11)) (rr (getP (PV.ar 113 v5) [4]).int 25)) + bitI BinOp.xor IntKind.u32 (bitI BinOp.and IntKind.u32 (getP (PV.ar 113 v5) [4]).int (getP (PV.ar 113 v5) [5]).int) (bitI BinOp.and IntKind.u32 (bitI BinOp.xor IntKind.u32 (Int.ofNat (2 ^ IntKind.u32.bits - Nat.succ 0)) (getP (PV.ar 113 v5) [4]).int) (getP (PV.ar 113 v5) [6]).int)) + (getP (PV.ar 118 v4) [v0.toNat]).int) + (getP (PV.ar 118 v3) [v0.toNat]).int)))), .sc (.int .u32 (getP (PV.ar 113 v5) [4]).int), .sc (.int .u32 (getP (PV.ar 113 v5) [5]).int), .sc (.int .u32 (getP (PV.ar 113 v5) [6]).int)]) else none else none else none else none else none else none else none else none else none else none else none else none else none else none else none else none else none else none else none else none else k0 v1 v2 v5
def lp71_0 (f : Nat) (k0 : List PV → List PV → List PV → Option Res) : Nat → Int → List PV → List PV → List PV → List PV → List PV → Option Res
  | 0, _, _, _, _, _, _ => none
  | n + 1, v0, v1, v2, v3, v4, v5 => lpS71_0 f (lp71_0 f k0 n) k0 v0 v1 v2 v3 v4 v5
theorem lpR71_0 (f : Nat) (k : Kont) (n : Nat) (v0 : Int) (v1 : List PV) (v2 : List PV) (v3 : List PV) (v4 : List PV) (v5 : List PV) : evLoop tau 0 nm71_0 (fun s k => ev tau F71 0 0 c71_0 (x71_0 ) s k) (n + 1) (fillS nm71_0 N71 [.ptr 1824 [], .ptr 1825 [], .ptr 1826 [], .ptr 1827 [], .ptr 1828 [], .sc (.int .i64 v0)] [(1824, .box false 113 (PV.ar 113 v1)), (1825, .box false 113 (PV.ar 113 v2)), (1826, .box false 118 (PV.ar 118 v3)), (1827, .box false 118 (PV.ar 118 v4)), (1828, .box false 113 (PV.ar 113 v5))]) (kNorm tau 0 nx71_0 k) = lpS71_0 f (fun v0 v1 v2 v3 v4 v5 => evLoop tau 0 nm71_0 (fun s k => ev tau F71 0 0 c71_0 (x71_0 ) s k) n (fillS nm71_0 N71 [.ptr 1824 [], .ptr 1825 [], .ptr 1826 [], .ptr 1827 [], .ptr 1828 [], .sc (.int .i64 v0)] [(1824, .box false 113 (PV.ar 113 v1)), (1825, .box false 113 (PV.ar 113 v2)), (1826, .box false 118 (PV.ar 118 v3)), (1827, .box false 118 (PV.ar 118 v4)), (1828, .box false 113 (PV.ar 113 v5))]) (kNorm tau 0 nx71_0 k)) (fun x0 x1 x2 => k (Ex.exit 0) (fillS nx71_0 N71 [.ptr 1824 [], .ptr 1825 [], .ptr 1826 []] [(1824, .box false 113 (PV.ar 113 x0)), (1825, .box false 113 (PV.ar 113 x1)), (1826, .box false 113 (PV.ar 113 x2))])) v0 v1 v2 v3 v4 v5 := by kernel_rfl
theorem lpE71_0 (f : Nat) (k : Kont) : ∀ (n : Nat) (v0 : Int) (v1 : List PV) (v2 : List PV) (v3 : List PV) (v4 : List PV) (v5 : List PV), evLoop tau 0 nm71_0 (fun s k => ev tau F71 0 0 c71_0 (x71_0 ) s k) n (fillS nm71_0 N71 [.ptr 1824 [], .ptr 1825 [], .ptr 1826 [], .ptr 1827 [], .ptr 1828 [], .sc (.int .i64 v0)] [(1824, .box false 113 (PV.ar 113 v1)), (1825, .box false 113 (PV.ar 113 v2)), (1826, .box false 118 (PV.ar 118 v3)), (1827, .box false 118 (PV.ar 118 v4)), (1828, .box false 113 (PV.ar 113 v5))]) (kNorm tau 0 nx71_0 k) = lp71_0 f (fun x0 x1 x2 => k (Ex.exit 0) (fillS nx71_0 N71 [.ptr 1824 [], .ptr 1825 [], .ptr 1826 []] [(1824, .box false 113 (PV.ar 113 x0)), (1825, .box false 113 (PV.ar 113 x1)), (1826, .box false 113 (PV.ar 113 x2))])) n v0 v1 v2 v3 v4 v5 | 0, _, _, _, _, _, _ => rfl | n + 1, v0, v1, v2, v3, v4, v5 => (lpR71_0 f k n v0 v1 v2 v3 v4 v5).trans (congrArg (fun r => lpS71_0 f r (fun x0 x1 x2 => k (Ex.exit 0) (fillS nx71_0 N71 [.ptr 1824 [], .ptr 1825 [], .ptr 1826 []] [(1824, .box false 113 (PV.ar 113 x0)), (1825, .box false 113 (PV.ar 113 x1)), (1826, .box false 113 (PV.ar 113 x2))])) v0 v1 v2 v3 v4 v5) (by funext v0 v1 v2 v3 v4 v5; exact lpE71_0 f k n v0 v1 v2 v3 v4 v5))
def r71_0 (f : Nat) : List PV → List (Nat × Ent) → Kont → Option Res
  | [.ptr 1824 [], .ptr 1825 [], .ptr 1826 [], .ptr 1827 [], .ptr 1828 [],
  PV.sc
    (Value.int IntKind.i64
      v0)], [(1824, .box false 113 (PV.ar 113 v1)), (1825, .box false 113 (PV.ar 113 v2)), (1826, .box false 118 (PV.ar 118 v3)), (1827, .box false 118 (PV.ar 118 v4)),
  (1828,
    Ent.box false 113
      (PV.ar 113
        v5))], k => lp71_0 f (fun x0 x1 x2 => k (Ex.exit
  0) (fillS nx71_0 N71 [.ptr 1824 [], .ptr 1825 [],
  PV.ptr 1826 []] [(1824, .box false 113 (PV.ar 113 x0)), (1825, .box false 113 (PV.ar 113 x1)), (1826, .box false 113 (PV.ar 113 x2))])) f v0 v1 v2 v3 v4 v5
  | _, _, _ => none
theorem it71_0 (f : Nat) : items c71_0 x71_0 = [] := by kernel_rfl
theorem i31_0 (f : Nat) : (Item.l c71_0 nm71_0 N71 (r71_0 f)).Ok tau Try.prog 0 := loop_item tabOk F71_ok mixed (x := x71_0) (nm2 := nx71_0) (anOk_items _ _ (by rw [it71_0 f]; intro q hq; cases hq)) fun vs hp k res hr => by
  unfold r71_0 at hr
  split at hr
  · exact ⟨f, 0, (lpE71_0 f _ f _ _ _ _ _ _ ).trans hr⟩
  · cases hr
def lpS71_1 (f : Nat) (rc : Int → List PV → List PV → List PV → Option Res) (k0 : List PV → List PV → Option Res) (v0 : Int) (v1 : List PV) (v2 : List PV) (v3 : List PV) : Option Res := bif decide (v0 < 8) then bif decide (0 ≤ v0) && decide (v0 < zi 8) && true then bif PV.isInt IntKind.u32 (getP (PV.ar 113 v3) [v0.toNat]) && true then bif decide (0 ≤ v0) && decide (v0 < zi 8) && true then bif PV.isInt IntKind.u32 (getP (PV.ar 113 v1) [v0.toNat]) && true then bif decide (0 ≤ v0) && decide (v0 < zi 8) && true then rc (IntKind.i64.wrap (v0 + 1)) v1 v2 (v3.set v0.toNat (.sc (.int .u32 (IntKind.u32.wrap ((getP (PV.ar 113 v3) [v0.toNat]).int + (getP (PV.ar 113 v1) [v0.toNat]).int))))) else none else none else none else none else none else k0 v2 v3
def lp71_1 (f : Nat) (k0 : List PV → List PV → Option Res) : Nat → Int → List PV → List PV → List PV → Option Res
  | 0, _, _, _, _ => none
  | n + 1, v0, v1, v2, v3 => lpS71_1 f (lp71_1 f k0 n) k0 v0 v1 v2 v3
theorem lpR71_1 (f : Nat) (k : Kont) (n : Nat) (v0 : Int) (v1 : List PV) (v2 : List PV) (v3 : List PV) : evLoop tau 0 nm71_1 (fun s k => ev tau F71 0 0 c71_1 (x71_1 ) s k) (n + 1) (fillS nm71_1 N71 [.ptr 1824 [], .ptr 1825 [], .ptr 1826 [], .sc (.int .i64 v0)] [(1824, .box false 113 (PV.ar 113 v1)), (1825, .box false 113 (PV.ar 113 v2)), (1826, .box false 113 (PV.ar 113 v3))]) (kNorm tau 0 nx71_1 k) = lpS71_1 f (fun v0 v1 v2 v3 => evLoop tau 0 nm71_1 (fun s k => ev tau F71 0 0 c71_1 (x71_1 ) s k) n (fillS nm71_1 N71 [.ptr 1824 [], .ptr 1825 [], .ptr 1826 [], .sc (.int .i64 v0)] [(1824, .box false 113 (PV.ar 113 v1)), (1825, .box false 113 (PV.ar 113 v2)), (1826, .box false 113 (PV.ar 113 v3))]) (kNorm tau 0 nx71_1 k)) (fun x0 x1 => k (Ex.exit 2) (fillS nx71_1 N71 [.ptr 1824 [], .ptr 1825 []] [(1824, .box false 113 (PV.ar 113 x0)), (1825, .box false 113 (PV.ar 113 x1))])) v0 v1 v2 v3 := by kernel_rfl
theorem lpE71_1 (f : Nat) (k : Kont) : ∀ (n : Nat) (v0 : Int) (v1 : List PV) (v2 : List PV) (v3 : List PV), evLoop tau 0 nm71_1 (fun s k => ev tau F71 0 0 c71_1 (x71_1 ) s k) n (fillS nm71_1 N71 [.ptr 1824 [], .ptr 1825 [], .ptr 1826 [], .sc (.int .i64 v0)] [(1824, .box false 113 (PV.ar 113 v1)), (1825, .box false 113 (PV.ar 113 v2)), (1826, .box false 113 (PV.ar 113 v3))]) (kNorm tau 0 nx71_1 k) = lp71_1 f (fun x0 x1 => k (Ex.exit 2) (fillS nx71_1 N71 [.ptr 1824 [], .ptr 1825 []] [(1824, .box false 113 (PV.ar 113 x0)), (1825, .box false 113 (PV.ar 113 x1))])) n v0 v1 v2 v3 | 0, _, _, _, _ => rfl | n + 1, v0, v1, v2, v3 => (lpR71_1 f k n v0 v1 v2 v3).trans (congrArg (fun r => lpS71_1 f r (fun x0 x1 => k (Ex.exit 2) (fillS nx71_1 N71 [.ptr 1824 [], .ptr 1825 []] [(1824, .box false 113 (PV.ar 113 x0)), (1825, .box false 113 (PV.ar 113 x1))])) v0 v1 v2 v3) (by funext v0 v1 v2 v3; exact lpE71_1 f k n v0 v1 v2 v3))
def r71_1 (f : Nat) : List PV → List (Nat × Ent) → Kont → Option Res
  | [.ptr 1824 [], .ptr 1825 [], .ptr 1826 [],
  PV.sc
    (Value.int IntKind.i64
      v0)], [(1824, .box false 113 (PV.ar 113 v1)), (1825, .box false 113 (PV.ar 113 v2)),
  (1826,
    Ent.box false 113
      (PV.ar 113
        v3))], k => lp71_1 f (fun x0 x1 => k (Ex.exit
  2) (fillS nx71_1 N71 [.ptr 1824 [], .ptr 1825 []] [(1824, .box false 113 (PV.ar 113 x0)), (1825, .box false 113 (PV.ar 113 x1))])) f v0 v1 v2 v3
  | _, _, _ => none
theorem it71_1 (f : Nat) : items c71_1 x71_1 = [] := by kernel_rfl
theorem i31_1 (f : Nat) : (Item.l c71_1 nm71_1 N71 (r71_1 f)).Ok tau Try.prog 0 := loop_item tabOk F71_ok mixed (x := x71_1) (nm2 := nx71_1) (anOk_items _ _ (by rw [it71_1 f]; intro q hq; cases hq)) fun vs hp k res hr => by
  unfold r71_1 at hr
  split at hr
  · exact ⟨f, 0, (lpE71_1 f _ f _ _ _ _ ).trans hr⟩
  · cases hr
def g71 (f : Nat) (s : List PV) (nl : Bool) (fl : Bool) (b : List PV) (k : Res → Option Res) : Option Res := bif allInt IntKind.u8 b && decide (b.length = 64) then lp71_0 f (fun x0_0 x1_0 x2_0 => lp71_1 f (fun x0_1 x1_1 => k (Res.mk (.ar 113 x1_1) [] [])) f (0) x0_0 x1_0 x2_0) f (0) s ([.sc (.int .u32 0), .sc (.int .u32 0), .sc (.int .u32 0), .sc (.int .u32 0), .sc (.int .u32 0), .sc (.int .u32 0), .sc (.int .u32 0), .sc (.int .u32 0)]) (pu IntKind.u32 (spreadP (ints b))) ([.sc (.int .u32 1116352408), .sc (.int .u32 1899447441), .sc (.int .u32 3049323471), .sc (.int .u32 3921009573), .sc (.int .u32 961987163), .sc (.int .u32 1508970993), .sc (.int .u32 2453635748), .sc (.int .u32 2870763221), .sc (.int .u32 3624381080), .sc (.int .u32 310598401), .sc (.int .u32 607225278), .sc (.int .u32 1426881987), .sc (.int .u32 1925078388), .sc (.int .u32 2162078206), .sc (.int .u32 2614888103), .sc (.int .u32 3248222580), .sc (.int .u32 3835390401), .sc (.int .u32 4022224774), .sc (.int .u32 264347078), .sc (.int .u32 604807628), .sc (.int .u32 770255983), .sc (.int .u32 1249150122), .sc (.int .u32 1555081692), .sc (.int .u32 1996064986), .sc (.int .u32 2554220882), .sc (.int .u32 2821834349), .sc (.int .u32 2952996808), .sc (.int .u32 3210313671), .sc (.int .u32 3336571891), .sc (.int .u32 3584528711), .sc (.int .u32 113926993), .sc (.int .u32 338241895), .sc (.int .u32 666307205), .sc (.int .u32 773529912), .sc (.int .u32 1294757372), .sc (.int .u32 1396182291), .sc (.int .u32 1695183700), .sc (.int .u32 1986661051), .sc (.int .u32 2177026350), .sc (.int .u32 2456956037), .sc (.int .u32 2730485921), .sc (.int .u32 2820302411), .sc (.int .u32 3259730800), .sc (.int .u32 3345764771), .sc (.int .u32 3516065817), .sc (.int .u32 3600352804), .sc (.int .u32 4094571909), .sc (.int .u32 275423344), .sc (.int .u32 430227734), .sc (.int .u32 506948616), .sc (.int .u32 659060556), .sc (.int .u32 883997877), .sc (.int .u32 958139571), .sc (.int .u32 1322822218), .sc (.int .u32 1537002063), .sc (.int .u32 1747873779), .sc (.int .u32 1955562222), .sc (.int .u32 2024104815), .sc (.int .u32 2227730452), .sc (.int .u32 2361852424), .sc (.int .u32 2428436474), .sc (.int .u32 2756734187), .sc (.int .u32 3204031479), .sc (.int .u32 3329325298)]) s else none
theorem e71 (f : Nat) (s : List PV) (nl : Bool) (fl : Bool) (b : List PV) (k : Res → Option Res) : evFn tau F71 Try.f71 (Try.f71.body.get!) (an71 (r71_0 f) (r71_1 f)) [] 0 [.ar 113 s, .ro 5 nl fl b] [] k = g71 f s nl fl b k := by kernel_rfl
theorem it71 (f : Nat) : items (Try.f71.body.get!) (an71 (r71_0 f) (r71_1 f)) = [.l c71_0 nm71_0 N71 (r71_0 f), .l c71_1 nm71_1 N71 (r71_1 f)] := by kernel_rfl
theorem ia71 (f : Nat) : ∀ q ∈ items (Try.f71.body.get!) (an71 (r71_0 f) (r71_1 f)), q.Ok tau Try.prog 0 := by
  rw [it71 f]; simp only [List.forall_mem_cons, List.not_mem_nil, false_implies, implies_true, and_true]; exact ⟨i31_0 f, i31_1 f⟩
theorem fo71 : Try.prog.funcs[71]? = some Try.f71 := by kernel_rfl
theorem bo71 : Try.f71.body = some (Try.f71.body.get!) := by kernel_rfl
theorem en71 : Enters Try.prog 71 := enters_of fo71 (by kernel_rfl) bo71
end Go.Proofs.Ytcklhipdldpkhaa.Rx

-- FN (sha.state).add
namespace Go.Proofs.Ytcklhipdldpkhaa.Rx
open Go
set_option linter.unusedVariables false
set_option maxRecDepth 100000
set_option maxHeartbeats 1000000
theorem getD8 {R : List Int} (h : R.length = 8) (j : Nat) (hj : j < 8) : (pu .u32 R).getD j .top = .sc (.int .u32 (R.getD j 0)) := pu_get (by omega)
theorem l71_0 (W s : List Int) (hW : W.length = 64) (hs : s.length = 8) (f : Nat) (k0 : List PV → List PV → List PV → Option Res) (a b : List PV) : ∀ (d i n : Nat), i + d = 64 → d < n →
    lp71_0 f k0 n (i : Int) a b (pu .u32 W) (pu .u32 kks) (pu .u32 (rnds W s i)) = k0 a b (pu .u32 (rnds W s 64))
  | 0, i, n + 1, h, hn => by
      obtain rfl : i = 64 := by omega
      simp only [lp71_0, lpS71_0]
      exact bif_f (by decide)
  | d + 1, i, n + 1, h, hn => by
      have hl := rnds_length W s hs i
      have h1 : IntKind.i64.wrap ((i : Int) + 1) = ((i + 1 : Nat) : Int) := by rw [wrap_i64 (by omega) (by omega)]; omega
      have hk : (pu .u32 kks).getD i .top = .sc (.int .u32 (kks.getD i 0)) := pu_get (by show i < 64; omega)
      have hw : (pu .u32 W).getD i .top = .sc (.int .u32 (W.getD i 0)) := pu_get (by omega)
      have c1 : decide ((i : Int) < 64) = true := by simp; omega
      have c2 : decide (0 ≤ (i : Int)) = true := by simp
      have c3 : decide ((i : Int) < zi 64) = true := by simp; omega
      simp only [lp71_0, lpS71_0, getP_ar, Int.toNat_natCast, h1, hk, hw, c1, c2, c3, getD8 hl 0 (by omega), getD8 hl 1 (by omega), getD8 hl 2 (by omega), getD8 hl 3 (by omega), getD8 hl 4 (by omega), getD8 hl 5 (by omega), getD8 hl 6 (by omega), getD8 hl 7 (by omega), PV.isInt, PV.int, decide_true, Bool.and_true, cond_true]
      exact l71_0 W s hW hs f k0 a b d (i + 1) n (by omega) (by omega)
theorem l71_1 (t s : List Int) (ht : t.length = 8) (hs : s.length = 8) (f : Nat) (k0 : List PV → List PV → Option Res) (a : List PV) : ∀ (d i n : Nat), i + d = 8 → d < n →
    lp71_1 f k0 n (i : Int) (pu .u32 s) a (pu .u32 (fillM (fun j => ww (t.getD j 0 + s.getD j 0)) t i)) = k0 a (pu .u32 (fillM (fun j => ww (t.getD j 0 + s.getD j 0)) t 8))
  | 0, i, n + 1, h, hn => by
      obtain rfl : i = 8 := by omega
      simp only [lp71_1, lpS71_1]
      exact bif_f (by decide)
  | d + 1, i, n + 1, h, hn => by
      have hl : (fillM (fun j => ww (t.getD j 0 + s.getD j 0)) t i).length = 8 := by rw [fillM_length _ _ _ (by omega), ht]
      have h1 : IntKind.i64.wrap ((i : Int) + 1) = ((i + 1 : Nat) : Int) := by rw [wrap_i64 (by omega) (by omega)]; omega
      have c1 : decide ((i : Int) < 8) = true := by simp; omega
      have c2 : decide (0 ≤ (i : Int)) = true := by simp
      have c3 : decide ((i : Int) < zi 8) = true := by simp; omega
      have g1 : ((i : Int)).toNat = i := by omega
      simp only [lp71_1, lpS71_1, getP_ar, g1, h1, c1, c2, c3, getD8 hl i (by omega), getD8 hs i (by omega), fillM_get _ t i (by omega), PV.isInt, PV.int, decide_true, Bool.and_true, cond_true, pu_set]
      have := l71_1 t s ht hs f k0 a d (i + 1) n (by omega) (by omega)
      rw [← fillM_set _ t i (by omega)] at this
      exact this
theorem g71_eq (s bs : List Int) (hs : s.length = 8) (hb : bs.length = 64) (nl fl : Bool) (k : Res → Option Res) : g71 100 (pu .u32 s) nl fl (pu .u8 bs) k = k ⟨.ar 113 (pu .u32 (addP s bs)), [], []⟩ := by
  have hW : (spreadP bs).length = 64 := sched_length bs 48
  have hc : (allInt .u8 (pu .u8 bs) && decide ((pu .u8 bs).length = 64)) = true := by simp [hb]
  refine (bif_t hc).trans ?_
  rw [ints_pu]
  have h0 : ∀ k0 a b, lp71_0 100 k0 100 0 a b (pu .u32 (spreadP bs)) (pu .u32 kks) (pu .u32 s) = k0 a b (pu .u32 (rnds (spreadP bs) s 64)) := fun k0 a b => l71_0 (spreadP bs) s hW hs 100 k0 a b 64 0 100 (by omega) (by omega)
  have ht := rnds_length (spreadP bs) s hs 64
  have h1 : ∀ k0 a, lp71_1 100 k0 100 0 (pu .u32 s) a (pu .u32 (rnds (spreadP bs) s 64)) = k0 a (pu .u32 (addP s bs)) := by
    intro k0 a
    have := l71_1 (rnds (spreadP bs) s 64) s ht hs 100 k0 a 8 0 100 (by omega) (by omega)
    rw [fillM_zero] at this
    refine this.trans ?_
    have h2 := fillM_full (fun j => ww ((rnds (spreadP bs) s 64).getD j 0 + s.getD j 0)) (rnds (spreadP bs) s 64)
    rw [ht] at h2; rw [h2]; rfl
  exact (h0 _ _ _).trans (h1 _ _)
def run71' : List PV → List Ent → (Res → Option Res) → Option Res
  | [.ar 113 s, .ro 5 nl fl b], [], k => bif (allInt .u32 s && decide (s.length = 8)) && (allInt .u8 b && decide (b.length = 64)) then k ⟨.ar 113 (pu .u32 (addP (ints s) (ints b))), [], []⟩ else none
  | _, _, _ => none
def s71' : Sig := { own := [], run := run71' }
theorem ok71' : CallOk tau Try.prog 71 s71' := fn_ok tabOk F71_ok mixed fo71 bo71 _ [] 0 [] run71' (ia71 100) fun xs es k res hr => by
  unfold run71' at hr
  split at hr
  · obtain ⟨hc, hr⟩ := of_bif hr
    simp only [Bool.and_eq_true, decide_eq_true_eq] at hc
    refine ⟨rfl, 0, (e71 100 _ _ _ _ _).trans ?_⟩
    rw [pu_ints hc.2.1, pu_ints hc.1.1, g71_eq _ _ (by simpa using hc.1.2) (by simpa using hc.2.2)]
    exact hr
  · cases hr
end Go.Proofs.Ytcklhipdldpkhaa.Rx

namespace Go.Proofs.Ytcklhipdldpkhaa.Rx
open Go
set_option linter.unusedVariables false
set_option maxRecDepth 100000
set_option maxHeartbeats 0
noncomputable def F121 : Fns := F0
theorem F121_ok : FnsOk tau Try.prog F121 := F0_ok
def an121 : An := (.seq .leaf (.seq (.seq .leaf (.cond .leaf .leaf)) (.seq (.seq .leaf (.seq .leaf (.cond .leaf .leaf))) (.seq .leaf .leaf))))
noncomputable def g121 (f : Nat) (n : Int) (k : Res → Option Res) : Option Res := bif decide (n < 0) then none else bif decide (IntKind.i64.wrap (n - IntKind.i64.wrap (zi 0 - zi 0)) > 0) then bif decide (0 ≤ IntKind.i64.wrap (n - IntKind.i64.wrap (zi 0 - zi 0))) && roomy (IntKind.i64.wrap (n - IntKind.i64.wrap (zi 0 - zi 0))).toNat 1 && true then k (Res.mk (.ow 5 16 [] 0 0 none) [] [.vec false 5 (IntKind.i64.wrap (n - IntKind.i64.wrap (zi 0 - zi 0)) == 0) (List.replicate (IntKind.i64.wrap (n - IntKind.i64.wrap (zi 0 - zi 0))).toNat (.sc (.int .u8 0)))]) else none else k (Res.mk (.ro 5 true true []) [] [])
theorem e121 (f : Nat) (n : Int) (k : Res → Option Res) : evFn tau F121 Try.f121 (Try.f121.body.get!) an121 [] 0 [.ro 5 true true [], .sc (.int .i64 n)] [] k = g121 f n k := by kernel_rfl
theorem it121 (f : Nat) : items (Try.f121.body.get!) an121 = [] := by kernel_rfl
theorem ia121 (f : Nat) : ∀ q ∈ items (Try.f121.body.get!) an121, q.Ok tau Try.prog 0 := by
  rw [it121 f]; intro q hq; cases hq
theorem fo121 : Try.prog.funcs[121]? = some Try.f121 := by kernel_rfl
theorem bo121 : Try.f121.body = some (Try.f121.body.get!) := by kernel_rfl
theorem en121 : Enters Try.prog 121 := enters_of fo121 (by kernel_rfl) bo121
noncomputable def run121 : List PV → List Ent → (Res → Option Res) → Option Res
  | [.ro 5 true true [], .sc (.int .i64 n)], [], k => g121 0 n k
  | _, _, _ => none
noncomputable def s121 : Sig := { own := [], run := run121 }
theorem ok121 : CallOk tau Try.prog 121 s121 := fn_ok tabOk F121_ok mixed fo121 bo121 an121 [] 0 [] run121 (ia121 0) fun xs es k res hr => by
  unfold run121 at hr
  split at hr
  · exact ⟨rfl, 0, (e121 0 _  _).trans hr⟩
  · cases hr
end Go.Proofs.Ytcklhipdldpkhaa.Rx

namespace Go.Proofs.Ytcklhipdldpkhaa.Rx
open Go
set_option linter.unusedVariables false
set_option maxRecDepth 100000
set_option maxHeartbeats 0
def N70 : Nat := 36
noncomputable def F70 : Fns := addF 121 s121 (F0)
theorem F70_ok : FnsOk tau Try.prog F70 := (F0_ok).add ok121 en121
noncomputable def c70_0 : Code := subC (Try.f70.body.get!) [1, 1, 0, 1, 0, 0]
def nm70_0 : Nm := [(0, .any), (3, .any), (9, .any), (10, .any), (11, .any)]
def nx70_0 : Nm := [(0, .any), (3, .any)]
def x70_0 : An := (.seq .leaf (.seq (.cond .leaf .leaf) (.seq (.block none (.seq .leaf (.seq .leaf (.seq .leaf (.cond .leaf .leaf))))) .leaf)))
noncomputable def c70_1 : Code := subC (Try.f70.body.get!) [1, 1, 1, 1, 0, 1, 0, 0]
def nm70_1 : Nm := [(6, .own), (25, .any), (26, .any), (27, .any)]
def nx70_1 : Nm := [(6, .any)]
def x70_1 : An := (.seq .leaf (.seq (.cond .leaf .leaf) (.seq (.block none (.seq .leaf .leaf)) .leaf)))
def an70 (r0 : RunL) (r1 : RunL) : An := (.seq .leaf (.seq .leaf (.seq (.seq .leaf (.block none (.sum nm70_0 N70 r0))) (.seq .leaf (.seq (.seq .leaf (.block none (.sum nm70_1 N70 r1))) (.seq .leaf .leaf))))))
noncomputable def lpS70_0 (f : Nat) (rc : Bool → Bool → List PV → Int → Bool → Bool → List PV → Int → Int → Option Res) (k0 : Bool → Bool → List PV → Int → Option Res) (v0 : Bool) (v1 : Bool) (v2 : List PV) (v3 : Int) (v4 : Bool) (v5 : Bool) (v6 : List PV) (v7 : Int) (v8 : Int) : Option Res := bif decide (v8 < v7) then bif decide (0 ≤ v8) && decide (v8 < zi v6.length) && PV.isRo 5 (v6.getD v8.toNat PV.top) && true then bif decide (IntKind.i64.wrap (v3 + zi (v6.getD v8.toNat PV.top).els.length) < 0) then none else rc v0 v1 v2 (IntKind.i64.wrap (v3 + zi (v6.getD v8.toNat PV.top).els.length)) v4 v5 v6 v7 (IntKind.i64.wrap (v8 + 1)) else none else k0 v0 v1 v2 v3
noncomputable def lp70_0 (f : Nat) (k0 : Bool → Bool → List PV → Int → Option Res) : Nat → Bool → Bool → List PV → Int → Bool → Bool → List PV → Int → Int → Option Res
  | 0, _, _, _, _, _, _, _, _, _ => none
  | n + 1, v0, v1, v2, v3, v4, v5, v6, v7, v8 => lpS70_0 f (lp70_0 f k0 n) k0 v0 v1 v2 v3 v4 v5 v6 v7 v8
theorem lpR70_0 (f : Nat) (k : Kont) (n : Nat) (v0 : Bool) (v1 : Bool) (v2 : List PV) (v3 : Int) (v4 : Bool) (v5 : Bool) (v6 : List PV) (v7 : Int) (v8 : Int) : evLoop tau 0 nm70_0 (fun s k => ev tau F70 0 0 c70_0 (x70_0 ) s k) (n + 1) (fillS nm70_0 N70 [.ro 29 v0 v1 v2, .sc (.int .i64 v3), .ro 29 v4 v5 v6, .sc (.int .i64 v7), .sc (.int .i64 v8)] []) (kNorm tau 0 nx70_0 k) = lpS70_0 f (fun v0 v1 v2 v3 v4 v5 v6 v7 v8 => evLoop tau 0 nm70_0 (fun s k => ev tau F70 0 0 c70_0 (x70_0 ) s k) n (fillS nm70_0 N70 [.ro 29 v0 v1 v2, .sc (.int .i64 v3), .ro 29 v4 v5 v6, .sc (.int .i64 v7), .sc (.int .i64 v8)] []) (kNorm tau 0 nx70_0 k)) (fun x0 x1 x2 x3 => k (Ex.exit 0) (fillS nx70_0 N70 [.ro 29 x0 x1 x2, .sc (.int .i64 x3)] [])) v0 v1 v2 v3 v4 v5 v6 v7 v8 := by kernel_rfl
theorem lpE70_0 (f : Nat) (k : Kont) : ∀ (n : Nat) (v0 : Bool) (v1 : Bool) (v2 : List PV) (v3 : Int) (v4 : Bool) (v5 : Bool) (v6 : List PV) (v7 : Int) (v8 : Int), evLoop tau 0 nm70_0 (fun s k => ev tau F70 0 0 c70_0 (x70_0 ) s k) n (fillS nm70_0 N70 [.ro 29 v0 v1 v2, .sc (.int .i64 v3), .ro 29 v4 v5 v6, .sc (.int .i64 v7), .sc (.int .i64 v8)] []) (kNorm tau 0 nx70_0 k) = lp70_0 f (fun x0 x1 x2 x3 => k (Ex.exit 0) (fillS nx70_0 N70 [.ro 29 x0 x1 x2, .sc (.int .i64 x3)] [])) n v0 v1 v2 v3 v4 v5 v6 v7 v8 | 0, _, _, _, _, _, _, _, _, _ => rfl | n + 1, v0, v1, v2, v3, v4, v5, v6, v7, v8 => (lpR70_0 f k n v0 v1 v2 v3 v4 v5 v6 v7 v8).trans (congrArg (fun r => lpS70_0 f r (fun x0 x1 x2 x3 => k (Ex.exit 0) (fillS nx70_0 N70 [.ro 29 x0 x1 x2, .sc (.int .i64 x3)] [])) v0 v1 v2 v3 v4 v5 v6 v7 v8) (by funext v0 v1 v2 v3 v4 v5 v6 v7 v8; exact lpE70_0 f k n v0 v1 v2 v3 v4 v5 v6 v7 v8))
noncomputable def r70_0 (f : Nat) : List PV → List (Nat × Ent) → Kont → Option Res
  | [.ro 29 v0 v1 v2, .sc (.int .i64 v3), .ro 29 v4 v5 v6, .sc (.int .i64 v7),
  .sc (.int .i64 v8)], [], k => lp70_0 f (fun x0 x1 x2 x3 => k (Ex.exit 0) (fillS nx70_0 N70 [.ro 29 x0 x1 x2, .sc (.int .i64 x3)] [])) f v0 v1 v2 v3 v4 v5 v6 v7 v8
  | _, _, _ => none
theorem it70_0 (f : Nat) : items c70_0 x70_0 = [] := by kernel_rfl
theorem i70_0 (f : Nat) : (Item.l c70_0 nm70_0 N70 (r70_0 f)).Ok tau Try.prog 0 := loop_item tabOk F70_ok mixed (x := x70_0) (nm2 := nx70_0) (anOk_items _ _ (by rw [it70_0 f]; intro q hq; cases hq)) fun vs hp k res hr => by
  unfold r70_0 at hr
  split at hr
  · exact ⟨f, 0, (lpE70_0 f _ f _ _ _ _ _ _ _ _ _ ).trans hr⟩
  · cases hr
noncomputable def lpS70_1 (f : Nat) (rc : Nat → Bool → Bool → List PV → Int → Int → Bool → List PV → Option Res) (k0 : Nat → Bool → List PV → Option Res) (v0 : Nat) (v1 : Bool) (v2 : Bool) (v3 : List PV) (v4 : Int) (v5 : Int) (v6 : Bool) (v7 : List PV) : Option Res := bif decide (v5 < v4) then bif decide (0 ≤ v5) && decide (v5 < zi v3.length) && PV.isRo 5 (v3.getD v5.toNat PV.top) && true then bif roomy (v0 + (v3.getD v5.toNat PV.top).els.length) 1 && true then rc (v0 + (v3.getD v5.toNat PV.top).els.length) v1 v2 v3 v4 (IntKind.i64.wrap (v5 + 1)) (v6 && (v3.getD v5.toNat PV.top).els.isEmpty) (List.take v0 v7 ++ (v3.getD v5.toNat PV.top).els) else none else none else k0 v0 v6 v7
noncomputable def lp70_1 (f : Nat) (k0 : Nat → Bool → List PV → Option Res) : Nat → Nat → Bool → Bool → List PV → Int → Int → Bool → List PV → Option Res
  | 0, _, _, _, _, _, _, _, _ => none
  | n + 1, v0, v1, v2, v3, v4, v5, v6, v7 => lpS70_1 f (lp70_1 f k0 n) k0 v0 v1 v2 v3 v4 v5 v6 v7
theorem lpR70_1 (f : Nat) (k : Kont) (n : Nat) (v0 : Nat) (v1 : Bool) (v2 : Bool) (v3 : List PV) (v4 : Int) (v5 : Int) (v6 : Bool) (v7 : List PV) : evLoop tau 0 nm70_1 (fun s k => ev tau F70 0 0 c70_1 (x70_1 ) s k) (n + 1) (fillS nm70_1 N70 [.ow 5 592 [] 0 v0 none, .ro 29 v1 v2 v3, .sc (.int .i64 v4), .sc (.int .i64 v5)] [(592, .vec false 5 v6 v7)]) (kNorm tau 0 nx70_1 k) = lpS70_1 f (fun v0 v1 v2 v3 v4 v5 v6 v7 => evLoop tau 0 nm70_1 (fun s k => ev tau F70 0 0 c70_1 (x70_1 ) s k) n (fillS nm70_1 N70 [.ow 5 592 [] 0 v0 none, .ro 29 v1 v2 v3, .sc (.int .i64 v4), .sc (.int .i64 v5)] [(592, .vec false 5 v6 v7)]) (kNorm tau 0 nx70_1 k)) (fun x0 x1 x2 => k (Ex.exit 2) (fillS nx70_1 N70 [.ow 5 592 [] 0 x0 none] [(592, .vec false 5 x1 x2)])) v0 v1 v2 v3 v4 v5 v6 v7 := by kernel_rfl
theorem lpE70_1 (f : Nat) (k : Kont) : ∀ (n : Nat) (v0 : Nat) (v1 : Bool) (v2 : Bool) (v3 : List PV) (v4 : Int) (v5 : Int) (v6 : Bool) (v7 : List PV), evLoop tau 0 nm70_1 (fun s k => ev tau F70 0 0 c70_1 (x70_1 ) s k) n (fillS nm70_1 N70 [.ow 5 592 [] 0 v0 none, .ro 29 v1 v2 v3, .sc (.int .i64 v4), .sc (.int .i64 v5)] [(592, .vec false 5 v6 v7)]) (kNorm tau 0 nx70_1 k) = lp70_1 f (fun x0 x1 x2 => k (Ex.exit 2) (fillS nx70_1 N70 [.ow 5 592 [] 0 x0 none] [(592, .vec false 5 x1 x2)])) n v0 v1 v2 v3 v4 v5 v6 v7 | 0, _, _, _, _, _, _, _, _ => rfl | n + 1, v0, v1, v2, v3, v4, v5, v6, v7 => (lpR70_1 f k n v0 v1 v2 v3 v4 v5 v6 v7).trans (congrArg (fun r => lpS70_1 f r (fun x0 x1 x2 => k (Ex.exit 2) (fillS nx70_1 N70 [.ow 5 592 [] 0 x0 none] [(592, .vec false 5 x1 x2)])) v0 v1 v2 v3 v4 v5 v6 v7) (by funext v0 v1 v2 v3 v4 v5 v6 v7; exact lpE70_1 f k n v0 v1 v2 v3 v4 v5 v6 v7))
noncomputable def r70_1 (f : Nat) : List PV → List (Nat × Ent) → Kont → Option Res
  | [.ow 5 592 [] 0 v0 none, .ro 29 v1 v2 v3, .sc (.int .i64 v4),
  PV.sc
    (Value.int IntKind.i64
      v5)], [(592, .vec false 5 v6 v7)], k => lp70_1 f (fun x0 x1 x2 => k (Ex.exit 2) (fillS nx70_1 N70 [.ow 5 592 [] 0 x0 none] [(592, .vec false 5 x1 x2)])) f v0 v1 v2 v3 v4 v5 v6 v7
  | _, _, _ => none
theorem it70_1 (f : Nat) : items c70_1 x70_1 = [] := by kernel_rfl
theorem i70_1 (f : Nat) : (Item.l c70_1 nm70_1 N70 (r70_1 f)).Ok tau Try.prog 0 := loop_item tabOk F70_ok mixed (x := x70_1) (nm2 := nx70_1) (anOk_items _ _ (by rw [it70_1 f]; intro q hq; cases hq)) fun vs hp k res hr => by
  unfold r70_1 at hr
  split at hr
  · exact ⟨f, 0, (lpE70_1 f _ f _ _ _ _ _ _ _ _ ).trans hr⟩
  · cases hr
noncomputable def g70 (f : Nat) (slices_z : Bool) (slices_f : Bool) (slices : List PV) (k : Res → Option Res) : Option Res := lp70_0 f (fun x0_0 x1_0 x2_0 x3_0 => bif decide (x3_0 < 0) then none else bif decide (IntKind.i64.wrap (x3_0 - IntKind.i64.wrap (zi 0 - zi 0)) > 0) then bif decide (0 ≤ IntKind.i64.wrap (x3_0 - IntKind.i64.wrap (zi 0 - zi 0))) && roomy (IntKind.i64.wrap (x3_0 - IntKind.i64.wrap (zi 0 - zi 0))).toNat 1 && true then lp70_1 f (fun x0_1 x1_1 x2_1 => k (Res.mk (.ow 5 16 [] 0 x0_1 none) [] [.vec false 5 x1_1 x2_1])) f (0) x0_0 x1_0 x2_0 (zi x2_0.length) (0) (IntKind.i64.wrap (x3_0 - IntKind.i64.wrap (zi 0 - zi 0)) == 0) (List.replicate (IntKind.i64.wrap (x3_0 - IntKind.i64.wrap (zi 0 - zi 0))).toNat (.sc (.int .u8 0))) else none else lp70_1 f (fun x0_2 x1_2 x2_2 => k (Res.mk (.ow 5 16 [] 0 x0_2 none) [] [.vec false 5 x1_2 x2_2])) f (0) x0_0 x1_0 x2_0 (zi x2_0.length) (0) true ([])) f slices_z slices_f slices (0) slices_z slices_f slices (zi slices.length) (0)
theorem e70 (f : Nat) (slices_z : Bool) (slices_f : Bool) (slices : List PV) (k : Res → Option Res) : evFn tau F70 Try.f70 (Try.f70.body.get!) (an70 (r70_0 f) (r70_1 f)) [] 0 [.ro 29 slices_z slices_f slices] [] k = g70 f slices_z slices_f slices k := by kernel_rfl
theorem it70 (f : Nat) : items (Try.f70.body.get!) (an70 (r70_0 f) (r70_1 f)) = [.l c70_0 nm70_0 N70 (r70_0 f), .l c70_1 nm70_1 N70 (r70_1 f)] := by kernel_rfl
theorem ia70 (f : Nat) : ∀ q ∈ items (Try.f70.body.get!) (an70 (r70_0 f) (r70_1 f)), q.Ok tau Try.prog 0 := by
  rw [it70 f]; simp only [List.forall_mem_cons, List.not_mem_nil, false_implies, implies_true, and_true]; exact ⟨i70_0 f, i70_1 f⟩
theorem fo70 : Try.prog.funcs[70]? = some Try.f70 := by kernel_rfl
theorem bo70 : Try.f70.body = some (Try.f70.body.get!) := by kernel_rfl
theorem en70 : Enters Try.prog 70 := enters_of fo70 (by kernel_rfl) bo70
end Go.Proofs.Ytcklhipdldpkhaa.Rx

-- FN slices.Concat[[]byte,byte]
namespace Go.Proofs.Ytcklhipdldpkhaa.Rx
open Go
set_option linter.unusedVariables false
set_option maxRecDepth 100000
set_option maxHeartbeats 4000000
def flat (l : List PV) : List PV := (l.map PV.els).flatten
@[simp] theorem flat_nil : flat [] = [] := rfl
@[simp] theorem flat_cons (p : PV) (l : List PV) : flat (p :: l) = p.els ++ flat l := by simp [flat]
theorem flat_append (a b : List PV) : flat (a ++ b) = flat a ++ flat b := by simp [flat]
theorem take_succ_getD (l : List PV) (i : Nat) (h : i < l.length) : l.take (i + 1) = l.take i ++ [l.getD i .top] := by
  rw [List.take_add_one, List.getD_eq_getElem?_getD, List.getElem?_eq_getElem h]; rfl
theorem drop_getD (l : List PV) (i : Nat) (h : i < l.length) : l.drop i = l.getD i .top :: l.drop (i + 1) := by
  rw [List.drop_eq_getElem_cons h, List.getD_eq_getElem?_getD, List.getElem?_eq_getElem h]; rfl
theorem flat_take (l : List PV) (i : Nat) (h : i < l.length) : flat (l.take (i + 1)) = flat (l.take i) ++ (l.getD i .top).els := by
  rw [take_succ_getD l i h, flat_append, flat_cons, flat_nil, List.append_nil]
theorem flat_take_le (l : List PV) (i : Nat) : (flat (l.take i)).length ≤ (flat l).length := by
  have : flat l = flat (l.take i) ++ flat (l.drop i) := by rw [← flat_append, List.take_append_drop]
  rw [this, List.length_append]; omega
theorem isRo_getD {l : List PV} (h : l.all (PV.isRo 5) = true) {i : Nat} (hi : i < l.length) : (l.getD i .top).isRo 5 = true := by
  rw [List.getD_eq_getElem?_getD, List.getElem?_eq_getElem hi]
  exact List.all_eq_true.1 h _ (List.getElem_mem hi)
theorem isEmpty_app {α : Type} (a b : List α) : (a ++ b).isEmpty = (a.isEmpty && b.isEmpty) := by cases a <;> rfl
theorem l70_0 (f : Nat) (k0 : Bool → Bool → List PV → Int → Option Res) (a b : Bool) (c : List PV) (nl fl : Bool) (l : List PV) (hl : l.all (PV.isRo 5) = true) (hs : (flat l).length ≤ 140737488355328) (hn : l.length ≤ 140737488355328) : ∀ (d i n : Nat), i + d = l.length → d < n →
    lp70_0 f k0 n a b c ((flat (l.take i)).length : Int) nl fl l (l.length : Int) (i : Int) = k0 a b c ((flat l).length : Int)
  | 0, i, n + 1, h, hd => by
      obtain rfl : i = l.length := by omega
      simp only [lp70_0, lpS70_0]
      exact (bif_f (by simp)).trans (by rw [List.take_length])
  | d + 1, i, n + 1, h, hd => by
      have hle := flat_take_le l (i + 1)
      have hadd : (flat (l.take (i + 1))).length = (flat (l.take i)).length + (l.getD i .top).els.length := by rw [flat_take l i (by omega), List.length_append]
      have h1 : IntKind.i64.wrap ((i : Int) + 1) = ((i + 1 : Nat) : Int) := by rw [wrap_i64 (by omega) (by omega)]; omega
      have h2 : IntKind.i64.wrap (((flat (l.take i)).length : Int) + ((l.getD i .top).els.length : Int)) = ((flat (l.take (i + 1))).length : Int) := by rw [wrap_i64 (by omega) (by omega)]; omega
      simp only [lp70_0, lpS70_0, zi, Int.toNat_natCast, h1, h2]
      refine (bif_t (by simp <;> omega)).trans ?_
      refine (bif_t (by rw [isRo_getD hl (by omega)]; simp; omega)).trans ?_
      refine (bif_f (by simp <;> omega)).trans ?_
      exact l70_0 f k0 a b c nl fl l hl hs hn d (i + 1) n (by omega) (by omega)
theorem l70_1 (f : Nat) (k0 : Nat → Bool → List PV → Option Res) (nl fl : Bool) (l : List PV) (hl : l.all (PV.isRo 5) = true) (hs : (flat l).length ≤ 140737488355328) (hn : l.length ≤ 140737488355328) : ∀ (d i n : Nat) (z : Bool) (v : List PV), i + d = l.length → d < n → v.take (flat (l.take i)).length = flat (l.take i) → (d = 0 → v = flat l) →
    lp70_1 f k0 n (flat (l.take i)).length nl fl l (l.length : Int) (i : Int) z v = k0 (flat l).length (z && (flat (l.drop i)).isEmpty) (flat l)
  | 0, i, n + 1, z, v, h, hd, hv, h0 => by
      obtain rfl : i = l.length := by omega
      simp only [lp70_1, lpS70_1]
      refine (bif_f (by simp)).trans ?_
      rw [List.take_length, h0 rfl, List.drop_length]; simp
  | d + 1, i, n + 1, z, v, h, hd, hv, h0 => by
      have hle := flat_take_le l (i + 1)
      have hadd : (flat (l.take (i + 1))).length = (flat (l.take i)).length + (l.getD i .top).els.length := by rw [flat_take l i (by omega), List.length_append]
      have h1 : IntKind.i64.wrap ((i : Int) + 1) = ((i + 1 : Nat) : Int) := by rw [wrap_i64 (by omega) (by omega)]; omega
      simp only [lp70_1, lpS70_1, zi, Int.toNat_natCast, h1, hv]
      refine (bif_t (by simp <;> omega)).trans ?_
      refine (bif_t (by rw [isRo_getD hl (by omega)]; simp; omega)).trans ?_
      refine (bif_t (by simp only [roomy, Bool.and_true, decide_eq_true_eq]; omega)).trans ?_
      have := l70_1 f k0 nl fl l hl hs hn d (i + 1) n (z && (l.getD i .top).els.isEmpty) (flat (l.take (i + 1))) (by omega) (by omega) (List.take_length) (fun hd0 => by rw [show i + 1 = l.length from by omega, List.take_length])
      rw [hadd, flat_take l i (by omega)] at this
      rw [this, drop_getD l i (by omega), flat_cons, isEmpty_app, Bool.and_assoc]
def run70' : List PV → List Ent → (Res → Option Res) → Option Res
  | [.ro 29 nl fl l], [], k => bif l.all (PV.isRo 5) && (decide ((flat l).length ≤ 140737488355328) && decide (l.length ≤ 140737488355328)) then k ⟨.ow 5 16 [] 0 (flat l).length none, [], [.vec false 5 (flat l).isEmpty (flat l)]⟩ else none
  | _, _, _ => none
def s70' : Sig := { own := [], run := run70' }
theorem g70_eq (nl fl : Bool) (l : List PV) (k : Res → Option Res) (hl : l.all (PV.isRo 5) = true) (hs : (flat l).length ≤ 140737488355328) (hn : l.length ≤ 140737488355328) :
    g70 (l.length + 1) nl fl l k = k ⟨.ow 5 16 [] 0 (flat l).length none, [], [.vec false 5 (flat l).isEmpty (flat l)]⟩ := by
  have h0 := l70_0 (l.length + 1) (fun x0_0 x1_0 x2_0 x3_0 =>
    bif decide (x3_0 < 0) then
      none
    else bif decide (IntKind.i64.wrap (x3_0 - IntKind.i64.wrap (zi 0 - zi 0)) > 0) then
      bif decide (0 ≤ IntKind.i64.wrap (x3_0 - IntKind.i64.wrap (zi 0 - zi 0))) && roomy (IntKind.i64.wrap (x3_0 - IntKind.i64.wrap (zi 0 - zi 0))).toNat 1 && true then
        lp70_1 (l.length + 1) (fun x0_1 x1_1 x2_1 =>
          k (Res.mk (PV.ow 5 16 [] 0 x0_1 none) []
            [Ent.vec false 5 x1_1
                x2_1])) (l.length + 1) (0) x0_0 x1_0 x2_0 (zi
          x2_0.length) (0) (IntKind.i64.wrap (x3_0 - IntKind.i64.wrap (zi 0 - zi 0)) ==
          0) (List.replicate (IntKind.i64.wrap (x3_0 - IntKind.i64.wrap (zi 0 - zi 0))).toNat (PV.sc (Value.int IntKind.u8 0)))
      else none
    else lp70_1 (l.length + 1) (fun x0_2 x1_2 x2_2 =>
      k (Res.mk (PV.ow 5 16 [] 0 x0_2 none) [] [Ent.vec false 5 x1_2 x2_2])) (l.length + 1) (0) x0_0 x1_0 x2_0 (zi x2_0.length) (0) true ([])) nl fl l nl fl l hl hs hn l.length 0 (l.length + 1) (by omega) (by omega)
  refine h0.trans ?_
  have hw : IntKind.i64.wrap (((flat l).length : Int) - IntKind.i64.wrap (zi 0 - zi 0)) = ((flat l).length : Int) := by
    have : IntKind.i64.wrap (zi 0 - zi 0) = 0 := by decide
    rw [this, wrap_i64 (by omega) (by omega)]; omega
  simp only [hw]
  refine (bif_f (by simp <;> omega)).trans ?_
  cases he : (flat l).isEmpty with
  | true =>
    have he' : flat l = [] := by simpa using he
    refine (bif_f (by simp [he'])).trans ?_
    have := l70_1 (l.length + 1) (fun x0_2 x1_2 x2_2 => k (Res.mk (PV.ow 5 16 [] 0 x0_2 none) [] [Ent.vec false 5 x1_2 x2_2])) nl fl l hl hs hn l.length 0 (l.length + 1) true [] (by omega) (by omega) (by simp) (fun _ => he'.symm)
    refine this.trans ?_
    simp [he']
  | false =>
    have he' : flat l ≠ [] := by simpa using he
    have hpos : 0 < (flat l).length := List.length_pos_iff.2 he'
    have hl0 : l.length ≠ 0 := by
      intro h; rw [List.length_eq_zero_iff] at h; subst h; simp at he'
    refine (bif_t (by simp <;> omega)).trans ?_
    refine (bif_t (by simp [roomy] <;> omega)).trans ?_
    have := l70_1 (l.length + 1) (fun x0_2 x1_2 x2_2 => k (Res.mk (PV.ow 5 16 [] 0 x0_2 none) [] [Ent.vec false 5 x1_2 x2_2])) nl fl l hl hs hn l.length 0 (l.length + 1) (((flat l).length : Int) == 0) (List.replicate (((flat l).length : Int)).toNat (PV.sc (Value.int IntKind.u8 0))) (by omega) (by omega) (by simp) (fun h => absurd h hl0)
    refine this.trans ?_
    have hz : (((flat l).length : Int) == 0) = false := by simp [he']
    rw [hz]; rfl
theorem ok70' : CallOk tau Try.prog 70 s70' := fn_ok2 tabOk F70_ok mixed fo70 bo70 (fun n => an70 (r70_0 n) (r70_1 n)) [] 0 [] run70' (fun n => ia70 n) fun xs es k res hr => by
  unfold run70' at hr
  split at hr
  · rename_i nl fl l
    obtain ⟨hc, hr⟩ := of_bif hr
    simp only [Bool.and_eq_true, decide_eq_true_eq] at hc
    refine ⟨rfl, l.length + 1, 0, (e70 _ _ _ _ _).trans ?_⟩
    rw [g70_eq _ _ _ _ hc.1 hc.2.1 hc.2.2]; exact hr
  · cases hr
end Go.Proofs.Ytcklhipdldpkhaa.Rx

namespace Go.Proofs.Ytcklhipdldpkhaa.Rx
open Go
set_option linter.unusedVariables false
set_option maxRecDepth 100000
set_option maxHeartbeats 0
def N69 : Nat := 33
noncomputable def F69 : Fns := F0
theorem F69_ok : FnsOk tau Try.prog F69 := F0_ok
noncomputable def c69_1 : Code := subC (Try.f69.body.get!) [1, 0, 1, 1, 1, 1, 0, 1, 0, 0]
def nm69_1 : Nm := [(0, .any), (3, .any), (19, .any)]
def nx69_1 : Nm := [(0, .any)]
def x69_1 : An := (.seq .leaf (.seq (.cond .leaf .leaf) (.seq (.block none (.seq .leaf .leaf)) .leaf)))
noncomputable def c69_0 : Code := subC (Try.f69.body.get!) [1, 0]
def nm69_0 : Nm := [(0, .any), (3, .any)]
def nx69_0 : Nm := [(2, .any)]
def x69_0 (r1 : RunL) : An := (.seq .leaf (.seq .leaf (.seq .leaf (.seq (.seq .leaf (.cond (.seq .leaf .leaf) .leaf)) (.seq (.seq .leaf (.block none (.sum nm69_1 N69 r1))) (.seq .leaf .leaf))))))
def an69 (r0 : RunS) (r1 : RunL) : An := (.seq .leaf (.ssum nm69_0 N69 (x69_0 r1) r0))
noncomputable def lpS69_1 (f : Nat) (rc : Nat → Int → Int → Bool → List PV → Option Res) (k0 : Nat → Bool → List PV → Option Res) (v0 : Nat) (v1 : Int) (v2 : Int) (v3 : Bool) (v4 : List PV) : Option Res := bif decide (v2 < 8) then bif decide (0 ≤ IntKind.i64.wrap (56 - IntKind.i64.wrap (8 * v2))) && true then bif roomy (v0 + 1) 1 && true then rc (v0 + 1) v1 (IntKind.i64.wrap (v2 + 1)) (v3 && false) (List.take v0 v4 ++ [.sc (.int .u8 (IntKind.u8.wrap (shrI IntKind.u64 v1 (IntKind.i64.wrap (56 - IntKind.i64.wrap (8 * v2))))))]) else none else none else k0 v0 v3 v4
noncomputable def lp69_1 (f : Nat) (k0 : Nat → Bool → List PV → Option Res) : Nat → Nat → Int → Int → Bool → List PV → Option Res
  | 0, _, _, _, _, _ => none
  | n + 1, v0, v1, v2, v3, v4 => lpS69_1 f (lp69_1 f k0 n) k0 v0 v1 v2 v3 v4
theorem lpR69_1 (f : Nat) (k : Kont) (n : Nat) (v0 : Nat) (v1 : Int) (v2 : Int) (v3 : Bool) (v4 : List PV) : evLoop tau 1 nm69_1 (fun s k => ev tau F69 1 0 c69_1 (x69_1 ) s k) (n + 1) (fillS nm69_1 N69 [.ow 5 545 [] 0 v0 none, .sc (.int .u64 v1), .sc (.int .i64 v2)] [(0, .dead), (545, .vec false 5 v3 v4)]) (kNorm tau 1 nx69_1 k) = lpS69_1 f (fun v0 v1 v2 v3 v4 => evLoop tau 1 nm69_1 (fun s k => ev tau F69 1 0 c69_1 (x69_1 ) s k) n (fillS nm69_1 N69 [.ow 5 545 [] 0 v0 none, .sc (.int .u64 v1), .sc (.int .i64 v2)] [(0, .dead), (545, .vec false 5 v3 v4)]) (kNorm tau 1 nx69_1 k)) (fun x0 x1 x2 => k (Ex.exit 0) (fillS nx69_1 N69 [.ow 5 545 [] 0 x0 none] [(0, .dead), (545, .vec false 5 x1 x2)])) v0 v1 v2 v3 v4 := by kernel_rfl
theorem lpE69_1 (f : Nat) (k : Kont) : ∀ (n : Nat) (v0 : Nat) (v1 : Int) (v2 : Int) (v3 : Bool) (v4 : List PV), evLoop tau 1 nm69_1 (fun s k => ev tau F69 1 0 c69_1 (x69_1 ) s k) n (fillS nm69_1 N69 [.ow 5 545 [] 0 v0 none, .sc (.int .u64 v1), .sc (.int .i64 v2)] [(0, .dead), (545, .vec false 5 v3 v4)]) (kNorm tau 1 nx69_1 k) = lp69_1 f (fun x0 x1 x2 => k (Ex.exit 0) (fillS nx69_1 N69 [.ow 5 545 [] 0 x0 none] [(0, .dead), (545, .vec false 5 x1 x2)])) n v0 v1 v2 v3 v4 | 0, _, _, _, _, _ => rfl | n + 1, v0, v1, v2, v3, v4 => (lpR69_1 f k n v0 v1 v2 v3 v4).trans (congrArg (fun r => lpS69_1 f r (fun x0 x1 x2 => k (Ex.exit 0) (fillS nx69_1 N69 [.ow 5 545 [] 0 x0 none] [(0, .dead), (545, .vec false 5 x1 x2)])) v0 v1 v2 v3 v4) (by funext v0 v1 v2 v3 v4; exact lpE69_1 f k n v0 v1 v2 v3 v4))
noncomputable def r69_1 (f : Nat) : List PV → List (Nat × Ent) → Kont → Option Res
  | [.ow 5 545 [] 0 v0 none, .sc (.int .u64 v1),
  PV.sc
    (Value.int IntKind.i64
      v2)], [(0, .dead),
  (545, .vec false 5 v3 v4)], k => lp69_1 f (fun x0 x1 x2 => k (Ex.exit 0) (fillS nx69_1 N69 [.ow 5 545 [] 0 x0 none] [(0, .dead), (545, .vec false 5 x1 x2)])) f v0 v1 v2 v3 v4
  | _, _, _ => none
theorem it69_1 (f : Nat) : items c69_1 x69_1 = [] := by kernel_rfl
theorem i69_1 (f : Nat) : (Item.l c69_1 nm69_1 N69 (r69_1 f)).Ok tau Try.prog 1 := loop_item tabOk F69_ok mixed (x := x69_1) (nm2 := nx69_1) (anOk_items _ _ (by rw [it69_1 f]; intro q hq; cases hq)) fun vs hp k res hr => by
  unfold r69_1 at hr
  split at hr
  · exact ⟨f, 0, (lpE69_1 f _ f _ _ _ _ _ ).trans hr⟩
  · cases hr
noncomputable def lpS69_0 (f : Nat) (rc : Nat → Int → Bool → List PV → Option Res) (k0 : Nat → Bool → List PV → Option Res) (v0 : Nat) (v1 : Int) (v2 : Bool) (v3 : List PV) : Option Res := bif (zi v0).tmod 64 != 56 then bif roomy (v0 + 1) 1 && true then rc (v0 + 1) v1 (v2 && false) (List.take v0 v3 ++ [.sc (.int .u8 0)]) else none else lp69_1 f (fun x0_0 x1_0 x2_0 => k0 x0_0 x1_0 x2_0) f v0 v1 (0) v2 v3
noncomputable def lp69_0 (f : Nat) (k0 : Nat → Bool → List PV → Option Res) : Nat → Nat → Int → Bool → List PV → Option Res
  | 0, _, _, _, _ => none
  | n + 1, v0, v1, v2, v3 => lpS69_0 f (lp69_0 f k0 n) k0 v0 v1 v2 v3
theorem lpR69_0 (f : Nat) (k : Kont) (n : Nat) (v0 : Nat) (v1 : Int) (v2 : Bool) (v3 : List PV) : evScope tau 1 nm69_0 (hasLabel c69_0) (fun l s k => evFrom tau F69 1 0 c69_0 (x69_0 (r69_1 f)) l s k) (n + 1) 0 (fillS nm69_0 N69 [.ow 5 545 [] 0 v0 none, .sc (.int .u64 v1)] [(0, .dead), (545, .vec false 5 v2 v3)]) (kNorm tau 1 nx69_0 k) = lpS69_0 f (fun v0 v1 v2 v3 => evScope tau 1 nm69_0 (hasLabel c69_0) (fun l s k => evFrom tau F69 1 0 c69_0 (x69_0 (r69_1 f)) l s k) n 0 (fillS nm69_0 N69 [.ow 5 545 [] 0 v0 none, .sc (.int .u64 v1)] [(0, .dead), (545, .vec false 5 v2 v3)]) (kNorm tau 1 nx69_0 k)) (fun x0 x1 x2 => k Ex.ret (fillS nx69_0 N69 [.ow 5 545 [] 0 x0 none] [(0, .dead), (545, .vec false 5 x1 x2)])) v0 v1 v2 v3 := by kernel_rfl
theorem lpE69_0 (f : Nat) (k : Kont) : ∀ (n : Nat) (v0 : Nat) (v1 : Int) (v2 : Bool) (v3 : List PV), evScope tau 1 nm69_0 (hasLabel c69_0) (fun l s k => evFrom tau F69 1 0 c69_0 (x69_0 (r69_1 f)) l s k) n 0 (fillS nm69_0 N69 [.ow 5 545 [] 0 v0 none, .sc (.int .u64 v1)] [(0, .dead), (545, .vec false 5 v2 v3)]) (kNorm tau 1 nx69_0 k) = lp69_0 f (fun x0 x1 x2 => k Ex.ret (fillS nx69_0 N69 [.ow 5 545 [] 0 x0 none] [(0, .dead), (545, .vec false 5 x1 x2)])) n v0 v1 v2 v3 | 0, _, _, _, _ => rfl | n + 1, v0, v1, v2, v3 => (lpR69_0 f k n v0 v1 v2 v3).trans (congrArg (fun r => lpS69_0 f r (fun x0 x1 x2 => k Ex.ret (fillS nx69_0 N69 [.ow 5 545 [] 0 x0 none] [(0, .dead), (545, .vec false 5 x1 x2)])) v0 v1 v2 v3) (by funext v0 v1 v2 v3; exact lpE69_0 f k n v0 v1 v2 v3))
noncomputable def r69_0 (f : Nat) : Nat → List PV → List (Nat × Ent) → Kont → Option Res
  | 0, [.ow 5 545 [] 0 v0 none,
  PV.sc
    (Value.int IntKind.u64
      v1)], [(0, .dead),
  (545, .vec false 5 v2 v3)], k => lp69_0 f (fun x0 x1 x2 => k Ex.ret (fillS nx69_0 N69 [.ow 5 545 [] 0 x0 none] [(0, .dead), (545, .vec false 5 x1 x2)])) f v0 v1 v2 v3
  | _, _, _, _ => none
theorem it69_0 (f : Nat) : items c69_0 (x69_0 (r69_1 f)) = [.l c69_1 nm69_1 N69 (r69_1 f)] := by kernel_rfl
theorem i69_0 (f : Nat) : (Item.s c69_0 nm69_0 N69 (r69_0 f)).Ok tau Try.prog 1 := scope_item tabOk F69_ok mixed (x := (x69_0 (r69_1 f))) (nm2 := nx69_0) (anOk_items _ _ (by rw [it69_0 f]; simp only [List.forall_mem_cons, List.not_mem_nil, false_implies, implies_true, and_true]; exact i69_1 f)) fun l vs hp k res hr => by
  unfold r69_0 at hr
  split at hr
  · exact ⟨f, 0, (lpE69_0 f _ f _ _ _ _ ).trans hr⟩
  · cases hr
noncomputable def g69 (f : Nat) (nl : Bool) (l : List PV) (n : Nat) (k : Res → Option Res) : Option Res := bif roomy (n + 1) 1 && true then bif (zi (n + 1)).tmod 64 != 56 then bif roomy (n + 1 + 1) 1 && true then lp69_0 f (fun x0_1 x1_1 x2_1 => k (Res.mk (.ow 5 16 [] 0 x0_1 none) [.dead] [.vec false 5 x1_1 x2_1])) f (n + 1 + 1) (IntKind.u64.wrap (IntKind.u64.wrap (zi n) * 8)) (nl && false && false) (List.take (n + 1) (List.take n l ++ [.sc (.int .u8 128)]) ++ [.sc (.int .u8 0)]) else none else lp69_1 f (fun x0_2 x1_2 x2_2 => k (Res.mk (.ow 5 16 [] 0 x0_2 none) [.dead] [.vec false 5 x1_2 x2_2])) f (n + 1) (IntKind.u64.wrap (IntKind.u64.wrap (zi n) * 8)) (0) (nl && false) (List.take n l ++ [.sc (.int .u8 128)]) else none
theorem e69 (f : Nat) (nl : Bool) (l : List PV) (n : Nat) (k : Res → Option Res) : evFn tau F69 Try.f69 (Try.f69.body.get!) (an69 (r69_0 f) (r69_1 f)) [] 0 [.ow 5 0 [] 0 n none] [.vec false 5 nl l] k = g69 f nl l n k := by kernel_rfl
theorem it69 (f : Nat) : items (Try.f69.body.get!) (an69 (r69_0 f) (r69_1 f)) = [.s c69_0 nm69_0 N69 (r69_0 f), .l c69_1 nm69_1 N69 (r69_1 f)] := by kernel_rfl
theorem ia69 (f : Nat) : ∀ q ∈ items (Try.f69.body.get!) (an69 (r69_0 f) (r69_1 f)), q.Ok tau Try.prog 1 := by
  rw [it69 f]; simp only [List.forall_mem_cons, List.not_mem_nil, false_implies, implies_true, and_true]; exact ⟨i69_0 f, i69_1 f⟩
theorem fo69 : Try.prog.funcs[69]? = some Try.f69 := by kernel_rfl
theorem bo69 : Try.f69.body = some (Try.f69.body.get!) := by kernel_rfl
theorem en69 : Enters Try.prog 69 := enters_of fo69 (by kernel_rfl) bo69
end Go.Proofs.Ytcklhipdldpkhaa.Rx

-- FN sha.padded
namespace Go.Proofs.Ytcklhipdldpkhaa.Rx
open Go
set_option linter.unusedVariables false
set_option maxRecDepth 100000
set_option maxHeartbeats 1000000
def lenG (n : Int) (i : Nat) : Int := IntKind.u8.wrap (shrI .u64 n (56 - 8 * (i : Int)))
theorem l69_1 (f : Nat) (N : Int) (k0 : Nat → Bool → List PV → Option Res) (L : List Int) (hL : L.length ≤ 140737488355300) : ∀ (d i n : Nat) (z : Bool), i + d = 8 → d < n → (d = 0 → z = false) →
    lp69_1 f k0 n (L.length + i) N (i : Int) z (pu .u8 (L ++ (List.range i).map (lenG N))) = k0 (L.length + 8) false (pu .u8 (L ++ (List.range 8).map (lenG N)))
  | 0, i, n + 1, z, h, hn, hz => by
      obtain rfl : i = 8 := by omega
      simp only [lp69_1, lpS69_1]
      rw [hz rfl]
      exact bif_f (by decide)
  | d + 1, i, n + 1, z, h, hn, hz => by
      have h1 : IntKind.i64.wrap ((i : Int) + 1) = ((i + 1 : Nat) : Int) := by rw [wrap_i64 (by omega) (by omega)]; omega
      have h8 : IntKind.i64.wrap (8 * (i : Int)) = 8 * (i : Int) := wrap_i64 (by omega) (by omega)
      have h9 : IntKind.i64.wrap (56 - 8 * (i : Int)) = 56 - 8 * (i : Int) := wrap_i64 (by omega) (by omega)
      have c1 : decide ((i : Int) < 8) = true := by simp; omega
      have c2 : decide (0 ≤ 56 - 8 * (i : Int)) = true := by simp; omega
      have c3 : roomy (L.length + i + 1) 1 = true := by simp [roomy]; omega
      have hlen : (L ++ (List.range i).map (lenG N)).length = L.length + i := by simp
      simp only [lp69_1, lpS69_1, h1, h8, h9, c1, c2, c3, Bool.and_true, cond_true, pu_take, Bool.and_false]
      rw [List.take_of_length_le (by omega)]
      have := l69_1 f N k0 L hL d (i + 1) n false (by omega) (by omega) (fun _ => rfl)
      rw [List.range_succ, List.map_append, ← List.append_assoc, pu_append] at this
      exact this
theorem l69_0 (f : Nat) (N : Int) (k0 : Nat → Bool → List PV → Option Res) (hf : 9 ≤ f) : ∀ (d n : Nat) (L : List Int) (z : Bool), zs L.length = d → d < n → L.length + d ≤ 140737488355200 →
    lp69_0 f k0 n L.length N z (pu .u8 L) = lp69_1 f k0 f (L.length + d) N 0 (z && decide (d = 0)) (pu .u8 (L ++ List.replicate d 0))
  | 0, n + 1, L, z, hd, hn, hL => by
      simp only [lp69_0, lpS69_0, tmod64]
      refine (bif_f (by simp [zs] at hd ⊢; omega)).trans ?_
      simp
  | d + 1, n + 1, L, z, hd, hn, hL => by
      have hlt : d + 1 < 64 := by rw [← hd]; unfold zs; omega
      have c3 : roomy (L.length + 1) 1 = true := by simp [roomy]; omega
      simp only [lp69_0, lpS69_0, tmod64, c3, Bool.and_true, cond_true, pu_take, Bool.and_false]
      refine (bif_t (by simp [zs] at hd ⊢; omega)).trans ?_
      rw [List.take_of_length_le (Nat.le_refl _)]
      have := l69_0 f N k0 hf d n (L ++ [0]) false (by simp [zs] at hd ⊢; omega) (by omega) (by simp; omega)
      simp only [List.length_append, List.length_cons, List.length_nil, Nat.zero_add, pu_append] at this
      refine this.trans ?_
      rw [show L.length + 1 + d = L.length + (d + 1) from by omega, List.replicate_succ]
      simp
theorem g69_eq (nl : Bool) (bs : List Int) (hb : bs.length ≤ 140737488355000) (k : Res → Option Res) : g69 100 nl (pu .u8 bs) bs.length k = k ⟨.ow 5 16 [] 0 (padP bs).length none, [.dead], [.vec false 5 false (pu .u8 (padP bs))]⟩ := by
  have c1 : (roomy (bs.length + 1) 1 && true) = true := by simp [roomy]; omega
  have c2 : (roomy (bs.length + 1 + 1) 1 && true) = true := by simp [roomy]; omega
  have hlen : (padP bs).length = bs.length + 1 + zs (bs.length + 1) + 8 := by simp [padP, lenB]; omega
  have hz : zs (bs.length + 1) < 64 := by unfold zs; omega
  refine (bif_t c1).trans ?_
  rw [tmod64, pu_take, List.take_of_length_le (Nat.le_refl _)]
  have fin : ∀ z, lp69_1 100 (fun x0_2 x1_2 x2_2 => k (Res.mk (PV.ow 5 16 [] 0 x0_2 none) [Ent.dead] [Ent.vec false 5 x1_2 x2_2])) 100 (bs.length + 1 + zs (bs.length + 1)) (IntKind.u64.wrap (IntKind.u64.wrap (zi bs.length) * 8)) 0 z (pu .u8 (bs ++ [128] ++ List.replicate (zs (bs.length + 1)) 0)) = k ⟨.ow 5 16 [] 0 (padP bs).length none, [.dead], [.vec false 5 false (pu .u8 (padP bs))]⟩ := by
    intro z
    have := l69_1 100 (IntKind.u64.wrap (IntKind.u64.wrap (zi bs.length) * 8)) (fun x0_2 x1_2 x2_2 => k (Res.mk (PV.ow 5 16 [] 0 x0_2 none) [Ent.dead] [Ent.vec false 5 x1_2 x2_2])) (bs ++ [128] ++ List.replicate (zs (bs.length + 1)) 0) (by simp; omega) 8 0 100 z (by omega) (by omega) (by omega)
    have hl2 : (bs ++ [128] ++ List.replicate (zs (bs.length + 1)) 0).length = bs.length + 1 + zs (bs.length + 1) := by simp; omega
    rw [hl2] at this
    simp only [List.range_zero, List.map_nil, List.append_nil, Nat.add_zero] at this
    rw [hlen]
    exact this
  cases hc : (((((bs.length + 1) % 64 : Nat) : Int)) != 56) with
  | true =>
    refine (bif_t rfl).trans ((bif_t c2).trans ?_)
    have hc' : ((bs.length + 1) % 64 : Nat) ≠ 56 := by simp at hc; omega
    have hz1 : zs (bs.length + 1 + 1) + 1 = zs (bs.length + 1) := by unfold zs; omega
    have := l69_0 100 (IntKind.u64.wrap (IntKind.u64.wrap (zi bs.length) * 8)) (fun x0_1 x1_1 x2_1 => k (Res.mk (PV.ow 5 16 [] 0 x0_1 none) [Ent.dead] [Ent.vec false 5 x1_1 x2_1])) (by omega) (zs (bs.length + 1 + 1)) 100 (bs ++ [128] ++ [0]) (nl && false && false) (by simp) (by unfold zs; omega) (by simp; omega)
    have h0 : pu .u8 (bs ++ [128] ++ [0]) = List.take (bs.length + 1) (pu .u8 bs ++ [PV.sc (Value.int IntKind.u8 128)]) ++ [PV.sc (Value.int IntKind.u8 0)] := by
      rw [List.take_of_length_le (by simp)]; simp
    rw [h0] at this
    simp only [List.length_append, List.length_cons, List.length_nil, Nat.zero_add] at this
    refine this.trans ?_
    have h3 : bs ++ [128] ++ [0] ++ List.replicate (zs (bs.length + 1 + 1)) 0 = bs ++ [128] ++ List.replicate (zs (bs.length + 1)) 0 := by
      rw [← hz1, List.replicate_succ]; simp
    rw [h3, show bs.length + 1 + 1 + zs (bs.length + 1 + 1) = bs.length + 1 + zs (bs.length + 1) from by omega]
    exact fin _
  | false =>
    refine (bif_f rfl).trans ?_
    have hc' : ((bs.length + 1) % 64 : Nat) = 56 := by simp at hc; omega
    have hz0 : zs (bs.length + 1) = 0 := by unfold zs; omega
    have := fin (nl && false)
    rw [hz0] at this
    simpa using this
def run69' : List PV → List Ent → (Res → Option Res) → Option Res
  | [.ow 5 0 [] 0 n none], [.vec false 5 nl l], k => bif allInt .u8 l && (decide (n = l.length) && decide (l.length ≤ 140737488355000)) then k ⟨.ow 5 16 [] 0 (padP (ints l)).length none, [.dead], [.vec false 5 false (pu .u8 (padP (ints l)))]⟩ else none
  | _, _, _ => none
def s69' : Sig := { own := [true], run := run69' }
theorem ok69' : CallOk tau Try.prog 69 s69' := fn_ok tabOk F69_ok mixed fo69 bo69 _ [] 1 [true] run69' (ia69 100) fun xs es k res hr => by
  unfold run69' at hr
  split at hr
  · obtain ⟨hc, hr⟩ := of_bif hr
    simp only [Bool.and_eq_true, decide_eq_true_eq] at hc
    refine ⟨rfl, 0, (e69 100 _ _ _ _).trans ?_⟩
    rw [hc.2.1, pu_ints hc.1, pu_length, g69_eq _ _ (by simpa using hc.2.2)]
    exact hr
  · cases hr
end Go.Proofs.Ytcklhipdldpkhaa.Rx

namespace Go.Proofs.Ytcklhipdldpkhaa.Rx
open Go
set_option linter.unusedVariables false
set_option maxRecDepth 100000
set_option maxHeartbeats 0
noncomputable def F68 : Fns := F0
theorem F68_ok : FnsOk tau Try.prog F68 := F0_ok
def an68 : An := (.seq .leaf (.seq .leaf .leaf))
noncomputable def g68 (f : Nat) (k : Res → Option Res) : Option Res := k (Res.mk (.ar 113 [.sc (.int .u32 1779033703), .sc (.int .u32 3144134277), .sc (.int .u32 1013904242), .sc (.int .u32 2773480762), .sc (.int .u32 1359893119), .sc (.int .u32 2600822924), .sc (.int .u32 528734635), .sc (.int .u32 1541459225)]) [] [])
theorem e68 (f : Nat) (k : Res → Option Res) : evFn tau F68 Try.f68 (Try.f68.body.get!) an68 [.ro] 0 [] [] k = g68 f k := by kernel_rfl
theorem it68 (f : Nat) : items (Try.f68.body.get!) an68 = [] := by kernel_rfl
theorem ia68 (f : Nat) : ∀ q ∈ items (Try.f68.body.get!) an68, q.Ok tau Try.prog 0 := by
  rw [it68 f]; intro q hq; cases hq
theorem fo68 : Try.prog.funcs[68]? = some Try.f68 := by kernel_rfl
theorem bo68 : Try.f68.body = some (Try.f68.body.get!) := by kernel_rfl
theorem en68 : Enters Try.prog 68 := enters_of fo68 (by kernel_rfl) bo68
noncomputable def run68 : List PV → List Ent → (Res → Option Res) → Option Res
  | [], [], k => g68 0  k
  | _, _, _ => none
noncomputable def s68 : Sig := { own := [], run := run68 }
theorem ok68 : CallOk tau Try.prog 68 s68 := fn_ok tabOk F68_ok mixed fo68 bo68 an68 [.ro] 0 [] run68 (ia68 0) fun xs es k res hr => by
  unfold run68 at hr
  split at hr
  · exact ⟨rfl, 0, (e68 0  _).trans hr⟩
  · cases hr
end Go.Proofs.Ytcklhipdldpkhaa.Rx

namespace Go.Proofs.Ytcklhipdldpkhaa.Rx
open Go
set_option linter.unusedVariables false
set_option maxRecDepth 100000
set_option maxHeartbeats 0
def N27 : Nat := 37
noncomputable def F27 : Fns := addF 68 s68 (addF 69 s69' (addF 70 s70' (addF 71 s71' F0)))
theorem F27_ok : FnsOk tau Try.prog F27 := (((F0_ok.add ok71' en71).add ok70' en70).add ok69' en69).add ok68 en68
noncomputable def c27_0 : Code := subC (Try.f27.body.get!) [1, 1, 0, 1, 0, 0]
def nm27_0 : Nm := [(2, .any), (3, .any), (4, .ro)]
def nx27_0 : Nm := [(2, .any), (3, .any)]
def x27_0 : An := (.seq (.seq .leaf (.cond .leaf .leaf)) (.seq (.block none .leaf) .leaf))
noncomputable def c27_1 : Code := subC (Try.f27.body.get!) [1, 1, 1, 1, 0, 1, 0, 0]
def nm27_1 : Nm := [(2, .any), (3, .any), (5, .any), (20, .any)]
def nx27_1 : Nm := [(2, .any), (5, .any)]
def x27_1 : An := (.seq .leaf (.seq (.cond .leaf .leaf) (.seq (.block none (.seq .leaf .leaf)) .leaf)))
def an27 (r0 : RunL) (r1 : RunL) : An := (.seq .leaf (.seq .leaf (.seq (.seq .leaf (.block none (.sum nm27_0 N27 r0))) (.seq .leaf (.seq (.seq .leaf (.block none (.sum nm27_1 N27 r1))) (.seq .leaf .leaf))))))
def lpS27_0 (f : Nat) (rc : List PV → List PV → List PV → Option Res) (k0 : List PV → List PV → Option Res) (v0 : List PV) (v1 : List PV) (v2 : List PV) : Option Res := bif decide (zi v0.length > 0) then bif decide (64 ≤ v0.length) && true then bif allInt IntKind.u32 v2 && decide (v2.length = 8) && (allInt IntKind.u8 (List.take 64 v0) && decide ((List.take 64 v0).length = 64)) then bif decide (64 ≤ v0.length) && decide (v0.length ≤ v0.length) && true then rc (List.drop 64 (List.take v0.length v0)) v1 (pu IntKind.u32 (addP (ints v2) (ints (List.take 64 v0)))) else none else none else none else k0 v1 v2
def lp27_0 (f : Nat) (k0 : List PV → List PV → Option Res) : Nat → List PV → List PV → List PV → Option Res
  | 0, _, _, _ => none
  | n + 1, v0, v1, v2 => lpS27_0 f (lp27_0 f k0 n) k0 v0 v1 v2
theorem lpR27_0 (f : Nat) (k : Kont) (n : Nat) (v0 : List PV) (v1 : List PV) (v2 : List PV) : evLoop tau 0 nm27_0 (fun s k => ev tau F27 0 0 c27_0 (x27_0 ) s k) (n + 1) (fillS nm27_0 N27 [.ptr 608 [], .ptr 609 [], .ro 5 false false v0] [(608, .box false 37 (PV.ar 37 v1)), (609, .box false 113 (PV.ar 113 v2))]) (kNorm tau 0 nx27_0 k) = lpS27_0 f (fun v0 v1 v2 => evLoop tau 0 nm27_0 (fun s k => ev tau F27 0 0 c27_0 (x27_0 ) s k) n (fillS nm27_0 N27 [.ptr 608 [], .ptr 609 [], .ro 5 false false v0] [(608, .box false 37 (PV.ar 37 v1)), (609, .box false 113 (PV.ar 113 v2))]) (kNorm tau 0 nx27_0 k)) (fun x0 x1 => k (Ex.exit 0) (fillS nx27_0 N27 [.ptr 608 [], .ptr 609 []] [(608, .box false 37 (PV.ar 37 x0)), (609, .box false 113 (PV.ar 113 x1))])) v0 v1 v2 := by kernel_rfl
theorem lpE27_0 (f : Nat) (k : Kont) : ∀ (n : Nat) (v0 : List PV) (v1 : List PV) (v2 : List PV), evLoop tau 0 nm27_0 (fun s k => ev tau F27 0 0 c27_0 (x27_0 ) s k) n (fillS nm27_0 N27 [.ptr 608 [], .ptr 609 [], .ro 5 false false v0] [(608, .box false 37 (PV.ar 37 v1)), (609, .box false 113 (PV.ar 113 v2))]) (kNorm tau 0 nx27_0 k) = lp27_0 f (fun x0 x1 => k (Ex.exit 0) (fillS nx27_0 N27 [.ptr 608 [], .ptr 609 []] [(608, .box false 37 (PV.ar 37 x0)), (609, .box false 113 (PV.ar 113 x1))])) n v0 v1 v2 | 0, _, _, _ => rfl | n + 1, v0, v1, v2 => (lpR27_0 f k n v0 v1 v2).trans (congrArg (fun r => lpS27_0 f r (fun x0 x1 => k (Ex.exit 0) (fillS nx27_0 N27 [.ptr 608 [], .ptr 609 []] [(608, .box false 37 (PV.ar 37 x0)), (609, .box false 113 (PV.ar 113 x1))])) v0 v1 v2) (by funext v0 v1 v2; exact lpE27_0 f k n v0 v1 v2))
def r27_0 (f : Nat) : List PV → List (Nat × Ent) → Kont → Option Res
  | [.ptr 608 [], .ptr 609 [],
  PV.ro 5 false false
    v0], [(608, .box false 37 (PV.ar 37 v1)),
  (609,
    Ent.box false 113
      (PV.ar 113
        v2))], k => lp27_0 f (fun x0 x1 => k (Ex.exit 0) (fillS nx27_0 N27 [.ptr 608 [], .ptr 609 []] [(608, .box false 37 (PV.ar 37 x0)), (609, .box false 113 (PV.ar 113 x1))])) f v0 v1 v2
  | _, _, _ => none
theorem it27_0 (f : Nat) : items c27_0 x27_0 = [] := by kernel_rfl
theorem i20_0 (f : Nat) : (Item.l c27_0 nm27_0 N27 (r27_0 f)).Ok tau Try.prog 0 := loop_item tabOk F27_ok mixed (x := x27_0) (nm2 := nx27_0) (anOk_items _ _ (by rw [it27_0 f]; intro q hq; cases hq)) fun vs hp k res hr => by
  unfold r27_0 at hr
  split at hr
  · exact ⟨f, 0, (lpE27_0 f _ f _ _ _ ).trans hr⟩
  · cases hr
def lpS27_1 (f : Nat) (rc : Int → List PV → List PV → List PV → Option Res) (k0 : List PV → List PV → Option Res) (v0 : Int) (v1 : List PV) (v2 : List PV) (v3 : List PV) : Option Res := bif decide (v0 < 32) then bif decide (0 ≤ IntKind.i64.wrap (v0.tdiv 4)) && decide (IntKind.i64.wrap (v0.tdiv 4) < zi 8) && true then bif PV.isInt IntKind.u32 (getP (PV.ar 113 v2) [(IntKind.i64.wrap (v0.tdiv 4)).toNat]) && true then bif decide (0 ≤ IntKind.i64.wrap (24 - IntKind.i64.wrap (8 * v0.tmod 4))) && true then bif decide (0 ≤ v0) && decide (v0 < zi 32) && true then rc (IntKind.i64.wrap (v0 + 1)) v1 v2 (v3.set v0.toNat (.sc (.int .u8 (IntKind.u8.wrap (shrI IntKind.u32 (getP (PV.ar 113 v2) [(IntKind.i64.wrap (v0.tdiv 4)).toNat]).int (IntKind.i64.wrap (24 - IntKind.i64.wrap (8 * v0.tmod 4)))))))) else none else none else none else none else k0 v1 v3
def lp27_1 (f : Nat) (k0 : List PV → List PV → Option Res) : Nat → Int → List PV → List PV → List PV → Option Res
  | 0, _, _, _, _ => none
  | n + 1, v0, v1, v2, v3 => lpS27_1 f (lp27_1 f k0 n) k0 v0 v1 v2 v3
theorem lpR27_1 (f : Nat) (k : Kont) (n : Nat) (v0 : Int) (v1 : List PV) (v2 : List PV) (v3 : List PV) : evLoop tau 0 nm27_1 (fun s k => ev tau F27 0 0 c27_1 (x27_1 ) s k) (n + 1) (fillS nm27_1 N27 [.ptr 608 [], .ptr 609 [], .ptr 610 [], .sc (.int .i64 v0)] [(608, .box false 37 (PV.ar 37 v1)), (609, .box false 113 (PV.ar 113 v2)), (610, .box false 37 (PV.ar 37 v3))]) (kNorm tau 0 nx27_1 k) = lpS27_1 f (fun v0 v1 v2 v3 => evLoop tau 0 nm27_1 (fun s k => ev tau F27 0 0 c27_1 (x27_1 ) s k) n (fillS nm27_1 N27 [.ptr 608 [], .ptr 609 [], .ptr 610 [], .sc (.int .i64 v0)] [(608, .box false 37 (PV.ar 37 v1)), (609, .box false 113 (PV.ar 113 v2)), (610, .box false 37 (PV.ar 37 v3))]) (kNorm tau 0 nx27_1 k)) (fun x0 x1 => k (Ex.exit 2) (fillS nx27_1 N27 [.ptr 608 [], .ptr 609 []] [(608, .box false 37 (PV.ar 37 x0)), (609, .box false 37 (PV.ar 37 x1))])) v0 v1 v2 v3 := by kernel_rfl
theorem lpE27_1 (f : Nat) (k : Kont) : ∀ (n : Nat) (v0 : Int) (v1 : List PV) (v2 : List PV) (v3 : List PV), evLoop tau 0 nm27_1 (fun s k => ev tau F27 0 0 c27_1 (x27_1 ) s k) n (fillS nm27_1 N27 [.ptr 608 [], .ptr 609 [], .ptr 610 [], .sc (.int .i64 v0)] [(608, .box false 37 (PV.ar 37 v1)), (609, .box false 113 (PV.ar 113 v2)), (610, .box false 37 (PV.ar 37 v3))]) (kNorm tau 0 nx27_1 k) = lp27_1 f (fun x0 x1 => k (Ex.exit 2) (fillS nx27_1 N27 [.ptr 608 [], .ptr 609 []] [(608, .box false 37 (PV.ar 37 x0)), (609, .box false 37 (PV.ar 37 x1))])) n v0 v1 v2 v3 | 0, _, _, _, _ => rfl | n + 1, v0, v1, v2, v3 => (lpR27_1 f k n v0 v1 v2 v3).trans (congrArg (fun r => lpS27_1 f r (fun x0 x1 => k (Ex.exit 2) (fillS nx27_1 N27 [.ptr 608 [], .ptr 609 []] [(608, .box false 37 (PV.ar 37 x0)), (609, .box false 37 (PV.ar 37 x1))])) v0 v1 v2 v3) (by funext v0 v1 v2 v3; exact lpE27_1 f k n v0 v1 v2 v3))
def r27_1 (f : Nat) : List PV → List (Nat × Ent) → Kont → Option Res
  | [.ptr 608 [], .ptr 609 [], .ptr 610 [],
  PV.sc
    (Value.int IntKind.i64
      v0)], [(608, .box false 37 (PV.ar 37 v1)), (609, .box false 113 (PV.ar 113 v2)),
  (610,
    Ent.box false 37
      (PV.ar 37
        v3))], k => lp27_1 f (fun x0 x1 => k (Ex.exit 2) (fillS nx27_1 N27 [.ptr 608 [], .ptr 609 []] [(608, .box false 37 (PV.ar 37 x0)), (609, .box false 37 (PV.ar 37 x1))])) f v0 v1 v2 v3
  | _, _, _ => none
theorem it27_1 (f : Nat) : items c27_1 x27_1 = [] := by kernel_rfl
theorem i20_1 (f : Nat) : (Item.l c27_1 nm27_1 N27 (r27_1 f)).Ok tau Try.prog 0 := loop_item tabOk F27_ok mixed (x := x27_1) (nm2 := nx27_1) (anOk_items _ _ (by rw [it27_1 f]; intro q hq; cases hq)) fun vs hp k res hr => by
  unfold r27_1 at hr
  split at hr
  · exact ⟨f, 0, (lpE27_1 f _ f _ _ _ _ ).trans hr⟩
  · cases hr
def g27 (f : Nat) (nl : Bool) (fl : Bool) (l : List PV) (k : Res → Option Res) : Option Res := bif l.all (PV.isRo 5) && (decide ((flat l).length ≤ 140737488355328) && decide (l.length ≤ 140737488355328)) then bif allInt IntKind.u8 (flat l) && (decide ((flat l).length = (flat l).length) && decide ((flat l).length ≤ 140737488355000)) then lp27_0 f (fun x0_0 x1_0 => lp27_1 f (fun x0_1 x1_1 => k (Res.mk (.ar 37 x1_1) [] [])) f (0) x0_0 x1_0 ([.sc (.int .u8 0), .sc (.int .u8 0), .sc (.int .u8 0), .sc (.int .u8 0), .sc (.int .u8 0), .sc (.int .u8 0), .sc (.int .u8 0), .sc (.int .u8 0), .sc (.int .u8 0), .sc (.int .u8 0), .sc (.int .u8 0), .sc (.int .u8 0), .sc (.int .u8 0), .sc (.int .u8 0), .sc (.int .u8 0), .sc (.int .u8 0), .sc (.int .u8 0), .sc (.int .u8 0), .sc (.int .u8 0), .sc (.int .u8 0), .sc (.int .u8 0), .sc (.int .u8 0), .sc (.int .u8 0), .sc (.int .u8 0), .sc (.int .u8 0), .sc (.int .u8 0), .sc (.int .u8 0), .sc (.int .u8 0), .sc (.int .u8 0), .sc (.int .u8 0), .sc (.int .u8 0), .sc (.int .u8 0)])) f (List.take (padP (ints (flat l))).length (pu IntKind.u8 (padP (ints (flat l))))) ([.sc (.int .u8 0), .sc (.int .u8 0), .sc (.int .u8 0), .sc (.int .u8 0), .sc (.int .u8 0), .sc (.int .u8 0), .sc (.int .u8 0), .sc (.int .u8 0), .sc (.int .u8 0), .sc (.int .u8 0), .sc (.int .u8 0), .sc (.int .u8 0), .sc (.int .u8 0), .sc (.int .u8 0), .sc (.int .u8 0), .sc (.int .u8 0), .sc (.int .u8 0), .sc (.int .u8 0), .sc (.int .u8 0), .sc (.int .u8 0), .sc (.int .u8 0), .sc (.int .u8 0), .sc (.int .u8 0), .sc (.int .u8 0), .sc (.int .u8 0), .sc (.int .u8 0), .sc (.int .u8 0), .sc (.int .u8 0), .sc (.int .u8 0), .sc (.int .u8 0), .sc (.int .u8 0), .sc (.int .u8 0)]) ([.sc (.int .u32 1779033703), .sc (.int .u32 3144134277), .sc (.int .u32 1013904242), .sc (.int .u32 2773480762), .sc (.int .u32 1359893119), .sc (.int .u32 2600822924), .sc (.int .u32 528734635), .sc (.int .u32 1541459225)]) else none else none
theorem e27 (f : Nat) (nl : Bool) (fl : Bool) (l : List PV) (k : Res → Option Res) : evFn tau F27 Try.f27 (Try.f27.body.get!) (an27 (r27_0 f) (r27_1 f)) [] 0 [.ro 29 nl fl l] [] k = g27 f nl fl l k := by kernel_rfl
theorem it27 (f : Nat) : items (Try.f27.body.get!) (an27 (r27_0 f) (r27_1 f)) = [.l c27_0 nm27_0 N27 (r27_0 f), .l c27_1 nm27_1 N27 (r27_1 f)] := by kernel_rfl
theorem ia27 (f : Nat) : ∀ q ∈ items (Try.f27.body.get!) (an27 (r27_0 f) (r27_1 f)), q.Ok tau Try.prog 0 := by
  rw [it27 f]; simp only [List.forall_mem_cons, List.not_mem_nil, false_implies, implies_true, and_true]; exact ⟨i20_0 f, i20_1 f⟩
theorem fo27 : Try.prog.funcs[27]? = some Try.f27 := by kernel_rfl
theorem bo27 : Try.f27.body = some (Try.f27.body.get!) := by kernel_rfl
theorem en27 : Enters Try.prog 27 := enters_of fo27 (by kernel_rfl) bo27
end Go.Proofs.Ytcklhipdldpkhaa.Rx

-- FN sha.Sum
namespace Go.Proofs.Ytcklhipdldpkhaa.Rx
open Go
set_option linter.unusedVariables false
set_option maxRecDepth 100000
set_option maxHeartbeats 1000000
theorem iv_length : iv.length = 8 := rfl
theorem l27_0 (P : List Int) (m : Nat) (hP : P.length = 64 * m) (f : Nat) (k0 : List PV → List PV → Option Res) (a : List PV) : ∀ (d i n : Nat), i + d = m → d < n →
    lp27_0 f k0 n (pu .u8 (P.drop (64 * i))) a (pu .u32 (foldB iv P i)) = k0 a (pu .u32 (foldB iv P m))
  | 0, i, n + 1, h, hn => by
      obtain rfl : i = m := by omega
      have hl : (P.drop (64 * i)).length = 0 := by rw [List.length_drop]; omega
      simp only [lp27_0, lpS27_0, pu_length, hl]
      exact bif_f (by decide)
  | d + 1, i, n + 1, h, hn => by
      have hl : 64 ≤ (P.drop (64 * i)).length := by rw [List.length_drop]; omega
      have hf := foldB_length iv P iv_length i
      simp only [lp27_0, lpS27_0, pu_length, pu_take, allInt_pu, hf, ints_pu]
      refine (bif_t (by simp; omega)).trans ?_
      refine (bif_t (by simp at hl ⊢; omega)).trans ?_
      refine (bif_t (by simp at hl ⊢; omega)).trans ?_
      refine (bif_t (by simp at hl ⊢; omega)).trans ?_
      rw [List.take_of_length_le (Nat.le_refl _), pu_drop, List.drop_drop]
      have := l27_0 P m hP f k0 a d (i + 1) n (by omega) (by omega)
      rw [show 64 * i + 64 = 64 * (i + 1) from by omega]
      exact this
theorem l27_1 (s : List Int) (hs : s.length = 8) (f : Nat) (k0 : List PV → List PV → Option Res) (a : List PV) (t : List Int) (ht : t.length = 32) : ∀ (d i n : Nat), i + d = 32 → d < n →
    lp27_1 f k0 n (i : Int) a (pu .u32 s) (pu .u8 (fillM (outB s) t i)) = k0 a (pu .u8 (outP s))
  | 0, i, n + 1, h, hn => by
      obtain rfl : i = 32 := by omega
      simp only [lp27_1, lpS27_1]
      refine (bif_f (by decide)).trans ?_
      have := fillM_full (outB s) t
      rw [ht] at this; rw [this]; rfl
  | d + 1, i, n + 1, h, hn => by
      have e1 : ((i : Int)).tdiv 4 = ((i / 4 : Nat) : Int) := by rw [Int.tdiv_eq_ediv_of_nonneg (by omega)]; omega
      have e2 : ((i : Int)).tmod 4 = ((i % 4 : Nat) : Int) := by rw [Int.tmod_eq_emod_of_nonneg (by omega)]; omega
      have h1 : IntKind.i64.wrap ((i : Int) + 1) = ((i + 1 : Nat) : Int) := by rw [wrap_i64 (by omega) (by omega)]; omega
      have h2 : IntKind.i64.wrap ((i / 4 : Nat) : Int) = ((i / 4 : Nat) : Int) := wrap_i64 (by omega) (by omega)
      have h3 : IntKind.i64.wrap (8 * ((i % 4 : Nat) : Int)) = 8 * ((i % 4 : Nat) : Int) := wrap_i64 (by omega) (by omega)
      have h4 : IntKind.i64.wrap (24 - 8 * ((i % 4 : Nat) : Int)) = 24 - 8 * ((i % 4 : Nat) : Int) := wrap_i64 (by omega) (by omega)
      have g1 : ((i : Int)).toNat = i := by omega
      have g2 : (((i / 4 : Nat) : Int)).toNat = i / 4 := by omega
      have c0 : decide ((i : Int) < 32) = true := by simp; omega
      have c1 : (decide (0 ≤ ((i / 4 : Nat) : Int)) && decide (((i / 4 : Nat) : Int) < zi 8) && true) = true := by simp; omega
      have c2 : (decide (0 ≤ 24 - 8 * ((i % 4 : Nat) : Int)) && true) = true := by simp; omega
      have c3 : (decide (0 ≤ (i : Int)) && decide ((i : Int) < zi 32) && true) = true := by simp; omega
      simp only [lp27_1, lpS27_1, e1, e2, h1, h2, h3, h4, g1, g2, getP_ar, c0, c1, c2, c3, getD8 hs (i / 4) (by omega), PV.isInt, PV.int, decide_true, Bool.and_true, cond_true, pu_set]
      have := l27_1 s hs f k0 a t ht d (i + 1) n (by omega) (by omega)
      rw [← fillM_set (outB s) t i (by omega)] at this
      exact this
theorem g27_eq (nl fl : Bool) (l : List PV) (k : Res → Option Res) (hl : l.all (PV.isRo 5) = true) (hn : l.length ≤ 140737488355328) (hi : allInt .u8 (flat l) = true) (hs : (flat l).length ≤ 140737488355000) :
    g27 ((padP (ints (flat l))).length / 64 + 100) nl fl l k = k ⟨.ar 37 (pu .u8 (sumP (ints (flat l)))), [], []⟩ := by
  refine (bif_t (by simp only [hl, Bool.true_and, Bool.and_eq_true, decide_eq_true_eq]; omega)).trans ?_
  refine (bif_t (by simp only [hi, Bool.true_and, Bool.and_eq_true, decide_eq_true_eq, true_and]; exact hs)).trans ?_
  rw [pu_take, List.take_of_length_le (Nat.le_refl _)]
  generalize hP : padP (ints (flat l)) = P
  have hlen : P.length = 64 * (P.length / 64) := by rw [← hP]; exact padP_length _
  have h0 : ∀ k0 a, lp27_0 (P.length / 64 + 100) k0 (P.length / 64 + 100) (pu .u8 P) a (pu .u32 iv) = k0 a (pu .u32 (foldB iv P (P.length / 64))) := fun k0 a => l27_0 P (P.length / 64) hlen _ k0 a (P.length / 64) 0 _ (by omega) (by omega)
  have h1 : ∀ k0 a s, s.length = 8 → lp27_1 (P.length / 64 + 100) k0 (P.length / 64 + 100) 0 a (pu .u32 s) (pu .u8 (List.replicate 32 0)) = k0 a (pu .u8 (outP s)) := by
    intro k0 a s hs
    have := l27_1 s hs (P.length / 64 + 100) k0 a (List.replicate 32 0) (by simp) 32 0 (P.length / 64 + 100) (by omega) (by omega)
    rw [fillM_zero] at this
    exact this
  refine (h0 _ _).trans ((h1 _ _ _ (foldB_length iv P iv_length _)).trans ?_)
  rw [sumP_eq, sumP0, hP]
def run27' : List PV → List Ent → (Res → Option Res) → Option Res
  | [.ro 29 nl fl l], [], k => bif (l.all (PV.isRo 5) && decide (l.length ≤ 140737488355328)) && (allInt .u8 (flat l) && decide ((flat l).length ≤ 140737488355000)) then k ⟨.ar 37 (pu .u8 (sumP (ints (flat l)))), [], []⟩ else none
  | _, _, _ => none
def s27' : Sig := { own := [], run := run27' }
theorem ok27' : CallOk tau Try.prog 27 s27' := fn_ok2 tabOk F27_ok mixed fo27 bo27 (fun n => an27 (r27_0 n) (r27_1 n)) [] 0 [] run27' (fun n => ia27 n) fun xs es k res hr => by
  unfold run27' at hr
  split at hr
  · rename_i nl fl l
    obtain ⟨hc, hr⟩ := of_bif hr
    simp only [Bool.and_eq_true, decide_eq_true_eq] at hc
    refine ⟨rfl, (padP (ints (flat l))).length / 64 + 100, 0, (e27 _ _ _ _ _).trans ?_⟩
    rw [g27_eq nl fl l k hc.1.1 hc.1.2 hc.2.1 hc.2.2]; exact hr
  · cases hr
end Go.Proofs.Ytcklhipdldpkhaa.Rx

namespace Go.Proofs.Ytcklhipdldpkhaa.Rx
open Go
set_option linter.unusedVariables false
set_option maxRecDepth 100000
set_option maxHeartbeats 0
noncomputable def F136 : Fns := F0
theorem F136_ok : FnsOk tau Try.prog F136 := F0_ok
def an136 : An := (.seq .leaf (.seq (.seq .leaf (.cond (.seq .leaf .leaf) .leaf)) (.seq .leaf .leaf)))
noncomputable def g136 (f : Nat) (s_z : Bool) (s_f : Bool) (s : List PV) (k : Res → Option Res) : Option Res := bif s_z then k (Res.mk (.ro 29 true true []) [] []) else bif roomy (0 + s.length) 24 && true then k (Res.mk (.ow 29 16 [] 0 (0 + s.length) none) [] [.vec false 29 false s]) else none
theorem e136 (f : Nat) (s_z : Bool) (s_f : Bool) (s : List PV) (k : Res → Option Res) : evFn tau F136 Try.f136 (Try.f136.body.get!) an136 [] 0 [.ro 29 s_z s_f s] [] k = g136 f s_z s_f s k := by kernel_rfl
theorem it136 (f : Nat) : items (Try.f136.body.get!) an136 = [] := by kernel_rfl
theorem ia136 (f : Nat) : ∀ q ∈ items (Try.f136.body.get!) an136, q.Ok tau Try.prog 0 := by
  rw [it136 f]; intro q hq; cases hq
theorem fo136 : Try.prog.funcs[136]? = some Try.f136 := by kernel_rfl
theorem bo136 : Try.f136.body = some (Try.f136.body.get!) := by kernel_rfl
theorem en136 : Enters Try.prog 136 := enters_of fo136 (by kernel_rfl) bo136
noncomputable def run136 : List PV → List Ent → (Res → Option Res) → Option Res
  | [.ro 29 s_z s_f s], [], k => g136 0 s_z s_f s k
  | _, _, _ => none
noncomputable def s136 : Sig := { own := [], run := run136 }
theorem ok136 : CallOk tau Try.prog 136 s136 := fn_ok tabOk F136_ok mixed fo136 bo136 an136 [] 0 [] run136 (ia136 0) fun xs es k res hr => by
  unfold run136 at hr
  split at hr
  · exact ⟨rfl, 0, (e136 0 _ _ _  _).trans hr⟩
  · cases hr
end Go.Proofs.Ytcklhipdldpkhaa.Rx

-- FN slices.overlaps[[]byte]
-- EXT slices.overlaps[[]byte]
namespace Go.Proofs.Ytcklhipdldpkhaa.Rx
open Go
set_option maxRecDepth 100000
noncomputable def s157' : Sig := { own := [true, true], run := ovRun 29 }
theorem ok157' : CallOkD tau (ValD Try.prog 157) s157' :=
  ov_ok (fn := Try.f157) (t := 47) (tR := 4) tabOk (by kernel_rfl) (by kernel_rfl) (by kernel_rfl) (by kernel_rfl) (by kernel_rfl) (by kernel_rfl) (by
    have h : tau.und 29 = some (.slice 5) := by kernel_rfl
    rw [h]; intro h; cases h)
end Go.Proofs.Ytcklhipdldpkhaa.Rx

namespace Go.Proofs.Ytcklhipdldpkhaa.Rx
open Go
set_option linter.unusedVariables false
set_option maxRecDepth 100000
set_option maxHeartbeats 0
noncomputable def F140 : Fns := addF 157 s157' (F0)
theorem F140_ok : FnsOk tau Try.prog F140 := (F0_ok).addV ok157'
def an140 : An := (.seq .leaf (.seq .leaf (.seq .leaf (.seq (.seq .leaf (.cond (.seq .leaf .leaf) .leaf)) (.seq .leaf (.seq (.seq .leaf (.cond (.seq .leaf .leaf) .leaf)) (.seq (.seq .leaf (.cond (.seq .leaf (.seq .leaf (.seq .leaf (.seq .leaf .leaf)))) .leaf)) (.seq .leaf (.seq (.seq .leaf (.cond (.seq .leaf (.seq .leaf (.seq .leaf .leaf))) .leaf)) (.seq .leaf (.seq .leaf (.seq .leaf .leaf))))))))))))
noncomputable def g140 (f : Nat) (nl : Bool) (L : List PV) (n : Nat) (c : Nat) (x : PV) (k : Res → Option Res) : Option Res := bif decide (n + 1 ≤ (some c).getD (L.length - 0)) && true then bif decide (IntKind.i64.wrap (zi (n + 1) + zi 1) > zi c) then bif decide (0 ≤ IntKind.i64.wrap (IntKind.i64.wrap (zi (n + 1) + zi 1) - 0)) && decide (c - 0 < 0 + (IntKind.i64.wrap (IntKind.i64.wrap (zi (n + 1) + zi 1) - 0)).toNat) && roomy (0 + (IntKind.i64.wrap (IntKind.i64.wrap (zi (n + 1) + zi 1) - 0)).toNat) 24 && true then bif decide (0 + (IntKind.i64.wrap (IntKind.i64.wrap (zi (n + 1) + zi 1) - 0)).toNat ≤ none.getD ((List.replicate (IntKind.i64.wrap (IntKind.i64.wrap (zi (n + 1) + zi 1) - 0)).toNat (PV.ro 5 true true [])).length - 0)) && true then bif decide (1 ≤ 0 + (IntKind.i64.wrap (IntKind.i64.wrap (zi (n + 1) + zi 1) - 0)).toNat) && decide (0 + (IntKind.i64.wrap (IntKind.i64.wrap (zi (n + 1) + zi 1) - 0)).toNat ≤ none.getD ((List.take (0 + (IntKind.i64.wrap (IntKind.i64.wrap (zi (n + 1) + zi 1) - 0)).toNat - 0) [x] ++ List.drop (0 + min 1 (0 + (IntKind.i64.wrap (IntKind.i64.wrap (zi (n + 1) + zi 1) - 0)).toNat - 0)) (List.replicate (IntKind.i64.wrap (IntKind.i64.wrap (zi (n + 1) + zi 1) - 0)).toNat (PV.ro 5 true true []))).length - 0)) && true then bif decide (n + 1 ≤ (some c).getD (L.length - 0)) && true then k (Res.mk (.ro 29 false false (List.take (0 + (IntKind.i64.wrap (IntKind.i64.wrap (zi (n + 1) + zi 1) - 0)).toNat) (List.take 1 (List.take (0 + (IntKind.i64.wrap (IntKind.i64.wrap (zi (n + 1) + zi 1) - 0)).toNat - 0) [x] ++ List.drop (0 + min 1 (0 + (IntKind.i64.wrap (IntKind.i64.wrap (zi (n + 1) + zi 1) - 0)).toNat - 0)) (List.replicate (IntKind.i64.wrap (IntKind.i64.wrap (zi (n + 1) + zi 1) - 0)).toNat (PV.ro 5 true true []))) ++ List.take (0 + (IntKind.i64.wrap (IntKind.i64.wrap (zi (n + 1) + zi 1) - 0)).toNat - 1) (List.take (n + 1 - 0) L) ++ List.drop (1 + min (List.take (n + 1 - 0) L).length (0 + (IntKind.i64.wrap (IntKind.i64.wrap (zi (n + 1) + zi 1) - 0)).toNat - 1)) (List.take (0 + (IntKind.i64.wrap (IntKind.i64.wrap (zi (n + 1) + zi 1) - 0)).toNat - 0) [x] ++ List.drop (0 + min 1 (0 + (IntKind.i64.wrap (IntKind.i64.wrap (zi (n + 1) + zi 1) - 0)).toNat - 0)) (List.replicate (IntKind.i64.wrap (IntKind.i64.wrap (zi (n + 1) + zi 1) - 0)).toNat (PV.ro 5 true true [])))))) [.vec false 29 nl L, .vec false 29 false [x]] []) else none else none else none else none else bif decide (0 ≤ IntKind.i64.wrap (zi (n + 1) + zi 1)) && true && decide ((IntKind.i64.wrap (zi (n + 1) + zi 1)).toNat ≤ (some c).getD (L.length - 0)) && true then bif decide (1 ≤ (IntKind.i64.wrap (zi (n + 1) + zi 1)).toNat - 0) && decide ((IntKind.i64.wrap (zi (n + 1) + zi 1)).toNat - 0 ≤ (some (c - 0)).getD (L.length - 0)) && true then bif Nat.blt 0 ((IntKind.i64.wrap (zi (n + 1) + zi 1)).toNat - 0 - 1) && true then bif decide (1 ≤ (IntKind.i64.wrap (zi (n + 1) + zi 1)).toNat - 0) && decide ((IntKind.i64.wrap (zi (n + 1) + zi 1)).toNat - 0 ≤ (some (c - 0)).getD (L.length - 0)) && true then bif decide ((IntKind.i64.wrap (zi (n + 1) + zi 1)).toNat - 0 ≤ (some (c - 0)).getD (L.length - 0)) && true then bif decide ((IntKind.i64.wrap (zi (n + 1) + zi 1)).toNat - 0 ≤ (some (c - 0)).getD ((List.take 1 L ++ List.take ((IntKind.i64.wrap (zi (n + 1) + zi 1)).toNat - 0 - 1) (List.take ((IntKind.i64.wrap (zi (n + 1) + zi 1)).toNat - 0 - 0) L) ++ List.drop (1 + min (List.take ((IntKind.i64.wrap (zi (n + 1) + zi 1)).toNat - 0 - 0) L).length ((IntKind.i64.wrap (zi (n + 1) + zi 1)).toNat - 0 - 1)) L).length - 0)) && true then k (Res.mk (.ro 29 (Ent.vec false 29 nl (List.take ((IntKind.i64.wrap (zi (n + 1) + zi 1)).toNat - 0 - 0) [x] ++ List.drop (0 + min 1 ((IntKind.i64.wrap (zi (n + 1) + zi 1)).toNat - 0 - 0)) (List.take 1 L ++ List.take ((IntKind.i64.wrap (zi (n + 1) + zi 1)).toNat - 0 - 1) (List.take ((IntKind.i64.wrap (zi (n + 1) + zi 1)).toNat - 0 - 0) L) ++ List.drop (1 + min (List.take ((IntKind.i64.wrap (zi (n + 1) + zi 1)).toNat - 0 - 0) L).length ((IntKind.i64.wrap (zi (n + 1) + zi 1)).toNat - 0 - 1)) L))).nil false (List.take ((IntKind.i64.wrap (zi (n + 1) + zi 1)).toNat - 0) (List.take ((IntKind.i64.wrap (zi (n + 1) + zi 1)).toNat - 0 - 0) [x] ++ List.drop (0 + min 1 ((IntKind.i64.wrap (zi (n + 1) + zi 1)).toNat - 0 - 0)) (List.take 1 L ++ List.take ((IntKind.i64.wrap (zi (n + 1) + zi 1)).toNat - 0 - 1) (List.take ((IntKind.i64.wrap (zi (n + 1) + zi 1)).toNat - 0 - 0) L) ++ List.drop (1 + min (List.take ((IntKind.i64.wrap (zi (n + 1) + zi 1)).toNat - 0 - 0) L).length ((IntKind.i64.wrap (zi (n + 1) + zi 1)).toNat - 0 - 1)) L)))) [.vec true 29 nl (List.take ((IntKind.i64.wrap (zi (n + 1) + zi 1)).toNat - 0 - 0) [x] ++ List.drop (0 + min 1 ((IntKind.i64.wrap (zi (n + 1) + zi 1)).toNat - 0 - 0)) (List.take 1 L ++ List.take ((IntKind.i64.wrap (zi (n + 1) + zi 1)).toNat - 0 - 1) (List.take ((IntKind.i64.wrap (zi (n + 1) + zi 1)).toNat - 0 - 0) L) ++ List.drop (1 + min (List.take ((IntKind.i64.wrap (zi (n + 1) + zi 1)).toNat - 0 - 0) L).length ((IntKind.i64.wrap (zi (n + 1) + zi 1)).toNat - 0 - 1)) L)), .vec false 29 false [x]] []) else none else none else none else none else none else none else none
theorem e140 (f : Nat) (nl : Bool) (L : List PV) (n : Nat) (c : Nat) (x : PV) (k : Res → Option Res) : evFn tau F140 Try.f140 (Try.f140.body.get!) an140 [.ro] 0 [.ow 29 0 [] 0 (n + 1) (some c), .sc (.int .i64 0), .ow 29 1 [] 0 1 (some 1)] [.vec false 29 nl L, .vec false 29 false [x]] k = g140 f nl L n c x k := by kernel_rfl
theorem it140 (f : Nat) : items (Try.f140.body.get!) an140 = [] := by kernel_rfl
theorem ia140 (f : Nat) : ∀ q ∈ items (Try.f140.body.get!) an140, q.Ok tau Try.prog 2 := by
  rw [it140 f]; intro q hq; cases hq
theorem fo140 : Try.prog.funcs[140]? = some Try.f140 := by kernel_rfl
theorem bo140 : Try.f140.body = some (Try.f140.body.get!) := by kernel_rfl
theorem en140 : Enters Try.prog 140 := enters_of fo140 (by kernel_rfl) bo140
end Go.Proofs.Ytcklhipdldpkhaa.Rx

namespace Go.Proofs.Ytcklhipdldpkhaa.Rx
open Go
set_option linter.unusedVariables false
set_option maxRecDepth 100000
set_option maxHeartbeats 0
noncomputable def F140b : Fns := addF 157 s157' (F0)
theorem F140b_ok : FnsOk tau Try.prog F140b := (F0_ok).addV ok157'
def an140b : An := (.seq .leaf (.seq .leaf (.seq .leaf (.seq (.seq .leaf (.cond (.seq .leaf .leaf) .leaf)) (.seq .leaf (.seq (.seq .leaf (.cond (.seq .leaf .leaf) .leaf)) (.seq (.seq .leaf (.cond (.seq .leaf (.seq .leaf (.seq .leaf (.seq .leaf .leaf)))) .leaf)) (.seq .leaf (.seq (.seq .leaf (.cond (.seq .leaf (.seq .leaf (.seq .leaf .leaf))) .leaf)) (.seq .leaf (.seq .leaf (.seq .leaf .leaf))))))))))))
noncomputable def g140b (f : Nat) (x : PV) (k : Res → Option Res) : Option Res := k (Res.mk (.ro 29 false false [x]) [.vec false 29 false [x]] [])
theorem e140b (f : Nat) (x : PV) (k : Res → Option Res) : evFn tau F140b Try.f140 (Try.f140.body.get!) an140b [.ro] 0 [.ro 29 true true [], .sc (.int .i64 0), .ow 29 0 [] 0 1 (some 1)] [.vec false 29 false [x]] k = g140b f x k := by kernel_rfl
theorem it140b (f : Nat) : items (Try.f140.body.get!) an140b = [] := by kernel_rfl
theorem ia140b (f : Nat) : ∀ q ∈ items (Try.f140.body.get!) an140b, q.Ok tau Try.prog 1 := by
  rw [it140b f]; intro q hq; cases hq
theorem fo140b : Try.prog.funcs[140]? = some Try.f140 := by kernel_rfl
theorem bo140b : Try.f140.body = some (Try.f140.body.get!) := by kernel_rfl
end Go.Proofs.Ytcklhipdldpkhaa.Rx

namespace Go.Proofs.Ytcklhipdldpkhaa.Rx
open Go
set_option linter.unusedVariables false
set_option maxRecDepth 100000
set_option maxHeartbeats 0
noncomputable def F140c : Fns := addF 157 s157' (F0)
theorem F140c_ok : FnsOk tau Try.prog F140c := (F0_ok).addV ok157'
def an140c : An := (.seq .leaf (.seq .leaf (.seq .leaf (.seq (.seq .leaf (.cond (.seq .leaf .leaf) .leaf)) (.seq .leaf (.seq (.seq .leaf (.cond (.seq .leaf .leaf) .leaf)) (.seq (.seq .leaf (.cond (.seq .leaf (.seq .leaf (.seq .leaf (.seq .leaf .leaf)))) .leaf)) (.seq .leaf (.seq (.seq .leaf (.cond (.seq .leaf (.seq .leaf (.seq .leaf .leaf))) .leaf)) (.seq .leaf (.seq .leaf (.seq .leaf .leaf))))))))))))
noncomputable def g140c (f : Nat) (nl : Bool) (x : PV) (k : Res → Option Res) : Option Res := k (Res.mk (.ro 29 (Ent.vec false 29 (nl && ((Ent.vec false 29 false [x]).nil, List.take 1 (List.drop 0 [x])).snd.isEmpty) [x]).nil false [x]) [.dead, .vec false 29 false [x]] [])
theorem e140c (f : Nat) (nl : Bool) (x : PV) (k : Res → Option Res) : evFn tau F140c Try.f140 (Try.f140.body.get!) an140c [.ro] 0 [.ow 29 0 [] 0 0 none, .sc (.int .i64 0), .ow 29 1 [] 0 1 (some 1)] [.vec false 29 nl [], .vec false 29 false [x]] k = g140c f nl x k := by kernel_rfl
theorem it140c (f : Nat) : items (Try.f140.body.get!) an140c = [] := by kernel_rfl
theorem ia140c (f : Nat) : ∀ q ∈ items (Try.f140.body.get!) an140c, q.Ok tau Try.prog 2 := by
  rw [it140c f]; intro q hq; cases hq
theorem fo140c : Try.prog.funcs[140]? = some Try.f140 := by kernel_rfl
theorem bo140c : Try.f140.body = some (Try.f140.body.get!) := by kernel_rfl
end Go.Proofs.Ytcklhipdldpkhaa.Rx

-- FN slices.Insert[[][]byte,[]byte]
namespace Go.Proofs.Ytcklhipdldpkhaa.Rx
open Go
set_option linter.unusedVariables false
set_option linter.unusedSimpArgs false
set_option maxRecDepth 100000
set_option maxHeartbeats 1000000
theorem g_ins (els : List PV) (n : Nat) (hn : els.length = n + 1) (hb : n ≤ 1000000000) (c : Nat) (hc : n + 1 ≤ c) (x : PV) :
    ∃ r, g140 0 false (els ++ List.replicate (c - (n + 1)) .top) n c x some = some r ∧ ∃ p0 p1, r = ⟨.ro 29 false false (x :: els), [p0, p1], []⟩ := by
  have h1 : IntKind.i64.wrap (zi (n + 1) + zi 1) = ((n + 2 : Nat) : Int) := by simp only [zi]; rw [wrap_i64 (by omega) (by omega)]; omega
  have h2 : IntKind.i64.wrap (((n + 2 : Nat) : Int) - 0) = ((n + 2 : Nat) : Int) := by rw [wrap_i64 (by omega) (by omega)]; omega
  have h3 : (((n + 2 : Nat) : Int)).toNat = n + 2 := by omega
  have hL : (els ++ List.replicate (c - (n + 1)) PV.top).length = c := by simp; omega
  have hB : ∀ a b, a < b → Nat.blt a b = true := fun a b h => by rw [Nat.blt, Nat.ble_eq]; exact h
  unfold g140
  simp only [h1, h2, h3, Option.getD_some, Option.getD_none, Nat.sub_zero, Nat.zero_add, List.nil_append]
  have hbt : ∀ {c : Bool} {a b : Option Res} (h : c = true), (bif c then a else b) = a := fun h => bif_t h
  by_cases hg : c < n + 2
  · obtain rfl : c = n + 1 := by omega
    have e0 : n + 1 - (n + 1) = 0 := by omega
    simp only [e0, List.replicate_zero, List.append_nil, List.length_append, List.length_take, List.length_drop, List.length_replicate, List.length_cons, List.length_nil]
    have t1 : List.take (n + 2) [x] = [x] := List.take_of_length_le (by simp)
    have t2 : List.take (n + 1) els = els := List.take_of_length_le (by omega)
    have t3 : List.take 1 ([x] ++ List.drop (min 1 (n + 2)) (List.replicate (n + 2) (PV.ro 5 true true []))) = [x] := by simp
    have hr : roomy (n + 2) 24 = true := by simp [roomy]; omega
    refine ⟨_, (hbt (by simp <;> omega)).trans ((hbt (by simp [zi] <;> omega)).trans ((hbt (by simp only [hr]; simp <;> omega)).trans ((hbt (by simp)).trans ((hbt (by simp <;> omega)).trans ((hbt (by simp <;> omega)).trans rfl))))), ?_⟩
    simp only [t1, t2, t3, hn]
    have t4 : List.take (n + 2 - 1) els = els := List.take_of_length_le (by omega)
    have t5 : List.drop (1 + min (min (n + 1) (n + 1)) (n + 2 - 1)) ([x] ++ List.drop (min 1 (n + 2)) (List.replicate (n + 2) (PV.ro 5 true true []))) = [] := List.drop_eq_nil_iff.2 (by simp; omega)
    rw [t4, t5]
    have t6 : List.take (n + 2) ([x] ++ els ++ []) = x :: els := by rw [List.take_of_length_le (by simp; omega)]; simp
    rw [t6]
    exact ⟨_, _, rfl⟩
  · have t1 : List.take (n + 2 - 1) (List.take (n + 2) (els ++ List.replicate (c - (n + 1)) PV.top)) = els := by
      rw [List.take_take, show min (n + 2 - 1) (n + 2) = els.length from by omega, List.take_left']
      rfl
    have t2 : (List.take (n + 2) (els ++ List.replicate (c - (n + 1)) PV.top)).length = n + 2 := by rw [List.length_take]; omega
    have t3 : List.take (n + 2) [x] = [x] := List.take_of_length_le (by simp)
    refine ⟨_, (hbt (by simp; omega)).trans ((bif_f (by simp [zi]; omega)).trans ((hbt (by simp; omega)).trans ((hbt (by simp; omega)).trans ((hbt (by rw [hB _ _ (by omega)]; rfl)).trans ((hbt (by simp; omega)).trans ((hbt (by simp; omega)).trans ((hbt (by simp; omega)).trans rfl))))))), ?_⟩
    simp only [t1, t2, t3]
    have hT : ∀ R : List PV, List.take (n + 2) ([x] ++ List.drop (min 1 (n + 2)) (List.take 1 (els ++ List.replicate (c - (n + 1)) PV.top) ++ els ++ R)) = x :: els := by
      intro R
      have hone : (List.take 1 (els ++ List.replicate (c - (n + 1)) PV.top)).length = 1 := by rw [List.length_take]; omega
      rw [show min 1 (n + 2) = 1 from by omega, List.append_assoc, List.drop_left' hone, ← List.append_assoc, List.take_left' (by simp; omega)]
      rfl
    rw [hT]
    exact ⟨_, _, rfl⟩
def run140' : List PV → List Ent → (Res → Option Res) → Option Res
  | [.ow 29 0 [] 0 m none, .sc (.int .i64 0), .ow 29 1 [] 0 1 (some 1)], [.vec false 29 false els, .vec false 29 false [x]], k => bif decide (m = els.length) && decide (els.length ≤ 1000000000) then k ⟨.ro 29 false false (x :: els), [.dead, .dead], []⟩ else none
  | [.ro 29 true true [], .sc (.int .i64 0), .ow 29 0 [] 0 1 (some 1)], [.vec false 29 false [x]], k => k ⟨.ro 29 false false [x], [.vec false 29 false [x]], []⟩
  | _, _, _ => none
def s140' : Sig := { own := [true, false, true], run := run140' }
theorem ptr_no : tau.isPtr 29 = false := by kernel_rfl
theorem ok140' : CallOk tau Try.prog 140 s140' := CallOk.mk' fun xs es k res hl hr => by
  change run140' xs es k = some res at hr
  unfold run140' at hr
  split at hr
  · rename_i m els x
    obtain ⟨hc, hr2⟩ := of_bif hr
    simp only [Bool.and_eq_true, decide_eq_true_eq] at hc
    obtain ⟨rfl, hb⟩ := hc
    by_cases h0 : els = []
    · subst h0
      have h1 := (e140c 0 false x some)
      have h2 := fn_at tabOk F140c_ok mixed fo140c bo140c an140c [.ro] 2 0 (ia140c 0) hl rfl h1
      obtain ⟨r0, hr0, hc0⟩ := h2
      obtain rfl := Option.some.inj hr0
      refine ⟨_, hr2, fun im ow w us hus hi => (hc0 im ow w us hus hi).mono fun e w' hR => ?_⟩
      obtain ⟨u, im', ow', he, hv, G⟩ := hR
      refine ⟨u, im', ow', he, hv, ?_⟩
      have K := Good.kill (i := 1) (e := .vec false 29 false [x]) G.inv rfl
      have e1 : updH (entsOf [Ent.dead, .vec false 29 false [x]] []) 1 .dead = entsOf [.dead, .dead] [] := by
        funext i
        match i with
        | 0 => rfl
        | 1 => rfl
        | i + 2 => simp [updH, entsOf]
      rw [e1] at K
      exact G.trans K
    · obtain ⟨n, hn⟩ : ∃ n, els.length = n + 1 := ⟨els.length - 1, by have : 0 < els.length := List.length_pos_iff.2 h0; omega⟩
      refine reveal tabOk (by omega) ptr_no ptr_no hr2 fun c hc => ?_
      obtain ⟨r, hg, p0, p1, rfl⟩ := g_ins els n hn (by omega) c (by omega) x
      rw [hn]
      generalize els ++ List.replicate (c - (n + 1)) PV.top = L at hg ⊢
      refine ⟨p0, p1, ?_⟩
      have h1 := (e140 0 false L n c x some).trans hg
      exact fn_at tabOk F140_ok mixed fo140 bo140 an140 [.ro] 2 0 (ia140 0) hl rfl h1
  · rename_i x
    exact fn_at tabOk F140b_ok mixed fo140b bo140b an140b [.ro] 1 0 (ia140b 0) hl rfl ((e140b 0 x k).trans hr)
  · cases hr
end Go.Proofs.Ytcklhipdldpkhaa.Rx

namespace Go.Proofs.Ytcklhipdldpkhaa.Rx
open Go
set_option linter.unusedVariables false
set_option maxRecDepth 100000
set_option maxHeartbeats 0
noncomputable def F159 : Fns := F0
theorem F159_ok : FnsOk tau Try.prog F159 := F0_ok
def nm159_0 : Nm := [(0, .any), (2, .any), (3, .any), (5, .any)]
def x159_0 : An := (.seq .leaf (.seq (.cond .leaf .leaf) (.seq (.block none (.seq .leaf .leaf)) .leaf)))
def an159 : An := (.seq .leaf (.seq .leaf (.seq (.seq .leaf (.block none (.loop nm159_0 x159_0))) (.seq .leaf .leaf))))
noncomputable def g159 (f : Nat) (x : Int) (k : Res → Option Res) : Option Res := k (Res.mk (.ar 190 [.sc (.int .u8 x), .sc (.int .u8 x), .sc (.int .u8 x), .sc (.int .u8 x), .sc (.int .u8 x), .sc (.int .u8 x), .sc (.int .u8 x), .sc (.int .u8 x), .sc (.int .u8 x), .sc (.int .u8 x), .sc (.int .u8 x), .sc (.int .u8 x), .sc (.int .u8 x), .sc (.int .u8 x), .sc (.int .u8 x), .sc (.int .u8 x), .sc (.int .u8 x), .sc (.int .u8 x), .sc (.int .u8 x), .sc (.int .u8 x), .sc (.int .u8 x), .sc (.int .u8 x), .sc (.int .u8 x), .sc (.int .u8 x), .sc (.int .u8 x), .sc (.int .u8 x), .sc (.int .u8 x), .sc (.int .u8 x), .sc (.int .u8 x), .sc (.int .u8 x), .sc (.int .u8 x), .sc (.int .u8 x), .sc (.int .u8 x), .sc (.int .u8 x), .sc (.int .u8 x), .sc (.int .u8 x), .sc (.int .u8 x), .sc (.int .u8 x), .sc (.int .u8 x), .sc (.int .u8 x), .sc (.int .u8 x), .sc (.int .u8 x), .sc (.int .u8 x), .sc (.int .u8 x), .sc (.int .u8 x), .sc (.int .u8 x), .sc (.int .u8 x), .sc (.int .u8 x), .sc (.int .u8 x), .sc (.int .u8 x), .sc (.int .u8 x), .sc (.int .u8 x), .sc (.int .u8 x), .sc (.int .u8 x), .sc (.int .u8 x), .sc (.int .u8 x), .sc (.int .u8 x), .sc (.int .u8 x), .sc (.int .u8 x), .sc (.int .u8 x), .sc (.int .u8 x), .sc (.int .u8 x), .sc (.int .u8 x), .sc (.int .u8 x)]) [] [])
theorem e159 (f : Nat) (x : Int) (k : Res → Option Res) : evFn tau F159 Try.f159 (Try.f159.body.get!) an159 [.ro] 70 [.sc (.int .u8 x)] [] k = g159 f x k := by kernel_rfl
theorem it159 (f : Nat) : items (Try.f159.body.get!) an159 = [] := by kernel_rfl
theorem ia159 (f : Nat) : ∀ q ∈ items (Try.f159.body.get!) an159, q.Ok tau Try.prog 0 := by
  rw [it159 f]; intro q hq; cases hq
theorem fo159 : Try.prog.funcs[159]? = some Try.f159 := by kernel_rfl
theorem bo159 : Try.f159.body = some (Try.f159.body.get!) := by kernel_rfl
theorem en159 : Enters Try.prog 159 := enters_of fo159 (by kernel_rfl) bo159
noncomputable def run159 : List PV → List Ent → (Res → Option Res) → Option Res
  | [.sc (.int .u8 x)], [], k => g159 0 x k
  | _, _, _ => none
noncomputable def s159 : Sig := { own := [], run := run159 }
theorem ok159 : CallOk tau Try.prog 159 s159 := fn_ok tabOk F159_ok mixed fo159 bo159 an159 [.ro] 0 [] run159 (ia159 0) fun xs es k res hr => by
  unfold run159 at hr
  split at hr
  · exact ⟨rfl, 70, (e159 0 _  _).trans hr⟩
  · cases hr
end Go.Proofs.Ytcklhipdldpkhaa.Rx

namespace Go.Proofs.Ytcklhipdldpkhaa.Rx
open Go
set_option linter.unusedVariables false
set_option maxRecDepth 100000
set_option maxHeartbeats 0
def N141 : Nat := 26
noncomputable def F141 : Fns := addF 159 s159 (F0)
theorem F141_ok : FnsOk tau Try.prog F141 := (F0_ok).add ok159 en159
noncomputable def c141_0 : Code := subC (Try.f141.body.get!) [1, 1, 1, 0, 1, 0, 0]
def nm141_0 : Nm := [(2, .any), (5, .any), (13, .any)]
def nx141_0 : Nm := [(5, .any)]
def x141_0 : An := (.seq .leaf (.seq (.cond .leaf .leaf) (.seq (.block none (.seq .leaf .leaf)) .leaf)))
def an141 (r0 : RunL) : An := (.seq .leaf (.seq .leaf (.seq (.seq .leaf (.cond (.seq .leaf .leaf) .leaf)) (.seq (.seq .leaf (.block none (.sum nm141_0 N141 r0))) (.seq .leaf .leaf)))))
noncomputable def lpS141_0 (f : Nat) (rc : Int → List PV → List PV → Option Res) (k0 : List PV → Option Res) (v0 : Int) (v1 : List PV) (v2 : List PV) : Option Res := bif decide (v0 < 64) then bif decide (0 ≤ v0) && decide (v0 < zi 64) && true then bif PV.isInt IntKind.u8 (getP (PV.ar 190 v2) [v0.toNat]) && true then bif decide (0 ≤ v0) && decide (v0 < zi 64) && true then bif PV.isInt IntKind.u8 (getP (PV.ar 190 v1) [v0.toNat]) && true then bif decide (0 ≤ v0) && decide (v0 < zi 64) && true then rc (IntKind.i64.wrap (v0 + 1)) v1 (v2.set v0.toNat (.sc (.int .u8 (bitI BinOp.xor IntKind.u8 (getP (PV.ar 190 v2) [v0.toNat]).int (getP (PV.ar 190 v1) [v0.toNat]).int)))) else none else none else none else none else none else k0 v2
noncomputable def lp141_0 (f : Nat) (k0 : List PV → Option Res) : Nat → Int → List PV → List PV → Option Res
  | 0, _, _, _ => none
  | n + 1, v0, v1, v2 => lpS141_0 f (lp141_0 f k0 n) k0 v0 v1 v2
theorem lpR141_0 (f : Nat) (k : Kont) (n : Nat) (v0 : Int) (v1 : List PV) (v2 : List PV) : evLoop tau 0 nm141_0 (fun s k => ev tau F141 0 0 c141_0 (x141_0 ) s k) (n + 1) (fillS nm141_0 N141 [.ptr 432 [], .ptr 433 [], .sc (.int .i64 v0)] [(432, .box false 190 (PV.ar 190 v1)), (433, .box false 190 (PV.ar 190 v2))]) (kNorm tau 0 nx141_0 k) = lpS141_0 f (fun v0 v1 v2 => evLoop tau 0 nm141_0 (fun s k => ev tau F141 0 0 c141_0 (x141_0 ) s k) n (fillS nm141_0 N141 [.ptr 432 [], .ptr 433 [], .sc (.int .i64 v0)] [(432, .box false 190 (PV.ar 190 v1)), (433, .box false 190 (PV.ar 190 v2))]) (kNorm tau 0 nx141_0 k)) (fun x0 => k (Ex.exit 0) (fillS nx141_0 N141 [.ptr 432 []] [(432, .box false 190 (PV.ar 190 x0))])) v0 v1 v2 := by kernel_rfl
theorem lpE141_0 (f : Nat) (k : Kont) : ∀ (n : Nat) (v0 : Int) (v1 : List PV) (v2 : List PV), evLoop tau 0 nm141_0 (fun s k => ev tau F141 0 0 c141_0 (x141_0 ) s k) n (fillS nm141_0 N141 [.ptr 432 [], .ptr 433 [], .sc (.int .i64 v0)] [(432, .box false 190 (PV.ar 190 v1)), (433, .box false 190 (PV.ar 190 v2))]) (kNorm tau 0 nx141_0 k) = lp141_0 f (fun x0 => k (Ex.exit 0) (fillS nx141_0 N141 [.ptr 432 []] [(432, .box false 190 (PV.ar 190 x0))])) n v0 v1 v2 | 0, _, _, _ => rfl | n + 1, v0, v1, v2 => (lpR141_0 f k n v0 v1 v2).trans (congrArg (fun r => lpS141_0 f r (fun x0 => k (Ex.exit 0) (fillS nx141_0 N141 [.ptr 432 []] [(432, .box false 190 (PV.ar 190 x0))])) v0 v1 v2) (by funext v0 v1 v2; exact lpE141_0 f k n v0 v1 v2))
noncomputable def r141_0 (f : Nat) : List PV → List (Nat × Ent) → Kont → Option Res
  | [.ptr 432 [], .ptr 433 [],
  PV.sc
    (Value.int IntKind.i64
      v0)], [(432, .box false 190 (PV.ar 190 v1)),
  (433, .box false 190 (PV.ar 190 v2))], k => lp141_0 f (fun x0 => k (Ex.exit 0) (fillS nx141_0 N141 [.ptr 432 []] [(432, .box false 190 (PV.ar 190 x0))])) f v0 v1 v2
  | _, _, _ => none
theorem it141_0 (f : Nat) : items c141_0 x141_0 = [] := by kernel_rfl
theorem i141_0 (f : Nat) : (Item.l c141_0 nm141_0 N141 (r141_0 f)).Ok tau Try.prog 0 := loop_item tabOk F141_ok mixed (x := x141_0) (nm2 := nx141_0) (anOk_items _ _ (by rw [it141_0 f]; intro q hq; cases hq)) fun vs hp k res hr => by
  unfold r141_0 at hr
  split at hr
  · exact ⟨f, 0, (lpE141_0 f _ f _ _ _ ).trans hr⟩
  · cases hr
noncomputable def g141 (f : Nat) (k1 : List PV) (x : Int) (k : Res → Option Res) : Option Res := bif decide (k1.length = 64) && true && allInt IntKind.u8 k1 && true && true then bif eqInts k1 [.sc (.int .u8 0), .sc (.int .u8 0), .sc (.int .u8 0), .sc (.int .u8 0), .sc (.int .u8 0), .sc (.int .u8 0), .sc (.int .u8 0), .sc (.int .u8 0), .sc (.int .u8 0), .sc (.int .u8 0), .sc (.int .u8 0), .sc (.int .u8 0), .sc (.int .u8 0), .sc (.int .u8 0), .sc (.int .u8 0), .sc (.int .u8 0), .sc (.int .u8 0), .sc (.int .u8 0), .sc (.int .u8 0), .sc (.int .u8 0), .sc (.int .u8 0), .sc (.int .u8 0), .sc (.int .u8 0), .sc (.int .u8 0), .sc (.int .u8 0), .sc (.int .u8 0), .sc (.int .u8 0), .sc (.int .u8 0), .sc (.int .u8 0), .sc (.int .u8 0), .sc (.int .u8 0), .sc (.int .u8 0), .sc (.int .u8 0), .sc (.int .u8 0), .sc (.int .u8 0), .sc (.int .u8 0), .sc (.int .u8 0), .sc (.int .u8 0), .sc (.int .u8 0), .sc (.int .u8 0), .sc (.int .u8 0), .sc (.int .u8 0), .sc (.int .u8 0), .sc (.int .u8 0), .sc (.int .u8 0), .sc (.int .u8 0), .sc (.int .u8 0), .sc (.int .u8 0), .sc (.int .u8 0), .sc (.int .u8 0), .sc (.int .u8 0), .sc (.int .u8 0), .sc (.int .u8 0), .sc (.int .u8 0), .sc (.int .u8 0), .sc (.int .u8 0), .sc (.int .u8 0), .sc (.int .u8 0), .sc (.int .u8 0), .sc (.int .u8 0), .sc (.int .u8 0), .sc (.int .u8 0), .sc (.int .u8 0), .sc (.int .u8 0)] then k (Res.mk (.ro 5 false false [.sc (.int .u8 x), .sc (.int .u8 x), .sc (.int .u8 x), .sc (.int .u8 x), .sc (.int .u8 x), .sc (.int .u8 x), .sc (.int .u8 x), .sc (.int .u8 x), .sc (.int .u8 x), .sc (.int .u8 x), .sc (.int .u8 x), .sc (.int .u8 x), .sc (.int .u8 x), .sc (.int .u8 x), .sc (.int .u8 x), .sc (.int .u8 x), .sc (.int .u8 x), .sc (.int .u8 x), .sc (.int .u8 x), .sc (.int .u8 x), .sc (.int .u8 x), .sc (.int .u8 x), .sc (.int .u8 x), .sc (.int .u8 x), .sc (.int .u8 x), .sc (.int .u8 x), .sc (.int .u8 x), .sc (.int .u8 x), .sc (.int .u8 x), .sc (.int .u8 x), .sc (.int .u8 x), .sc (.int .u8 x), .sc (.int .u8 x), .sc (.int .u8 x), .sc (.int .u8 x), .sc (.int .u8 x), .sc (.int .u8 x), .sc (.int .u8 x), .sc (.int .u8 x), .sc (.int .u8 x), .sc (.int .u8 x), .sc (.int .u8 x), .sc (.int .u8 x), .sc (.int .u8 x), .sc (.int .u8 x), .sc (.int .u8 x), .sc (.int .u8 x), .sc (.int .u8 x), .sc (.int .u8 x), .sc (.int .u8 x), .sc (.int .u8 x), .sc (.int .u8 x), .sc (.int .u8 x), .sc (.int .u8 x), .sc (.int .u8 x), .sc (.int .u8 x), .sc (.int .u8 x), .sc (.int .u8 x), .sc (.int .u8 x), .sc (.int .u8 x), .sc (.int .u8 x), .sc (.int .u8 x), .sc (.int .u8 x), .sc (.int .u8 x)]) [] []) else lp141_0 f (fun x0_0 => k (Res.mk (.ro 5 false false (List.take 64 x0_0)) [] [])) f (0) k1 ([.sc (.int .u8 x), .sc (.int .u8 x), .sc (.int .u8 x), .sc (.int .u8 x), .sc (.int .u8 x), .sc (.int .u8 x), .sc (.int .u8 x), .sc (.int .u8 x), .sc (.int .u8 x), .sc (.int .u8 x), .sc (.int .u8 x), .sc (.int .u8 x), .sc (.int .u8 x), .sc (.int .u8 x), .sc (.int .u8 x), .sc (.int .u8 x), .sc (.int .u8 x), .sc (.int .u8 x), .sc (.int .u8 x), .sc (.int .u8 x), .sc (.int .u8 x), .sc (.int .u8 x), .sc (.int .u8 x), .sc (.int .u8 x), .sc (.int .u8 x), .sc (.int .u8 x), .sc (.int .u8 x), .sc (.int .u8 x), .sc (.int .u8 x), .sc (.int .u8 x), .sc (.int .u8 x), .sc (.int .u8 x), .sc (.int .u8 x), .sc (.int .u8 x), .sc (.int .u8 x), .sc (.int .u8 x), .sc (.int .u8 x), .sc (.int .u8 x), .sc (.int .u8 x), .sc (.int .u8 x), .sc (.int .u8 x), .sc (.int .u8 x), .sc (.int .u8 x), .sc (.int .u8 x), .sc (.int .u8 x), .sc (.int .u8 x), .sc (.int .u8 x), .sc (.int .u8 x), .sc (.int .u8 x), .sc (.int .u8 x), .sc (.int .u8 x), .sc (.int .u8 x), .sc (.int .u8 x), .sc (.int .u8 x), .sc (.int .u8 x), .sc (.int .u8 x), .sc (.int .u8 x), .sc (.int .u8 x), .sc (.int .u8 x), .sc (.int .u8 x), .sc (.int .u8 x), .sc (.int .u8 x), .sc (.int .u8 x), .sc (.int .u8 x)]) else none
theorem e141 (f : Nat) (k1 : List PV) (x : Int) (k : Res → Option Res) : evFn tau F141 Try.f141 (Try.f141.body.get!) (an141 (r141_0 f)) [.ro] 0 [.ar 190 k1, .sc (.int .u8 x)] [] k = g141 f k1 x k := by kernel_rfl
theorem it141 (f : Nat) : items (Try.f141.body.get!) (an141 (r141_0 f)) = [.l c141_0 nm141_0 N141 (r141_0 f)] := by kernel_rfl
theorem ia141 (f : Nat) : ∀ q ∈ items (Try.f141.body.get!) (an141 (r141_0 f)), q.Ok tau Try.prog 0 := by
  rw [it141 f]; simp only [List.forall_mem_cons, List.not_mem_nil, false_implies, implies_true, and_true]; exact i141_0 f
theorem fo141 : Try.prog.funcs[141]? = some Try.f141 := by kernel_rfl
theorem bo141 : Try.f141.body = some (Try.f141.body.get!) := by kernel_rfl
theorem en141 : Enters Try.prog 141 := enters_of fo141 (by kernel_rfl) bo141
end Go.Proofs.Ytcklhipdldpkhaa.Rx

-- FN (hmac.block).turned
namespace Go.Proofs.Ytcklhipdldpkhaa.Rx
open Go
set_option linter.unusedVariables false
set_option linter.unusedSimpArgs false
set_option maxRecDepth 100000
set_option maxHeartbeats 1000000
def xorB (l : List Int) (x : Int) : List Int := l.map fun b => bitI .xor .u8 b x
@[simp] theorem xorB_length (l : List Int) (x : Int) : (xorB l x).length = l.length := by simp [xorB]
theorem fill_xor (K : List Int) (hK : K.length = 64) (x : Int) : (List.range 64).map (fun j => bitI .xor .u8 x (K.getD j 0)) = xorB K x := by
  apply List.ext_getElem
  · simp [hK]
  · intro i h1 h2
    have h1' : i < K.length := by simpa using h2
    simp only [List.getElem_map, List.getElem_range, xorB]
    rw [bitI_xor_comm, List.getD_eq_getElem?_getD, List.getElem?_eq_getElem h1']; rfl
theorem l141_0 (K : List Int) (hK : K.length = 64) (x : Int) (f : Nat) (k0 : List PV → Option Res) : ∀ (d i n : Nat), i + d = 64 → d < n →
    lp141_0 f k0 n (i : Int) (pu .u8 K) (pu .u8 (fillM (fun j => bitI .xor .u8 x (K.getD j 0)) (List.replicate 64 x) i)) = k0 (pu .u8 (xorB K x))
  | 0, i, n + 1, h, hn => by
      obtain rfl : i = 64 := by omega
      simp only [lp141_0, lpS141_0]
      refine (bif_f (by decide)).trans ?_
      have := fillM_full (fun j => bitI .xor .u8 x (K.getD j 0)) (List.replicate 64 x)
      rw [List.length_replicate] at this
      rw [this, fill_xor K hK]
  | d + 1, i, n + 1, h, hn => by
      have g1 : ((i : Int)).toNat = i := by omega
      have h1 : IntKind.i64.wrap ((i : Int) + 1) = ((i + 1 : Nat) : Int) := by rw [wrap_i64 (by omega) (by omega)]; omega
      have c0 : (decide (0 ≤ (i : Int)) && decide ((i : Int) < zi 64) && true) = true := by simp; omega
      have hF := fillM_length (fun j => bitI .xor .u8 x (K.getD j 0)) (List.replicate 64 x) i (by simp; omega)
      rw [List.length_replicate] at hF
      simp only [lp141_0, lpS141_0, g1, h1, getP_ar]
      rw [pu_isInt (by omega), pu_isInt (by omega), pu_int (by omega), pu_int (by omega), fillM_get _ _ _ (by simp; omega), pu_set]
      refine (bif_t (by simp; omega)).trans ((bif_t c0).trans ((bif_t rfl).trans ((bif_t c0).trans ((bif_t rfl).trans ((bif_t c0).trans ?_)))))
      have := l141_0 K hK x f k0 d (i + 1) n (by omega) (by omega)
      rw [← fillM_set _ _ i (by simp; omega)] at this
      rw [show (List.replicate 64 x).getD i 0 = x from by rw [List.getD_eq_getElem?_getD, List.getElem?_replicate, if_pos (by omega)]; rfl]
      exact this
theorem xor0 : xorB (List.replicate 64 0) 54 = List.replicate 64 54 ∧ xorB (List.replicate 64 0) 92 = List.replicate 64 92 := by
  have h1 : bitI .xor .u8 0 54 = 54 := by decide
  have h2 : bitI .xor .u8 0 92 = 92 := by decide
  simp only [xorB, List.map_replicate, h1, h2, and_self]
theorem g141_form (l : List PV) (x : Int) (k : Res → Option Res) : g141 70 l x k =
    (bif decide (l.length = 64) && true && allInt IntKind.u8 l && true && true then
      (bif eqInts l (pu .u8 (List.replicate 64 0)) then k ⟨.ro 5 false false (pu .u8 (List.replicate 64 x)), [], []⟩
      else lp141_0 70 (fun x0_0 => k (Res.mk (PV.ro 5 false false (List.take 64 x0_0)) [] [])) 70 0 l (pu .u8 (List.replicate 64 x)))
    else none) := by kernel_rfl
theorem g141_eq (K : List Int) (hK : K.length = 64) (x : Int) (hx : x = 54 ∨ x = 92) (k : Res → Option Res) : g141 70 (pu .u8 K) x k = k ⟨.ro 5 false false (pu .u8 (xorB K x)), [], []⟩ := by
  have h0 := l141_0 K hK x 70 (fun x0_0 => k (Res.mk (PV.ro 5 false false (List.take 64 x0_0)) [] [])) 64 0 70 (by omega) (by omega)
  rw [fillM_zero, List.take_of_length_le (by simp [hK])] at h0
  rw [g141_form, bif_t (by simp [hK]), eqInts_pu]
  by_cases hk : K = List.replicate 64 0
  · have h1 : xorB K x = List.replicate 64 x := by
      rw [hk]
      rcases hx with h | h
      · rw [h]; exact xor0.1
      · rw [h]; exact xor0.2
    rw [bif_t (beq_iff_eq.2 hk), h1]
  · rw [bif_f (beq_eq_false_iff_ne.2 hk)]
    exact h0
def run141' : List PV → List Ent → (Res → Option Res) → Option Res
  | [.ar 190 l, .sc (.int .u8 x)], [], k => bif allInt .u8 l && decide (l.length = 64) && (x == 54 || x == 92) then k ⟨.ro 5 false false (pu .u8 (xorB (ints l) x)), [], []⟩ else none
  | _, _, _ => none
def s141' : Sig := { own := [], run := run141' }
theorem ok141' : CallOk tau Try.prog 141 s141' := CallOk.mk' fun xs es k res hl hr => by
  change run141' xs es k = some res at hr
  unfold run141' at hr
  split at hr
  · rename_i l x
    obtain ⟨hc, hr2⟩ := of_bif hr
    simp only [Bool.and_eq_true, decide_eq_true_eq, Bool.or_eq_true, beq_iff_eq] at hc
    have hp := pu_ints hc.1.1
    have h2 : g141 70 l x k = some res := by
      rw [hp, g141_eq _ (by simpa using hc.1.2) x hc.2]; exact hr2
    have h1 := (e141 70 l x k).trans h2
    exact fn_at tabOk F141_ok mixed fo141 bo141 (an141 (r141_0 70)) [.ro] 0 0 (ia141 70) hl rfl h1
  · cases hr
end Go.Proofs.Ytcklhipdldpkhaa.Rx

namespace Go.Proofs.Ytcklhipdldpkhaa.Rx
open Go
set_option linter.unusedVariables false
set_option maxRecDepth 100000
set_option maxHeartbeats 0
noncomputable abbrev z80 : List PV := [PV.sc (.int .u8 0), PV.sc (.int .u8 0), PV.sc (.int .u8 0), PV.sc (.int .u8 0), PV.sc (.int .u8 0), PV.sc (.int .u8 0), PV.sc (.int .u8 0), PV.sc (.int .u8 0), PV.sc (.int .u8 0), PV.sc (.int .u8 0), PV.sc (.int .u8 0), PV.sc (.int .u8 0), PV.sc (.int .u8 0), PV.sc (.int .u8 0), PV.sc (.int .u8 0), PV.sc (.int .u8 0), PV.sc (.int .u8 0), PV.sc (.int .u8 0), PV.sc (.int .u8 0), PV.sc (.int .u8 0), PV.sc (.int .u8 0), PV.sc (.int .u8 0), PV.sc (.int .u8 0), PV.sc (.int .u8 0), PV.sc (.int .u8 0), PV.sc (.int .u8 0), PV.sc (.int .u8 0), PV.sc (.int .u8 0), PV.sc (.int .u8 0), PV.sc (.int .u8 0), PV.sc (.int .u8 0), PV.sc (.int .u8 0), PV.sc (.int .u8 0), PV.sc (.int .u8 0), PV.sc (.int .u8 0), PV.sc (.int .u8 0), PV.sc (.int .u8 0), PV.sc (.int .u8 0), PV.sc (.int .u8 0), PV.sc (.int .u8 0), PV.sc (.int .u8 0), PV.sc (.int .u8 0), PV.sc (.int .u8 0), PV.sc (.int .u8 0), PV.sc (.int .u8 0), PV.sc (.int .u8 0), PV.sc (.int .u8 0), PV.sc (.int .u8 0), PV.sc (.int .u8 0), PV.sc (.int .u8 0), PV.sc (.int .u8 0), PV.sc (.int .u8 0), PV.sc (.int .u8 0), PV.sc (.int .u8 0), PV.sc (.int .u8 0), PV.sc (.int .u8 0), PV.sc (.int .u8 0), PV.sc (.int .u8 0), PV.sc (.int .u8 0), PV.sc (.int .u8 0), PV.sc (.int .u8 0), PV.sc (.int .u8 0), PV.sc (.int .u8 0), PV.sc (.int .u8 0)]
noncomputable def F80 : Fns := addF 141 s141' (addF 140 s140' (addF 136 s136 (addF 27 s27' (F0))))
theorem F80_ok : FnsOk tau Try.prog F80 := ((((F0_ok).add ok27' en27).add ok136 en136).add ok140' en140).add ok141' en141
def an80 : An := (.seq .leaf (.seq (.seq .leaf (.cond (.seq .leaf .leaf) .leaf)) (.seq .leaf (.seq .leaf (.seq .leaf (.seq .leaf .leaf))))))
noncomputable def g80 (f : Nat) (key_z : Bool) (key_f : Bool) (key : List PV) (parts_z : Bool) (parts_f : Bool) (parts : List PV) (k : Res → Option Res) : Option Res := bif decide (zi key.length > 64) then bif allInt IntKind.u8 (flat [PV.ro 5 key_z key_f key]) && decide ((flat [PV.ro 5 key_z key_f key]).length ≤ 140737488355000) then bif parts_z then bif allInt IntKind.u8 (List.take 64 (List.take 32 (pu IntKind.u8 (sumP (ints (flat [PV.ro 5 key_z key_f key]))))) ++ List.drop (0 + min (List.take 32 (pu IntKind.u8 (sumP (ints (flat [PV.ro 5 key_z key_f key]))))).length 64) z80) && decide ((List.take 64 (List.take 32 (pu IntKind.u8 (sumP (ints (flat [PV.ro 5 key_z key_f key]))))) ++ List.drop (0 + min (List.take 32 (pu IntKind.u8 (sumP (ints (flat [PV.ro 5 key_z key_f key]))))).length 64) z80).length = 64) && true then bif allInt IntKind.u8 (flat [PV.ro 5 false false (pu IntKind.u8 (xorB (ints (List.take 64 (List.take 32 (pu IntKind.u8 (sumP (ints (flat [PV.ro 5 key_z key_f key]))))) ++ List.drop (0 + min (List.take 32 (pu IntKind.u8 (sumP (ints (flat [PV.ro 5 key_z key_f key]))))).length 64) z80)) 54))]) && decide ((flat [PV.ro 5 false false (pu IntKind.u8 (xorB (ints (List.take 64 (List.take 32 (pu IntKind.u8 (sumP (ints (flat [PV.ro 5 key_z key_f key]))))) ++ List.drop (0 + min (List.take 32 (pu IntKind.u8 (sumP (ints (flat [PV.ro 5 key_z key_f key]))))).length 64) z80)) 54))]).length ≤ 140737488355000) then bif allInt IntKind.u8 (List.take 64 (List.take 32 (pu IntKind.u8 (sumP (ints (flat [PV.ro 5 key_z key_f key]))))) ++ List.drop (0 + min (List.take 32 (pu IntKind.u8 (sumP (ints (flat [PV.ro 5 key_z key_f key]))))).length 64) z80) && decide ((List.take 64 (List.take 32 (pu IntKind.u8 (sumP (ints (flat [PV.ro 5 key_z key_f key]))))) ++ List.drop (0 + min (List.take 32 (pu IntKind.u8 (sumP (ints (flat [PV.ro 5 key_z key_f key]))))).length 64) z80).length = 64) && true then bif allInt IntKind.u8 (flat [PV.ro 5 false false (pu IntKind.u8 (xorB (ints (List.take 64 (List.take 32 (pu IntKind.u8 (sumP (ints (flat [PV.ro 5 key_z key_f key]))))) ++ List.drop (0 + min (List.take 32 (pu IntKind.u8 (sumP (ints (flat [PV.ro 5 key_z key_f key]))))).length 64) z80)) 92)), PV.ro 5 false false (List.take 32 (pu IntKind.u8 (sumP (ints (flat [PV.ro 5 false false (pu IntKind.u8 (xorB (ints (List.take 64 (List.take 32 (pu IntKind.u8 (sumP (ints (flat [PV.ro 5 key_z key_f key]))))) ++ List.drop (0 + min (List.take 32 (pu IntKind.u8 (sumP (ints (flat [PV.ro 5 key_z key_f key]))))).length 64) z80)) 54))])))))]) && decide ((flat [PV.ro 5 false false (pu IntKind.u8 (xorB (ints (List.take 64 (List.take 32 (pu IntKind.u8 (sumP (ints (flat [PV.ro 5 key_z key_f key]))))) ++ List.drop (0 + min (List.take 32 (pu IntKind.u8 (sumP (ints (flat [PV.ro 5 key_z key_f key]))))).length 64) z80)) 92)), PV.ro 5 false false (List.take 32 (pu IntKind.u8 (sumP (ints (flat [PV.ro 5 false false (pu IntKind.u8 (xorB (ints (List.take 64 (List.take 32 (pu IntKind.u8 (sumP (ints (flat [PV.ro 5 key_z key_f key]))))) ++ List.drop (0 + min (List.take 32 (pu IntKind.u8 (sumP (ints (flat [PV.ro 5 key_z key_f key]))))).length 64) z80)) 54))])))))]).length ≤ 140737488355000) then k (Res.mk (PV.ar 37 (pu IntKind.u8 (sumP (ints (flat [PV.ro 5 false false (pu IntKind.u8 (xorB (ints (List.take 64 (List.take 32 (pu IntKind.u8 (sumP (ints (flat [PV.ro 5 key_z key_f key]))))) ++ List.drop (0 + min (List.take 32 (pu IntKind.u8 (sumP (ints (flat [PV.ro 5 key_z key_f key]))))).length 64) z80)) 92)), PV.ro 5 false false (List.take 32 (pu IntKind.u8 (sumP (ints (flat [PV.ro 5 false false (pu IntKind.u8 (xorB (ints (List.take 64 (List.take 32 (pu IntKind.u8 (sumP (ints (flat [PV.ro 5 key_z key_f key]))))) ++ List.drop (0 + min (List.take 32 (pu IntKind.u8 (sumP (ints (flat [PV.ro 5 key_z key_f key]))))).length 64) z80)) 54))])))))]))))) [] []) else none else none else none else none else bif roomy (0 + parts.length) 24 && true then bif allInt IntKind.u8 (List.take 64 (List.take 32 (pu IntKind.u8 (sumP (ints (flat [PV.ro 5 key_z key_f key]))))) ++ List.drop (0 + min (List.take 32 (pu IntKind.u8 (sumP (ints (flat [PV.ro 5 key_z key_f key]))))).length 64) z80) && decide ((List.take 64 (List.take 32 (pu IntKind.u8 (sumP (ints (flat [PV.ro 5 key_z key_f key]))))) ++ List.drop (0 + min (List.take 32 (pu IntKind.u8 (sumP (ints (flat [PV.ro 5 key_z key_f key]))))).length 64) z80).length = 64) && true then bif decide (0 + parts.length = parts.length) && decide (parts.length ≤ 1000000000) then bif parts.all (PV.isRo 5) && decide ((PV.ro 5 false false (pu IntKind.u8 (xorB (ints (List.take 64 (List.take 32 (pu IntKind.u8 (sumP (ints (flat [PV.ro 5 key_z key_f key]))))) ++ List.drop (0 + min (List.take 32 (pu IntKind.u8 (sumP (ints (flat [PV.ro 5 key_z key_f key]))))).length 64) z80)) 54)) :: parts).length ≤ 140737488355328) && (allInt IntKind.u8 (flat (PV.ro 5 false false (pu IntKind.u8 (xorB (ints (List.take 64 (List.take 32 (pu IntKind.u8 (sumP (ints (flat [PV.ro 5 key_z key_f key]))))) ++ List.drop (0 + min (List.take 32 (pu IntKind.u8 (sumP (ints (flat [PV.ro 5 key_z key_f key]))))).length 64) z80)) 54)) :: parts)) && decide ((flat (PV.ro 5 false false (pu IntKind.u8 (xorB (ints (List.take 64 (List.take 32 (pu IntKind.u8 (sumP (ints (flat [PV.ro 5 key_z key_f key]))))) ++ List.drop (0 + min (List.take 32 (pu IntKind.u8 (sumP (ints (flat [PV.ro 5 key_z key_f key]))))).length 64) z80)) 54)) :: parts)).length ≤ 140737488355000)) then bif allInt IntKind.u8 (List.take 64 (List.take 32 (pu IntKind.u8 (sumP (ints (flat [PV.ro 5 key_z key_f key]))))) ++ List.drop (0 + min (List.take 32 (pu IntKind.u8 (sumP (ints (flat [PV.ro 5 key_z key_f key]))))).length 64) z80) && decide ((List.take 64 (List.take 32 (pu IntKind.u8 (sumP (ints (flat [PV.ro 5 key_z key_f key]))))) ++ List.drop (0 + min (List.take 32 (pu IntKind.u8 (sumP (ints (flat [PV.ro 5 key_z key_f key]))))).length 64) z80).length = 64) && true then bif allInt IntKind.u8 (flat [PV.ro 5 false false (pu IntKind.u8 (xorB (ints (List.take 64 (List.take 32 (pu IntKind.u8 (sumP (ints (flat [PV.ro 5 key_z key_f key]))))) ++ List.drop (0 + min (List.take 32 (pu IntKind.u8 (sumP (ints (flat [PV.ro 5 key_z key_f key]))))).length 64) z80)) 92)), PV.ro 5 false false (List.take 32 (pu IntKind.u8 (sumP (ints (flat (PV.ro 5 false false (pu IntKind.u8 (xorB (ints (List.take 64 (List.take 32 (pu IntKind.u8 (sumP (ints (flat [PV.ro 5 key_z key_f key]))))) ++ List.drop (0 + min (List.take 32 (pu IntKind.u8 (sumP (ints (flat [PV.ro 5 key_z key_f key]))))).length 64) z80)) 54)) :: parts))))))]) && decide ((flat [PV.ro 5 false false (pu IntKind.u8 (xorB (ints (List.take 64 (List.take 32 (pu IntKind.u8 (sumP (ints (flat [PV.ro 5 key_z key_f key]))))) ++ List.drop (0 + min (List.take 32 (pu IntKind.u8 (sumP (ints (flat [PV.ro 5 key_z key_f key]))))).length 64) z80)) 92)), PV.ro 5 false false (List.take 32 (pu IntKind.u8 (sumP (ints (flat (PV.ro 5 false false (pu IntKind.u8 (xorB (ints (List.take 64 (List.take 32 (pu IntKind.u8 (sumP (ints (flat [PV.ro 5 key_z key_f key]))))) ++ List.drop (0 + min (List.take 32 (pu IntKind.u8 (sumP (ints (flat [PV.ro 5 key_z key_f key]))))).length 64) z80)) 54)) :: parts))))))]).length ≤ 140737488355000) then k (Res.mk (PV.ar 37 (pu IntKind.u8 (sumP (ints (flat [PV.ro 5 false false (pu IntKind.u8 (xorB (ints (List.take 64 (List.take 32 (pu IntKind.u8 (sumP (ints (flat [PV.ro 5 key_z key_f key]))))) ++ List.drop (0 + min (List.take 32 (pu IntKind.u8 (sumP (ints (flat [PV.ro 5 key_z key_f key]))))).length 64) z80)) 92)), PV.ro 5 false false (List.take 32 (pu IntKind.u8 (sumP (ints (flat (PV.ro 5 false false (pu IntKind.u8 (xorB (ints (List.take 64 (List.take 32 (pu IntKind.u8 (sumP (ints (flat [PV.ro 5 key_z key_f key]))))) ++ List.drop (0 + min (List.take 32 (pu IntKind.u8 (sumP (ints (flat [PV.ro 5 key_z key_f key]))))).length 64) z80)) 54)) :: parts))))))]))))) [] []) else none else none else none else none else none else none else none else bif parts_z then bif allInt IntKind.u8 (List.take 64 key ++ List.drop (0 + min key.length 64) z80) && decide ((List.take 64 key ++ List.drop (0 + min key.length 64) z80).length = 64) && true then bif allInt IntKind.u8 (flat [PV.ro 5 false false (pu IntKind.u8 (xorB (ints (List.take 64 key ++ List.drop (0 + min key.length 64) z80)) 54))]) && decide ((flat [PV.ro 5 false false (pu IntKind.u8 (xorB (ints (List.take 64 key ++ List.drop (0 + min key.length 64) z80)) 54))]).length ≤ 140737488355000) then bif allInt IntKind.u8 (List.take 64 key ++ List.drop (0 + min key.length 64) z80) && decide ((List.take 64 key ++ List.drop (0 + min key.length 64) z80).length = 64) && true then bif allInt IntKind.u8 (flat [PV.ro 5 false false (pu IntKind.u8 (xorB (ints (List.take 64 key ++ List.drop (0 + min key.length 64) z80)) 92)), PV.ro 5 false false (List.take 32 (pu IntKind.u8 (sumP (ints (flat [PV.ro 5 false false (pu IntKind.u8 (xorB (ints (List.take 64 key ++ List.drop (0 + min key.length 64) z80)) 54))])))))]) && decide ((flat [PV.ro 5 false false (pu IntKind.u8 (xorB (ints (List.take 64 key ++ List.drop (0 + min key.length 64) z80)) 92)), PV.ro 5 false false (List.take 32 (pu IntKind.u8 (sumP (ints (flat [PV.ro 5 false false (pu IntKind.u8 (xorB (ints (List.take 64 key ++ List.drop (0 + min key.length 64) z80)) 54))])))))]).length ≤ 140737488355000) then k (Res.mk (PV.ar 37 (pu IntKind.u8 (sumP (ints (flat [PV.ro 5 false false (pu IntKind.u8 (xorB (ints (List.take 64 key ++ List.drop (0 + min key.length 64) z80)) 92)), PV.ro 5 false false (List.take 32 (pu IntKind.u8 (sumP (ints (flat [PV.ro 5 false false (pu IntKind.u8 (xorB (ints (List.take 64 key ++ List.drop (0 + min key.length 64) z80)) 54))])))))]))))) [] []) else none else none else none else none else bif roomy (0 + parts.length) 24 && true then bif allInt IntKind.u8 (List.take 64 key ++ List.drop (0 + min key.length 64) z80) && decide ((List.take 64 key ++ List.drop (0 + min key.length 64) z80).length = 64) && true then bif decide (0 + parts.length = parts.length) && decide (parts.length ≤ 1000000000) then bif parts.all (PV.isRo 5) && decide ((PV.ro 5 false false (pu IntKind.u8 (xorB (ints (List.take 64 key ++ List.drop (0 + min key.length 64) z80)) 54)) :: parts).length ≤ 140737488355328) && (allInt IntKind.u8 (flat (PV.ro 5 false false (pu IntKind.u8 (xorB (ints (List.take 64 key ++ List.drop (0 + min key.length 64) z80)) 54)) :: parts)) && decide ((flat (PV.ro 5 false false (pu IntKind.u8 (xorB (ints (List.take 64 key ++ List.drop (0 + min key.length 64) z80)) 54)) :: parts)).length ≤ 140737488355000)) then bif allInt IntKind.u8 (List.take 64 key ++ List.drop (0 + min key.length 64) z80) && decide ((List.take 64 key ++ List.drop (0 + min key.length 64) z80).length = 64) && true then bif allInt IntKind.u8 (flat [PV.ro 5 false false (pu IntKind.u8 (xorB (ints (List.take 64 key ++ List.drop (0 + min key.length 64) z80)) 92)), PV.ro 5 false false (List.take 32 (pu IntKind.u8 (sumP (ints (flat (PV.ro 5 false false (pu IntKind.u8 (xorB (ints (List.take 64 key ++ List.drop (0 + min key.length 64) z80)) 54)) :: parts))))))]) && decide ((flat [PV.ro 5 false false (pu IntKind.u8 (xorB (ints (List.take 64 key ++ List.drop (0 + min key.length 64) z80)) 92)), PV.ro 5 false false (List.take 32 (pu IntKind.u8 (sumP (ints (flat (PV.ro 5 false false (pu IntKind.u8 (xorB (ints (List.take 64 key ++ List.drop (0 + min key.length 64) z80)) 54)) :: parts))))))]).length ≤ 140737488355000) then k (Res.mk (PV.ar 37 (pu IntKind.u8 (sumP (ints (flat [PV.ro 5 false false (pu IntKind.u8 (xorB (ints (List.take 64 key ++ List.drop (0 + min key.length 64) z80)) 92)), PV.ro 5 false false (List.take 32 (pu IntKind.u8 (sumP (ints (flat (PV.ro 5 false false (pu IntKind.u8 (xorB (ints (List.take 64 key ++ List.drop (0 + min key.length 64) z80)) 54)) :: parts))))))]))))) [] []) else none else none else none else none else none else none
theorem e80 (f : Nat) (key_z : Bool) (key_f : Bool) (key : List PV) (parts_z : Bool) (parts_f : Bool) (parts : List PV) (k : Res → Option Res) : evFn tau F80 Try.f80 (Try.f80.body.get!) an80 [.ro] 0 [.ro 5 key_z key_f key, .ro 29 parts_z parts_f parts] [] k = g80 f key_z key_f key parts_z parts_f parts k := by kernel_rfl
theorem it80 (f : Nat) : items (Try.f80.body.get!) an80 = [] := by kernel_rfl
theorem ia80 (f : Nat) : ∀ q ∈ items (Try.f80.body.get!) an80, q.Ok tau Try.prog 0 := by
  rw [it80 f]; intro q hq; cases hq
theorem fo80 : Try.prog.funcs[80]? = some Try.f80 := by kernel_rfl
theorem bo80 : Try.f80.body = some (Try.f80.body.get!) := by kernel_rfl
theorem en80 : Enters Try.prog 80 := enters_of fo80 (by kernel_rfl) bo80
noncomputable def run80 : List PV → List Ent → (Res → Option Res) → Option Res
  | [.ro 5 key_z key_f key, .ro 29 parts_z parts_f parts], [], k => g80 0 key_z key_f key parts_z parts_f parts k
  | _, _, _ => none
noncomputable def s80 : Sig := { own := [], run := run80 }
theorem ok80 : CallOk tau Try.prog 80 s80 := fn_ok tabOk F80_ok mixed fo80 bo80 an80 [.ro] 0 [] run80 (ia80 0) fun xs es k res hr => by
  unfold run80 at hr
  split at hr
  · exact ⟨rfl, 0, (e80 0 _ _ _ _ _ _  _).trans hr⟩
  · cases hr
end Go.Proofs.Ytcklhipdldpkhaa.Rx

-- FN hmac.Mac
namespace Go.Proofs.Ytcklhipdldpkhaa.Rx
open Go
set_option linter.unusedVariables false
set_option linter.unusedSimpArgs false
set_option maxRecDepth 100000
set_option maxHeartbeats 1000000
theorem ints_append (a b : List PV) : ints (a ++ b) = ints a ++ ints b := by simp [ints]
@[simp] theorem ints_nil : ints [] = [] := rfl
/-- a key, with noughts behind it -/
def padK (s : List Int) : List Int := s ++ List.replicate (64 - s.length) 0
def keyB (key : List Int) : List Int := if key.length > 64 then padK (sumP key) else padK key
def macP0 (key text : List Int) : List Int := sumP (xorB (keyB key) 92 ++ sumP (xorB (keyB key) 54 ++ text))
noncomputable def macP : List Int → List Int → List Int := hid macP0
theorem macP_eq (key text : List Int) : macP key text = macP0 key text := by rw [macP, hid_eq]
theorem macP_length (key text : List Int) : (macP key text).length = 32 := by rw [macP_eq]; exact sumP_length _
theorem keyB_length (key : List Int) : (keyB key).length = 64 := by
  unfold keyB padK
  split
  · rw [List.length_append, sumP_length, List.length_replicate]
  · rw [List.length_append, List.length_replicate]; omega
def x54 (kb : List PV) : PV := .ro 5 false false (pu .u8 (xorB (ints kb) 54))
def x92 (kb : List PV) : PV := .ro 5 false false (pu .u8 (xorB (ints kb) 92))
def t32 (l : List PV) : PV := .ro 5 false false (List.take 32 (pu .u8 (sumP (ints (flat l)))))
def kbG (src : List PV) : List PV := [] ++ List.take 64 src ++ List.drop (0 + min src.length 64) (pu .u8 (List.replicate 64 0))
def macForm (pz : Bool) (parts kb : List PV) (k : Res → Option Res) : Option Res :=
  bif pz then
    bif allInt .u8 kb && decide (kb.length = 64) && true then
      bif allInt .u8 (flat [x54 kb]) && decide ((flat [x54 kb]).length ≤ 140737488355000) then
        bif allInt .u8 kb && decide (kb.length = 64) && true then
          bif allInt .u8 (flat [x92 kb, t32 [x54 kb]]) && decide ((flat [x92 kb, t32 [x54 kb]]).length ≤ 140737488355000) then
            k ⟨.ar 37 (pu .u8 (sumP (ints (flat [x92 kb, t32 [x54 kb]])))), [], []⟩
          else none
        else none
      else none
    else none
  else bif roomy (0 + parts.length) 24 && true then
    bif allInt .u8 kb && decide (kb.length = 64) && true then
      bif decide (0 + parts.length = ([] ++ parts).length) && decide (([] ++ parts).length ≤ 1000000000) then
        bif ([] ++ parts).all (PV.isRo 5) && decide ((x54 kb :: ([] ++ parts)).length ≤ 140737488355328) && (allInt .u8 (flat (x54 kb :: ([] ++ parts))) && decide ((flat (x54 kb :: ([] ++ parts))).length ≤ 140737488355000)) then
          bif allInt .u8 kb && decide (kb.length = 64) && true then
            bif allInt .u8 (flat [x92 kb, t32 (x54 kb :: ([] ++ parts))]) && decide ((flat [x92 kb, t32 (x54 kb :: ([] ++ parts))]).length ≤ 140737488355000) then
              k ⟨.ar 37 (pu .u8 (sumP (ints (flat [x92 kb, t32 (x54 kb :: ([] ++ parts))])))), [], []⟩
            else none
          else none
        else none
      else none
    else none
  else none
theorem g80_form (kz kf : Bool) (key : List PV) (pz pf : Bool) (parts : List PV) (k : Res → Option Res) : g80 0 kz kf key pz pf parts k =
    (bif decide (zi key.length > 64) then
      bif allInt .u8 (flat [.ro 5 kz kf key]) && decide ((flat [.ro 5 kz kf key]).length ≤ 140737488355000) then
        macForm pz parts (kbG (List.take 32 (pu .u8 (sumP (ints (flat [.ro 5 kz kf key])))))) k
      else none
    else macForm pz parts (kbG key) k) := by kernel_rfl
theorem kbG_pu (s : List Int) (h : s.length ≤ 64) : kbG (pu .u8 s) = pu .u8 (padK s) := by
  unfold kbG padK
  rw [pu_length, show 0 + min s.length 64 = s.length from by omega, pu_drop, List.drop_replicate, List.take_of_length_le (by simpa using h), List.nil_append, ← pu_append]
theorem macForm_eq (K : List Int) (hK : K.length = 64) (pz : Bool) (parts : List PV) (hz : pz = true → parts = []) (h1 : parts.all (PV.isRo 5) = true) (h2 : parts.length ≤ 1000000) (h3 : allInt .u8 (flat parts) = true) (h4 : (flat parts).length ≤ 1000000000) (k : Res → Option Res) :
    macForm pz parts (pu .u8 K) k = k ⟨.ar 37 (pu .u8 (sumP (xorB K 92 ++ sumP (xorB K 54 ++ ints (flat parts))))), [], []⟩ := by
  have hk : (allInt .u8 (pu .u8 K) && decide ((pu .u8 K).length = 64) && true) = true := by simp [hK]
  have e54 : x54 (pu .u8 K) = .ro 5 false false (pu .u8 (xorB K 54)) := by simp [x54]
  have e92 : x92 (pu .u8 K) = .ro 5 false false (pu .u8 (xorB K 92)) := by simp [x92]
  have hS : ∀ l : List Int, List.take 32 (pu .u8 (sumP l)) = pu .u8 (sumP l) := fun l => List.take_of_length_le (by simp [sumP_length])
  cases pz with
  | true =>
    have := hz rfl; subst this
    have et : t32 [x54 (pu .u8 K)] = .ro 5 false false (pu .u8 (sumP (xorB K 54))) := by simp [t32, e54, PV.els, hS]
    unfold macForm
    rw [cond_true, bif_t hk, bif_t (by simp [e54, PV.els, hK]), bif_t hk, et, e92, bif_t (by simp [PV.els, hK, allInt_append, sumP_length])]
    simp [PV.els, ints_append]
  | false =>
    have et : t32 (x54 (pu .u8 K) :: ([] ++ parts)) = .ro 5 false false (pu .u8 (sumP (xorB K 54 ++ ints (flat parts)))) := by
      rw [List.nil_append, t32, e54, flat_cons, hS]
      simp only [PV.els]
      rw [ints_append, ints_pu]
    unfold macForm
    have hp : (pu IntKind.u8 K).length = 64 := by simp [hK]
    rw [cond_false, bif_t (by simp [roomy]; omega), bif_t hk, bif_t (by simp; omega), bif_t, bif_t hk, et, e92, bif_t (by simp [PV.els, hK, allInt_append, sumP_length])]
    · simp [PV.els, ints_append]
    · rw [e54]
      simp only [List.nil_append, flat_cons, PV.els, h1, allInt_append, allInt_pu, h3, List.length_cons, List.length_append, pu_length, xorB_length, hK, Bool.true_and, Bool.and_true, Bool.and_eq_true, decide_eq_true_eq]
      omega
noncomputable def run80' : List PV → List Ent → (Res → Option Res) → Option Res
  | [.ro 5 kz kf key, .ro 29 pz pf parts], [], k =>
    bif (allInt .u8 key && decide (key.length ≤ 1000000000)) && ((parts.all (PV.isRo 5) && decide (parts.length ≤ 1000000)) && (allInt .u8 (flat parts) && decide ((flat parts).length ≤ 1000000000))) && (!pz || parts.isEmpty) then
      k ⟨.ar 37 (pu .u8 (macP (ints key) (ints (flat parts)))), [], []⟩ else none
  | _, _, _ => none
noncomputable def s80' : Sig := { own := [], run := run80' }
theorem g80_eq (kz kf : Bool) (key : List PV) (pz pf : Bool) (parts : List PV) (k : Res → Option Res) (a1 : allInt .u8 key = true) (a2 : key.length ≤ 1000000000) (h1 : parts.all (PV.isRo 5) = true) (h2 : parts.length ≤ 1000000) (h3 : allInt .u8 (flat parts) = true) (h4 : (flat parts).length ≤ 1000000000) (hz : pz = true → parts = []) :
    g80 0 kz kf key pz pf parts k = k ⟨.ar 37 (pu .u8 (macP (ints key) (ints (flat parts)))), [], []⟩ := by
  rw [g80_form, macP_eq, macP0]
  have hf : flat [.ro 5 kz kf key] = key := by simp [PV.els]
  have hi := pu_ints a1
  by_cases hc : key.length > 64
  · rw [bif_t (by simp [zi]; omega), hf, bif_t (by simp [a1]; omega), List.take_of_length_le (by simp [sumP_length]), kbG_pu _ (by rw [sumP_length]; omega),
      macForm_eq _ (by rw [← keyB_length (ints key), keyB, if_pos (by simpa using hc)]) pz parts hz h1 h2 h3 h4, keyB, if_pos (by simpa using hc)]
  · have hl : (ints key).length ≤ 64 := by simp; omega
    rw [bif_f (by simp [zi]; omega), hi, kbG_pu _ hl, ints_pu, macForm_eq _ (by rw [← keyB_length (ints key), keyB, if_neg (by omega)]) pz parts hz h1 h2 h3 h4, keyB, if_neg (by omega)]
theorem ok80' : CallOk tau Try.prog 80 s80' := ok80.of fun xs es k res hr => by
  change run80' xs es k = some res at hr
  unfold run80' at hr
  split at hr
  · rename_i kz kf key pz pf parts
    obtain ⟨hc, hr⟩ := of_bif hr
    simp only [Bool.and_eq_true, decide_eq_true_eq, Bool.or_eq_true, Bool.not_eq_true', List.isEmpty_iff] at hc
    obtain ⟨⟨⟨a1, a2⟩, ⟨h1, h2⟩, h3, h4⟩, hz⟩ := hc
    exact (g80_eq kz kf key pz pf parts k a1 a2 h1 h2 h3 h4 (fun hp => hz.resolve_left (by rw [hp]; decide))).trans hr
  · cases hr
end Go.Proofs.Ytcklhipdldpkhaa.Rx
