/- What the functions of this law compute, and their plain laws. Conditions: none. -/
import Derived.Test.YtcklhipdldpkhaaSignChainP2
namespace Go.Proofs.Ytcklhipdldpkhaa.Rx
open Go
set_option linter.unusedVariables false
set_option linter.unusedSimpArgs false
set_option maxRecDepth 100000
set_option maxHeartbeats 0
noncomputable def apI : List PV → Int → List PV := hid fun b n => b ++ pu .u8 (J4 n)
noncomputable def apY : List PV → Int → List PV := hid fun b n => b ++ pu .u8 [IntKind.u8.wrap n]
noncomputable def apT : List PV → ByteArray → List PV := hid fun b s => b ++ pu .u8 (Qg s)
noncomputable def okZ : Bool → List PV → Bool := hid slB
noncomputable def okL : Nat → List PV → Bool := hid fun m l => Nat.beq m l.length && Nat.ble l.length 1000000000
theorem YZ (b : List PV) (n : Int) : apI b n = b ++ pu .u8 (J4 n) := by rw [apI, hid_eq]
theorem ZX (b : List PV) (n : Int) : apY b n = b ++ pu .u8 [IntKind.u8.wrap n] := by rw [apY, hid_eq]
theorem Xg (b : List PV) (s : ByteArray) : apT b s = b ++ pu .u8 (Qg s) := by rw [apT, hid_eq]
theorem Y0 (z : Bool) (b : List PV) : okZ z b = slB z b := by rw [okZ, hid_eq]
theorem Jc6 (m : Nat) (l : List PV) : okL m l = (Nat.beq m l.length && Nat.ble l.length 1000000000) := by rw [okL, hid_eq]
noncomputable def Jf7 : List PV → List Ent → (Res → Option Res) → Option Res
  | [.ro 5 z f b, .sc (.int .i64 n)], [], k => bif okZ z b then k ⟨.ro 5 false false (apI b n), [], []⟩ else none
  | _, _, _ => none
noncomputable def Jvb : Sig := { own := [], run := Jf7 }
theorem Jvc : Ji tau Try.prog 97 Jvb := fun xs es k res hl hr => Juy xs es k res hl (by
  change Jf7 xs es k = some res at hr
  show Jc0 xs es k = some res
  unfold Jf7 at hr
  split at hr
  · rw [Y0, YZ] at hr; exact hr
  · cases hr)
noncomputable def Jf8 : List PV → List Ent → (Res → Option Res) → Option Res
  | [.ro 5 z f b, .sc (.int .i64 n)], [], k => bif okZ z b then k ⟨.ow 5 16 [] 0 (apY b n).length none, [], [.vec false 5 false (apY b n)]⟩ else none
  | _, _, _ => none
noncomputable def Jra : Sig := { own := [], run := Jf8 }
theorem JoN : Ji tau Try.prog 96 Jra := fun xs es k res hl hr => Ju9 xs es k res hl (by
  change Jf8 xs es k = some res at hr
  show Jc4 xs es k = some res
  unfold Jf8 at hr
  split at hr
  · rename_i z f b n
    rw [Y0, ZX, show (b ++ pu .u8 [IntKind.u8.wrap n]).length = b.length + 1 by simp] at hr; exact hr
  · cases hr)
noncomputable def Jf9 : List PV → List Ent → (Res → Option Res) → Option Res
  | [.ro 5 z f b, .sc (.string s)], [], k => bif okZ z b && Nat.ble s.size 65535 then k ⟨.ow 5 16 [] 0 (apT b s).length none, [], [.vec false 5 false (apT b s)]⟩ else none
  | _, _, _ => none
noncomputable def JmH : Sig := { own := [], run := Jf9 }
theorem Jkj : Ji tau Try.prog 98 JmH := fun xs es k res hl hr => Jva xs es k res hl (by
  change Jf9 xs es k = some res at hr
  show Jc5 xs es k = some res
  unfold Jf9 at hr
  split at hr
  · rename_i z f b s
    rw [Y0, Xg, show (b ++ pu .u8 (Qg s)).length = b.length + (s.size + 2) by simp] at hr; exact hr
  · cases hr)
noncomputable def Jc7 : List PV → List Ent → (Res → Option Res) → Option Res
  | [.ro 5 true true [], .sc (.int .i64 n)], [], k => k ⟨.ow 5 16 [] 0 (apY [] n).length none, [], [.vec false 5 false (apY [] n)]⟩
  | [.ow 5 0 [] 0 m none, .sc (.int .i64 n)], [.vec false 5 nl l], k => bif okL m l then k ⟨.ow 5 16 [] 0 (apY l n).length none, [.dead], [.vec false 5 false (apY l n)]⟩ else none
  | _, _, _ => none
noncomputable def JoO : Sig := { own := [true], run := Jc7 }
theorem Jrb : Ji tau Try.prog 110 JoO := fun xs es k res hl hr => JqR xs es k res hl (by
  change Jc7 xs es k = some res at hr
  show Vy xs es k = some res
  unfold Jc7 at hr
  split at hr
  · rw [ZX] at hr; exact hr
  · rename_i m n nl l
    rw [Jc6, ZX] at hr
    obtain ⟨hc, hr⟩ := JI hr
    have hm : m = l.length := by rw [Bool.and_eq_true, Nat.beq_eq] at hc; exact hc.1
    have h2 : Vy [.ow 5 0 [] 0 m none, .sc (.int .i64 n)] [.vec false 5 nl l] k = k ⟨.ow 5 16 [] 0 (m + 1) none, [.dead], [.vec false 5 false (l ++ pu .u8 [IntKind.u8.wrap n])]⟩ := Jb hc
    rw [h2, ← hr, hm]; simp
  · cases hr)
noncomputable def Jc8 : List PV → List Ent → (Res → Option Res) → Option Res
  | [.ow 5 0 [] 0 m none, .sc (.int .i64 n)], [.vec false 5 nl l], k => bif okL m l then k ⟨.ow 5 16 [] 0 (apI l n).length none, [.dead], [.vec false 5 false (apI l n)]⟩ else none
  | _, _, _ => none
noncomputable def JoP : Sig := { own := [true], run := Jc8 }
theorem Jkk : Ji tau Try.prog 108 JoP := fun xs es k res hl hr => Jkb xs es k res hl (by
  change Jc8 xs es k = some res at hr
  show Vz xs es k = some res
  unfold Jc8 at hr
  split at hr
  · rename_i m n nl l
    rw [Jc6, YZ] at hr
    obtain ⟨hc, hr⟩ := JI hr
    have hm : m = l.length := by rw [Bool.and_eq_true, Nat.beq_eq] at hc; exact hc.1
    have h2 : Vz [.ow 5 0 [] 0 m none, .sc (.int .i64 n)] [.vec false 5 nl l] k = k ⟨.ow 5 16 [] 0 (m + 8) none, [.dead], [.vec false 5 false (l ++ pu .u8 (J4 n))]⟩ := Jb hc
    rw [h2, ← hr, hm]; simp
  · cases hr)
noncomputable def Jc9 : List PV → List Ent → (Res → Option Res) → Option Res
  | [.ow 5 0 [] 0 m none, .sc (.string s)], [.vec false 5 nl l], k => bif okL m l && Nat.ble s.size 65535 then k ⟨.ow 5 16 [] 0 (apT l s).length none, [.dead], [.vec false 5 false (apT l s)]⟩ else none
  | _, _, _ => none
noncomputable def JoQ : Sig := { own := [true], run := Jc9 }
theorem Jkl : Ji tau Try.prog 109 JoQ := fun xs es k res hl hr => JqS xs es k res hl (by
  change Jc9 xs es k = some res at hr
  show VA xs es k = some res
  unfold Jc9 at hr
  split at hr
  · rename_i m s nl l
    rw [Jc6, Xg] at hr
    obtain ⟨hc, hr⟩ := JI hr
    have hm : m = l.length := by simp only [Bool.and_eq_true, Nat.beq_eq] at hc; exact hc.1.1
    have h2 : VA [.ow 5 0 [] 0 m none, .sc (.string s)] [.vec false 5 nl l] k = k ⟨.ow 5 16 [] 0 (m + (s.size + 2)) none, [.dead], [.vec false 5 false (l ++ pu .u8 (Qg s))]⟩ := Jb hc
    rw [h2, ← hr, hm]; simp
  · cases hr)
noncomputable def Jvd : Fns := JG 131 JjY (F0)
theorem JmI : Jz tau Try.prog Jvd := (JH).add JjZ JjX
def JmJ : Nm := [(0, .any), (1, .any), (5, .own), (6, .any)]
def Jrc : An := (.seq .leaf (.seq .leaf (.seq .leaf (.seq .leaf (.seq (.seq .leaf (.seq .leaf (.cond .leaf .leaf))) (.seq .leaf .leaf))))))
def JhE : An := (.seq .leaf (.scope JmJ Jrc))
noncomputable def Jkm (f : Nat) (b_z : Bool) (b_f : Bool) (b : List PV) (n : Int) (k : Res → Option Res) : Option Res :=
  bif b_z then
    k (Res.mk (PV.ow 5 16 [] 0 8 none) []
      [Ent.vec false 5 false
          [PV.sc (Value.int IntKind.u8 (IntKind.u8.wrap (Jx IntKind.u64 (IntKind.u64.wrap n) (IntKind.i64.wrap (8 * 0))))),
            PV.sc (Value.int IntKind.u8 (IntKind.u8.wrap (Jx IntKind.u64 (IntKind.u64.wrap n) (IntKind.i64.wrap (8 * IntKind.i64.wrap (0 + 1)))))),
            PV.sc (Value.int IntKind.u8 (IntKind.u8.wrap (Jx IntKind.u64 (IntKind.u64.wrap n) (IntKind.i64.wrap (8 * IntKind.i64.wrap (IntKind.i64.wrap (0 + 1) + 1)))))),
            PV.sc (Value.int IntKind.u8 (IntKind.u8.wrap (Jx IntKind.u64 (IntKind.u64.wrap n) (IntKind.i64.wrap (8 * IntKind.i64.wrap (IntKind.i64.wrap (IntKind.i64.wrap (0 + 1) + 1) + 1)))))),
            PV.sc
              (Value.int IntKind.u8
                (IntKind.u8.wrap (Jx IntKind.u64 (IntKind.u64.wrap n) (IntKind.i64.wrap (8 * IntKind.i64.wrap (IntKind.i64.wrap (IntKind.i64.wrap (IntKind.i64.wrap (0 + 1) + 1) + 1) + 1)))))),
            PV.sc
              (Value.int IntKind.u8
                (IntKind.u8.wrap
                  (Jx IntKind.u64 (IntKind.u64.wrap n)
                    (IntKind.i64.wrap (8 * IntKind.i64.wrap (IntKind.i64.wrap (IntKind.i64.wrap (IntKind.i64.wrap (IntKind.i64.wrap (0 + 1) + 1) + 1) + 1) + 1)))))),
            PV.sc
              (Value.int IntKind.u8
                (IntKind.u8.wrap
                  (Jx IntKind.u64 (IntKind.u64.wrap n)
                    (IntKind.i64.wrap (8 * IntKind.i64.wrap (IntKind.i64.wrap (IntKind.i64.wrap (IntKind.i64.wrap (IntKind.i64.wrap (IntKind.i64.wrap (0 + 1) + 1) + 1) + 1) + 1) + 1)))))),
            PV.sc
              (Value.int IntKind.u8
                (IntKind.u8.wrap
                  (Jx IntKind.u64 (IntKind.u64.wrap n)
                    (IntKind.i64.wrap
                      (8 * IntKind.i64.wrap (IntKind.i64.wrap (IntKind.i64.wrap (IntKind.i64.wrap (IntKind.i64.wrap (IntKind.i64.wrap (IntKind.i64.wrap (0 + 1) + 1) + 1) + 1) + 1) + 1) + 1))))))]])
  else bif Jj (0 + b.length) 1 && true then
    bif Jj (0 + b.length + 1) 1 && true then
      bif Jj (0 + b.length + 1 + 1) 1 && true then
        bif Jj (0 + b.length + 1 + 1 + 1) 1 && true then
          bif Jj (0 + b.length + 1 + 1 + 1 + 1) 1 && true then
            bif Jj (0 + b.length + 1 + 1 + 1 + 1 + 1) 1 && true then
              bif Jj (0 + b.length + 1 + 1 + 1 + 1 + 1 + 1) 1 && true then
                bif Jj (0 + b.length + 1 + 1 + 1 + 1 + 1 + 1 + 1) 1 && true then
                  bif Jj (0 + b.length + 1 + 1 + 1 + 1 + 1 + 1 + 1 + 1) 1 && true then
                    bif Jj
                        (0 +
                          (List.take (0 + b.length + 1 + 1 + 1 + 1 + 1 + 1 + 1 + 1)
                              (List.take (0 + b.length + 1 + 1 + 1 + 1 + 1 + 1 + 1)
                                  (List.take (0 + b.length + 1 + 1 + 1 + 1 + 1 + 1)
                                      (List.take (0 + b.length + 1 + 1 + 1 + 1 + 1)
                                          (List.take (0 + b.length + 1 + 1 + 1 + 1)
                                              (List.take (0 + b.length + 1 + 1 + 1)
                                                  (List.take (0 + b.length + 1 + 1)
                                                      (List.take (0 + b.length + 1)
                                                          (List.take (0 + b.length) b ++
                                                            [PV.sc (Value.int IntKind.u8 (IntKind.u8.wrap (Jx IntKind.u64 (IntKind.u64.wrap n) (IntKind.i64.wrap (8 * 0)))))]) ++
                                                        [PV.sc (Value.int IntKind.u8 (IntKind.u8.wrap (Jx IntKind.u64 (IntKind.u64.wrap n) (IntKind.i64.wrap (8 * IntKind.i64.wrap (0 + 1))))))]) ++
                                                    [PV.sc
                                                        (Value.int IntKind.u8
                                                          (IntKind.u8.wrap (Jx IntKind.u64 (IntKind.u64.wrap n) (IntKind.i64.wrap (8 * IntKind.i64.wrap (IntKind.i64.wrap (0 + 1) + 1))))))]) ++
                                                [PV.sc
                                                    (Value.int IntKind.u8
                                                      (IntKind.u8.wrap
                                                        (Jx IntKind.u64 (IntKind.u64.wrap n) (IntKind.i64.wrap (8 * IntKind.i64.wrap (IntKind.i64.wrap (IntKind.i64.wrap (0 + 1) + 1) + 1))))))]) ++
                                            [PV.sc
                                                (Value.int IntKind.u8
                                                  (IntKind.u8.wrap
                                                    (Jx IntKind.u64 (IntKind.u64.wrap n)
                                                      (IntKind.i64.wrap (8 * IntKind.i64.wrap (IntKind.i64.wrap (IntKind.i64.wrap (IntKind.i64.wrap (0 + 1) + 1) + 1) + 1))))))]) ++
                                        [PV.sc
                                            (Value.int IntKind.u8
                                              (IntKind.u8.wrap
                                                (Jx IntKind.u64 (IntKind.u64.wrap n)
                                                  (IntKind.i64.wrap (8 * IntKind.i64.wrap (IntKind.i64.wrap (IntKind.i64.wrap (IntKind.i64.wrap (IntKind.i64.wrap (0 + 1) + 1) + 1) + 1) + 1))))))]) ++
                                    [PV.sc
                                        (Value.int IntKind.u8
                                          (IntKind.u8.wrap
                                            (Jx IntKind.u64 (IntKind.u64.wrap n)
                                              (IntKind.i64.wrap
                                                (8 *
                                                  IntKind.i64.wrap (IntKind.i64.wrap (IntKind.i64.wrap (IntKind.i64.wrap (IntKind.i64.wrap (IntKind.i64.wrap (0 + 1) + 1) + 1) + 1) + 1) + 1))))))]) ++
                                [PV.sc
                                    (Value.int IntKind.u8
                                      (IntKind.u8.wrap
                                        (Jx IntKind.u64 (IntKind.u64.wrap n)
                                          (IntKind.i64.wrap
                                            (8 *
                                              IntKind.i64.wrap
                                                (IntKind.i64.wrap (IntKind.i64.wrap (IntKind.i64.wrap (IntKind.i64.wrap (IntKind.i64.wrap (IntKind.i64.wrap (0 + 1) + 1) + 1) + 1) + 1) + 1) +
                                                  1))))))])).length)
                        1 &&
                      true then
                      k (Res.mk
                        (PV.ow 5 16 [] 0
                          (0 +
                            (List.take (0 + b.length + 1 + 1 + 1 + 1 + 1 + 1 + 1 + 1)
                                (List.take (0 + b.length + 1 + 1 + 1 + 1 + 1 + 1 + 1)
                                    (List.take (0 + b.length + 1 + 1 + 1 + 1 + 1 + 1)
                                        (List.take (0 + b.length + 1 + 1 + 1 + 1 + 1)
                                            (List.take (0 + b.length + 1 + 1 + 1 + 1)
                                                (List.take (0 + b.length + 1 + 1 + 1)
                                                    (List.take (0 + b.length + 1 + 1)
                                                        (List.take (0 + b.length + 1)
                                                            (List.take (0 + b.length) b ++
                                                              [PV.sc (Value.int IntKind.u8 (IntKind.u8.wrap (Jx IntKind.u64 (IntKind.u64.wrap n) (IntKind.i64.wrap (8 * 0)))))]) ++
                                                          [PV.sc (Value.int IntKind.u8 (IntKind.u8.wrap (Jx IntKind.u64 (IntKind.u64.wrap n) (IntKind.i64.wrap (8 * IntKind.i64.wrap (0 + 1))))))]) ++
                                                      [PV.sc
                                                          (Value.int IntKind.u8
                                                            (IntKind.u8.wrap (Jx IntKind.u64 (IntKind.u64.wrap n) (IntKind.i64.wrap (8 * IntKind.i64.wrap (IntKind.i64.wrap (0 + 1) + 1))))))]) ++
                                                  [PV.sc
                                                      (Value.int IntKind.u8
                                                        (IntKind.u8.wrap
                                                          (Jx IntKind.u64 (IntKind.u64.wrap n) (IntKind.i64.wrap (8 * IntKind.i64.wrap (IntKind.i64.wrap (IntKind.i64.wrap (0 + 1) + 1) + 1))))))]) ++
                                              [PV.sc
                                                  (Value.int IntKind.u8
                                                    (IntKind.u8.wrap
                                                      (Jx IntKind.u64 (IntKind.u64.wrap n)
                                                        (IntKind.i64.wrap (8 * IntKind.i64.wrap (IntKind.i64.wrap (IntKind.i64.wrap (IntKind.i64.wrap (0 + 1) + 1) + 1) + 1))))))]) ++
                                          [PV.sc
                                              (Value.int IntKind.u8
                                                (IntKind.u8.wrap
                                                  (Jx IntKind.u64 (IntKind.u64.wrap n)
                                                    (IntKind.i64.wrap
                                                      (8 * IntKind.i64.wrap (IntKind.i64.wrap (IntKind.i64.wrap (IntKind.i64.wrap (IntKind.i64.wrap (0 + 1) + 1) + 1) + 1) + 1))))))]) ++
                                      [PV.sc
                                          (Value.int IntKind.u8
                                            (IntKind.u8.wrap
                                              (Jx IntKind.u64 (IntKind.u64.wrap n)
                                                (IntKind.i64.wrap
                                                  (8 *
                                                    IntKind.i64.wrap
                                                      (IntKind.i64.wrap (IntKind.i64.wrap (IntKind.i64.wrap (IntKind.i64.wrap (IntKind.i64.wrap (0 + 1) + 1) + 1) + 1) + 1) + 1))))))]) ++
                                  [PV.sc
                                      (Value.int IntKind.u8
                                        (IntKind.u8.wrap
                                          (Jx IntKind.u64 (IntKind.u64.wrap n)
                                            (IntKind.i64.wrap
                                              (8 *
                                                IntKind.i64.wrap
                                                  (IntKind.i64.wrap (IntKind.i64.wrap (IntKind.i64.wrap (IntKind.i64.wrap (IntKind.i64.wrap (IntKind.i64.wrap (0 + 1) + 1) + 1) + 1) + 1) + 1) +
                                                    1))))))])).length)
                          none)
                        []
                        [Ent.vec false 5 false
                            (List.take (0 + b.length + 1 + 1 + 1 + 1 + 1 + 1 + 1 + 1)
                              (List.take (0 + b.length + 1 + 1 + 1 + 1 + 1 + 1 + 1)
                                  (List.take (0 + b.length + 1 + 1 + 1 + 1 + 1 + 1)
                                      (List.take (0 + b.length + 1 + 1 + 1 + 1 + 1)
                                          (List.take (0 + b.length + 1 + 1 + 1 + 1)
                                              (List.take (0 + b.length + 1 + 1 + 1)
                                                  (List.take (0 + b.length + 1 + 1)
                                                      (List.take (0 + b.length + 1)
                                                          (List.take (0 + b.length) b ++
                                                            [PV.sc (Value.int IntKind.u8 (IntKind.u8.wrap (Jx IntKind.u64 (IntKind.u64.wrap n) (IntKind.i64.wrap (8 * 0)))))]) ++
                                                        [PV.sc (Value.int IntKind.u8 (IntKind.u8.wrap (Jx IntKind.u64 (IntKind.u64.wrap n) (IntKind.i64.wrap (8 * IntKind.i64.wrap (0 + 1))))))]) ++
                                                    [PV.sc
                                                        (Value.int IntKind.u8
                                                          (IntKind.u8.wrap (Jx IntKind.u64 (IntKind.u64.wrap n) (IntKind.i64.wrap (8 * IntKind.i64.wrap (IntKind.i64.wrap (0 + 1) + 1))))))]) ++
                                                [PV.sc
                                                    (Value.int IntKind.u8
                                                      (IntKind.u8.wrap
                                                        (Jx IntKind.u64 (IntKind.u64.wrap n) (IntKind.i64.wrap (8 * IntKind.i64.wrap (IntKind.i64.wrap (IntKind.i64.wrap (0 + 1) + 1) + 1))))))]) ++
                                            [PV.sc
                                                (Value.int IntKind.u8
                                                  (IntKind.u8.wrap
                                                    (Jx IntKind.u64 (IntKind.u64.wrap n)
                                                      (IntKind.i64.wrap (8 * IntKind.i64.wrap (IntKind.i64.wrap (IntKind.i64.wrap (IntKind.i64.wrap (0 + 1) + 1) + 1) + 1))))))]) ++
                                        [PV.sc
                                            (Value.int IntKind.u8
                                              (IntKind.u8.wrap
                                                (Jx IntKind.u64 (IntKind.u64.wrap n)
                                                  (IntKind.i64.wrap (8 * IntKind.i64.wrap (IntKind.i64.wrap (IntKind.i64.wrap (IntKind.i64.wrap (IntKind.i64.wrap (0 + 1) + 1) + 1) + 1) + 1))))))]) ++
                                    [PV.sc
                                        (Value.int IntKind.u8
                                          (IntKind.u8.wrap
                                            (Jx IntKind.u64 (IntKind.u64.wrap n)
                                              (IntKind.i64.wrap
                                                (8 *
                                                  IntKind.i64.wrap (IntKind.i64.wrap (IntKind.i64.wrap (IntKind.i64.wrap (IntKind.i64.wrap (IntKind.i64.wrap (0 + 1) + 1) + 1) + 1) + 1) + 1))))))]) ++
                                [PV.sc
                                    (Value.int IntKind.u8
                                      (IntKind.u8.wrap
                                        (Jx IntKind.u64 (IntKind.u64.wrap n)
                                          (IntKind.i64.wrap
                                            (8 *
                                              IntKind.i64.wrap
                                                (IntKind.i64.wrap (IntKind.i64.wrap (IntKind.i64.wrap (IntKind.i64.wrap (IntKind.i64.wrap (IntKind.i64.wrap (0 + 1) + 1) + 1) + 1) + 1) + 1) +
                                                  1))))))]))])
                    else none
                  else none
                else none
              else none
            else none
          else none
        else none
      else none
    else none
  else none
theorem Jyb (f : Nat) (b_z : Bool) (b_f : Bool) (b : List PV) (n : Int) (k : Res → Option Res) : JR tau Jvd Try.f97 (Try.f97.body.get!) JhE [] 12 [.ro 5 b_z b_f b, .sc (.int .i64 n)] [] k = Jkm f b_z b_f b n k := by kernel_rfl
theorem Jve (f : Nat) : Jg (Try.f97.body.get!) JhE = [] := by kernel_rfl
theorem Jvf (f : Nat) : ∀ q ∈ Jg (Try.f97.body.get!) JhE, q.Ok tau Try.prog 0 := by
  rw [Jve f]; intro q hq; cases hq
theorem Jvg : Try.prog.funcs[97]? = some Try.f97 := by kernel_rfl
theorem Jvh : Try.f97.body = some (Try.f97.body.get!) := by kernel_rfl
noncomputable def Jvi : Fns := F0
theorem JmK : Jz tau Try.prog Jvi := JH
def JhF : An := (.seq .leaf (.seq (.seq .leaf (.cond .leaf .leaf)) (.seq .leaf .leaf)))
noncomputable def Jrd (f : Nat) (s : ByteArray) (k : Res → Option Res) : Option Res :=
  bif decide (zi s.size > 65535) then
    bif decide (65535 ≤ s.size) && true then
      bif Jj (2 + (Jn (s.extract 0 65535)).length) 1 && true then
        k (Res.mk (PV.ow 5 16 [] 0 (2 + (Jn (s.extract 0 65535)).length) none) []
          [Ent.vec false 5 false
              (PV.sc (Value.int IntKind.u8 (IntKind.u8.wrap (zi (s.extract 0 65535).size))) ::
                PV.sc (Value.int IntKind.u8 (IntKind.u8.wrap (Jx IntKind.i64 (zi (s.extract 0 65535).size) 8))) ::
                  id (Jn (s.extract 0 65535)))])
      else none
    else none
  else bif Jj (2 + (Jn s).length) 1 && true then
    k (Res.mk (PV.ow 5 16 [] 0 (2 + (Jn s).length) none) []
      [Ent.vec false 5 false
          (PV.sc (Value.int IntKind.u8 (IntKind.u8.wrap (zi s.size))) ::
            PV.sc (Value.int IntKind.u8 (IntKind.u8.wrap (Jx IntKind.i64 (zi s.size) 8))) ::
              id (Jn s))])
  else none
theorem Jyc (f : Nat) (s : ByteArray) (k : Res → Option Res) : JR tau Jvi Try.f109 (Try.f109.body.get!) JhF [] 0 [.ro 5 true true [], .sc (.string s)] [] k = Jrd f s k := by kernel_rfl
theorem Jvj (f : Nat) : Jg (Try.f109.body.get!) JhF = [] := by kernel_rfl
theorem Jvk (f : Nat) : ∀ q ∈ Jg (Try.f109.body.get!) JhF, q.Ok tau Try.prog 0 := by
  rw [Jvj f]; intro q hq; cases hq
theorem JoR : Try.prog.funcs[109]? = some Try.f109 := by kernel_rfl
theorem JoS : Try.f109.body = some (Try.f109.body.get!) := by kernel_rfl
theorem Jvl : Enters Try.prog 109 := enters_of JoR (by kernel_rfl) JoS
noncomputable def Jga : List PV → List Ent → (Res → Option Res) → Option Res
  | [.ro 5 z f b, .sc (.int .i64 n)], [], k => bif okZ z b then k ⟨.ow 5 16 [] 0 (apI b n).length none, [], [.vec false 5 false (apI b n)]⟩ else none
  | _, _, _ => none
noncomputable def Jre : Sig := { own := [], run := Jga }
theorem Jkn (f : Bool) (n : Int) (k : Res → Option Res) : Jkm 0 true f [] n k = k ⟨.ow 5 16 [] 0 8 none, [], [.vec false 5 false (pu .u8 (J4 n))]⟩ := by
  rw [Wb]; kernel_rfl
theorem Jrf (f : Bool) (b : List PV) (hb : b.length ≤ 1000000000) (n : Int) (k : Res → Option Res) : Jkm 0 false f b n k = k ⟨.ow 5 16 [] 0 (b.length + 8) none, [], [.vec false 5 false (b ++ pu .u8 (J4 n))]⟩ := by
  rw [Wb]
  unfold Jkm
  refine (JL rfl).trans ?_
  repeat rw [List.take_of_length_le (by simp <;> omega)]
  repeat (refine (Jb (by simp [Jj]; omega)).trans ?_)
  simp only [List.nil_append, List.append_assoc, List.length_append, List.length_cons, List.length_nil, Nat.zero_add]
  rfl
theorem JoT : Ji tau Try.prog 97 Jre := Ji.mk' fun xs es k res hl hr => by
  change Jga xs es k = some res at hr
  unfold Jga at hr
  split at hr
  · rename_i z f b n
    obtain ⟨hc, hr2⟩ := JI hr
    clear hr
    rw [Y0] at hc
    obtain ⟨h1, h2⟩ := QZ.1 hc
    rw [YZ] at hr2
    have hg : Jkm 0 z f b n k = some res := by
      cases z with
      | true => obtain rfl := h1 rfl; rw [Jkn]; simpa using hr2
      | false => rw [Jrf f b h2]; simpa using hr2
    exact Qo Jr JmI Js Jvg Jvh JhE [] 0 12 (Jvf 0) hl rfl ((Jyb 0 z f b n k).trans hg)
  · cases hr
noncomputable def Jda : List PV → List Ent → (Res → Option Res) → Option Res
  | [.ro 5 true true [], .sc (.int .i64 n)], [], k => k ⟨.ow 5 16 [] 0 (apI [] n).length none, [], [.vec false 5 false (apI [] n)]⟩
  | [.ow 5 0 [] 0 m none, .sc (.int .i64 n)], [.vec false 5 nl l], k => bif okL m l then k ⟨.ow 5 16 [] 0 (apI l n).length none, [.dead], [.vec false 5 false (apI l n)]⟩ else none
  | _, _, _ => none
noncomputable def JoU : Sig := { own := [true], run := Jda }
theorem Jrg : Ji tau Try.prog 108 JoU := fun xs es k res hl hr => by
  change Jda xs es k = some res at hr
  unfold Jda at hr
  split at hr
  · rename_i n
    refine Jkb _ _ k res hl ?_
    rw [YZ] at hr
    show k ⟨.ow 5 16 [] 0 8 none, [], [.vec false 5 false (pu .u8 (J4 n))]⟩ = some res
    simpa using hr
  · rename_i m n nl l
    exact Jkk _ _ k res hl hr
  · cases hr
noncomputable def Jdb : List PV → List Ent → (Res → Option Res) → Option Res
  | [.ro 5 true true [], .sc (.string s)], [], k => bif Nat.ble s.size 65535 then k ⟨.ow 5 16 [] 0 (apT [] s).length none, [], [.vec false 5 false (apT [] s)]⟩ else none
  | [.ow 5 0 [] 0 m none, .sc (.string s)], [.vec false 5 nl l], k => bif okL m l && Nat.ble s.size 65535 then k ⟨.ow 5 16 [] 0 (apT l s).length none, [.dead], [.vec false 5 false (apT l s)]⟩ else none
  | _, _, _ => none
noncomputable def JoV : Sig := { own := [true], run := Jdb }
theorem Jrh : Ji tau Try.prog 109 JoV := Ji.mk' fun xs es k res hl hr => by
  change Jdb xs es k = some res at hr
  unfold Jdb at hr
  split at hr
  · rename_i s
    obtain ⟨hc, hr⟩ := JI hr
    rw [Nat.ble_eq] at hc
    have hob : (Jn s).length = s.size := by rw [Q9]; simp
    have hg : Jrd 0 s k = some res := by
      unfold Jrd
      rw [JL (by simp only [zi, decide_eq_false_iff_not]; omega), Jb (by simp [Jj, hob]; omega), hob]
      rw [Xg, Q2, XO] at hr
      simp only [List.nil_append, JN, List.length_append, JF, ZO, List.length_cons, List.length_nil, ← Q9] at hr
      rw [← hr, hob]
      simp only [id, GW, JfA, List.cons_append, List.nil_append, Nat.zero_add, Nat.reduceAdd]
    exact Qo Jr JmK Js JoR JoS JhF [] 0 0 (Jvk 0) hl rfl ((Jyc 0 s k).trans hg)
  · rename_i m s nl l
    exact Jkl _ _ k res hl hr
  · cases hr
def Jbk : Nat := 34
noncomputable def Jko : Fns := JG 98 JmH (JG 97 Jvb (JG 96 Jra (F0)))
theorem JhG : Jz tau Try.prog Jko := (((JH).add JoN Juh).add Jvc JqD).add Jkj Jqy
noncomputable def X1 : Code := QA (Try.f114.body.get!) [1, 0]
def Wv : Nm := [(0, .any), (3, .own), (4, .any)]
def W5 : Nm := [(2, .any)]
def Gb : An := (.seq .leaf (.seq .leaf (.seq .leaf (.seq (.seq .leaf (.cond (.seq .leaf (.seq .leaf .leaf)) .leaf)) (.seq .leaf .leaf)))))
def JhH (r0 : Jsa) : An := (.seq .leaf (.ssum Wv Jbk (Gb) r0))
noncomputable def Y1 (f : Nat) (rc : Bool → Bool → List PV → Nat → Int → List PV → Option Res) (k0 : Nat → List PV → Option Res) (v0 : Bool) (v1 : Bool) (v2 : List PV) (v3 : Nat) (v4 : Int) (v5 : List PV) : Option Res := bif decide (v4 < zi v2.length) then bif decide (0 ≤ v4) && decide (v4 < zi v2.length) && (PV.isSt 99 #[Field.mk "Kind" 3 0 false "" "" 0, Field.mk "N" 3 1 false "" "" 8, Field.mk "S" 9 2 false "" "" 16].size (v2.getD v4.toNat PV.top) && (PV.isInt IntKind.i64 (PV.child 0 (v2.getD v4.toNat PV.top)) && (PV.isInt IntKind.i64 (PV.child (0 + 1) (v2.getD v4.toNat PV.top)) && ((PV.child (0 + 1 + 1) (v2.getD v4.toNat PV.top)).isStr && true)))) && true then bif okZ false (List.take v3 v5) then bif decide (0 ≤ v4) && decide (v4 < zi v2.length) && (PV.isSt 99 #[Field.mk "Kind" 3 0 false "" "" 0, Field.mk "N" 3 1 false "" "" 8, Field.mk "S" 9 2 false "" "" 16].size (v2.getD v4.toNat PV.top) && (PV.isInt IntKind.i64 (PV.child 0 (v2.getD v4.toNat PV.top)) && (PV.isInt IntKind.i64 (PV.child (0 + 1) (v2.getD v4.toNat PV.top)) && ((PV.child (0 + 1 + 1) (v2.getD v4.toNat PV.top)).isStr && true)))) && true then bif okZ false (List.take (apY (List.take v3 v5) (PV.child 0 (v2.getD v4.toNat PV.top)).int).length (apY (List.take v3 v5) (PV.child 0 (v2.getD v4.toNat PV.top)).int)) then bif decide (0 ≤ v4) && decide (v4 < zi v2.length) && (PV.isSt 99 #[Field.mk "Kind" 3 0 false "" "" 0, Field.mk "N" 3 1 false "" "" 8, Field.mk "S" 9 2 false "" "" 16].size (v2.getD v4.toNat PV.top) && (PV.isInt IntKind.i64 (PV.child 0 (v2.getD v4.toNat PV.top)) && (PV.isInt IntKind.i64 (PV.child (0 + 1) (v2.getD v4.toNat PV.top)) && ((PV.child (0 + 1 + 1) (v2.getD v4.toNat PV.top)).isStr && true)))) && true then bif okZ false (apI (List.take (apY (List.take v3 v5) (PV.child 0 (v2.getD v4.toNat PV.top)).int).length (apY (List.take v3 v5) (PV.child 0 (v2.getD v4.toNat PV.top)).int)) (PV.child (0 + 1) (v2.getD v4.toNat PV.top)).int) && (PV.child (0 + 1 + 1) (v2.getD v4.toNat PV.top)).str.size.ble 65535 then rc v0 v1 v2 ((apT (apI (List.take (apY (List.take v3 v5) (PV.child 0 (v2.getD v4.toNat PV.top)).int).length (apY (List.take v3 v5) (PV.child 0 (v2.getD v4.toNat PV.top)).int)) (PV.child (0 + 1) (v2.getD v4.toNat PV.top)).int) (PV.child (0 + 1 + 1) (v2.getD v4.toNat PV.top)).str).length) (IntKind.i64.wrap (v4 + 1)) (apT (apI (List.take (apY (List.take v3 v5) (PV.child 0 (v2.getD v4.toNat PV.top)).int).length (apY (List.take v3 v5) (PV.child 0 (v2.getD v4.toNat PV.top)).int)) (PV.child (0 + 1) (v2.getD v4.toNat PV.top)).int) (PV.child (0 + 1 + 1) (v2.getD v4.toNat PV.top)).str) else none else none else none else none else none else none else k0 v3 v5
noncomputable def X2 (f : Nat) (k0 : Nat → List PV → Option Res) : Nat → Bool → Bool → List PV → Nat → Int → List PV → Option Res
  | 0, _, _, _, _, _, _ => none
  | n + 1, v0, v1, v2, v3, v4, v5 => Y1 f (X2 f k0 n) k0 v0 v1 v2 v3 v4 v5
theorem Jkp (f : Nat) (k : Kont) (n : Nat) (v0 : Bool) (v1 : Bool) (v2 : List PV) (v3 : Nat) (v4 : Int) (v5 : List PV) : QH tau 0 Wv (hasLabel X1) (fun l s k => J5 tau Jko 0 0 X1 (Gb ) l s k) (n + 1) 0 (Jd Wv Jbk [.ro 99 v0 v1 v2, .ow 5 560 [] 0 v3 none, .sc (.int .i64 v4)] [(560, .vec false 5 false v5)]) (Jy tau 0 W5 k) = Y1 f (fun v0 v1 v2 v3 v4 v5 => QH tau 0 Wv (hasLabel X1) (fun l s k => J5 tau Jko 0 0 X1 (Gb ) l s k) n 0 (Jd Wv Jbk [.ro 99 v0 v1 v2, .ow 5 560 [] 0 v3 none, .sc (.int .i64 v4)] [(560, .vec false 5 false v5)]) (Jy tau 0 W5 k)) (fun x0 x1 => k Ex.ret (Jd W5 Jbk [.ow 5 560 [] 0 x0 none] [(560, .vec false 5 false x1)])) v0 v1 v2 v3 v4 v5 := by kernel_rfl
theorem JeI (f : Nat) (k : Kont) : ∀ (n : Nat) (v0 : Bool) (v1 : Bool) (v2 : List PV) (v3 : Nat) (v4 : Int) (v5 : List PV), QH tau 0 Wv (hasLabel X1) (fun l s k => J5 tau Jko 0 0 X1 (Gb ) l s k) n 0 (Jd Wv Jbk [.ro 99 v0 v1 v2, .ow 5 560 [] 0 v3 none, .sc (.int .i64 v4)] [(560, .vec false 5 false v5)]) (Jy tau 0 W5 k) = X2 f (fun x0 x1 => k Ex.ret (Jd W5 Jbk [.ow 5 560 [] 0 x0 none] [(560, .vec false 5 false x1)])) n v0 v1 v2 v3 v4 v5 | 0, _, _, _, _, _, _ => rfl | n + 1, v0, v1, v2, v3, v4, v5 => (Jkp f k n v0 v1 v2 v3 v4 v5).trans (congrArg (fun r => Y1 f r (fun x0 x1 => k Ex.ret (Jd W5 Jbk [.ow 5 560 [] 0 x0 none] [(560, .vec false 5 false x1)])) v0 v1 v2 v3 v4 v5) (by funext v0 v1 v2 v3 v4 v5; exact JeI f k n v0 v1 v2 v3 v4 v5))
noncomputable def ZY (f : Nat) : Nat → List PV → List (Nat × Ent) → Kont → Option Res
  | 0, [.ro 99 v0 v1 v2, .ow 5 560 [] 0 v3 none,
  PV.sc
    (Value.int IntKind.i64
      v4)], [(560, .vec false 5 false v5)], k => X2 f (fun x0 x1 => k Ex.ret (Jd W5 Jbk [.ow 5 560 [] 0 x0 none] [(560, .vec false 5 false x1)])) f v0 v1 v2 v3 v4 v5
  | _, _, _, _ => none
theorem JmL (f : Nat) : Jg X1 Gb = [] := by kernel_rfl
theorem Jri (f : Nat) : (Item.s X1 Wv Jbk (ZY f)).Ok tau Try.prog 0 := JaA Jr JhG Js (x := Gb) (nm2 := W5) (Jp _ _ (by rw [JmL f]; intro q hq; cases hq)) fun l vs hp k res hr => by
  unfold ZY at hr
  split at hr
  · exact ⟨f, 0, (JeI f _ f _ _ _ _ _ _ ).trans hr⟩
  · cases hr
noncomputable def Jrj (f : Nat) (o_z : Bool) (o_f : Bool) (o : List PV) (k : Res → Option Res) : Option Res := bif okZ true [] then bif decide (0 < zi o.length) then bif decide (0 < zi o.length) && (PV.isSt 99 #[Field.mk "Kind" 3 0 false "" "" 0, Field.mk "N" 3 1 false "" "" 8, Field.mk "S" 9 2 false "" "" 16].size (o.getD (Int.toNat 0) PV.top) && (PV.isInt IntKind.i64 (PV.child 0 (o.getD 0 PV.top)) && (PV.isInt IntKind.i64 (PV.child (0 + 1) (o.getD 0 PV.top)) && ((PV.child (0 + 1 + 1) (o.getD 0 PV.top)).isStr && true)))) && true then bif okZ false (List.take (apY [] (zi o.length)).length (apY [] (zi o.length))) then bif decide (0 < zi o.length) && (PV.isSt 99 #[Field.mk "Kind" 3 0 false "" "" 0, Field.mk "N" 3 1 false "" "" 8, Field.mk "S" 9 2 false "" "" 16].size (o.getD (Int.toNat 0) PV.top) && (PV.isInt IntKind.i64 (PV.child 0 (o.getD 0 PV.top)) && (PV.isInt IntKind.i64 (PV.child (0 + 1) (o.getD 0 PV.top)) && ((PV.child (0 + 1 + 1) (o.getD 0 PV.top)).isStr && true)))) && true then bif okZ false (List.take (apY (List.take (apY [] (zi o.length)).length (apY [] (zi o.length))) (PV.child 0 (o.getD 0 PV.top)).int).length (apY (List.take (apY [] (zi o.length)).length (apY [] (zi o.length))) (PV.child 0 (o.getD 0 PV.top)).int)) then bif decide (0 < zi o.length) && (PV.isSt 99 #[Field.mk "Kind" 3 0 false "" "" 0, Field.mk "N" 3 1 false "" "" 8, Field.mk "S" 9 2 false "" "" 16].size (o.getD (Int.toNat 0) PV.top) && (PV.isInt IntKind.i64 (PV.child 0 (o.getD 0 PV.top)) && (PV.isInt IntKind.i64 (PV.child (0 + 1) (o.getD 0 PV.top)) && ((PV.child (0 + 1 + 1) (o.getD 0 PV.top)).isStr && true)))) && true then bif okZ false (apI (List.take (apY (List.take (apY [] (zi o.length)).length (apY [] (zi o.length))) (PV.child 0 (o.getD 0 PV.top)).int).length (apY (List.take (apY [] (zi o.length)).length (apY [] (zi o.length))) (PV.child 0 (o.getD 0 PV.top)).int)) (PV.child (0 + 1) (o.getD 0 PV.top)).int) && (PV.child (0 + 1 + 1) (o.getD 0 PV.top)).str.size.ble 65535 then X2 f (fun x0_0 x1_0 => k (Res.mk (.ro 5 false false (List.take x0_0 x1_0)) [] [])) f o_z o_f o ((apT (apI (List.take (apY (List.take (apY [] (zi o.length)).length (apY [] (zi o.length))) (PV.child 0 (o.getD 0 PV.top)).int).length (apY (List.take (apY [] (zi o.length)).length (apY [] (zi o.length))) (PV.child 0 (o.getD 0 PV.top)).int)) (PV.child (0 + 1) (o.getD 0 PV.top)).int) (PV.child (0 + 1 + 1) (o.getD 0 PV.top)).str).length) (IntKind.i64.wrap (0 + 1)) (apT (apI (List.take (apY (List.take (apY [] (zi o.length)).length (apY [] (zi o.length))) (PV.child 0 (o.getD 0 PV.top)).int).length (apY (List.take (apY [] (zi o.length)).length (apY [] (zi o.length))) (PV.child 0 (o.getD 0 PV.top)).int)) (PV.child (0 + 1) (o.getD 0 PV.top)).int) (PV.child (0 + 1 + 1) (o.getD 0 PV.top)).str) else none else none else none else none else none else none else k (Res.mk (.ro 5 false false (List.take (apY [] (zi o.length)).length (apY [] (zi o.length)))) [] []) else none
theorem Jyd (f : Nat) (o_z : Bool) (o_f : Bool) (o : List PV) (k : Res → Option Res) : JR tau Jko Try.f114 (Try.f114.body.get!) (JhH (ZY f)) [.ro] 0 [.ro 99 o_z o_f o] [] k = Jrj f o_z o_f o k := by kernel_rfl
theorem Jvm (f : Nat) : Jg (Try.f114.body.get!) (JhH (ZY f)) = [.s X1 Wv Jbk (ZY f)] := by kernel_rfl
theorem Jvn (f : Nat) : ∀ q ∈ Jg (Try.f114.body.get!) (JhH (ZY f)), q.Ok tau Try.prog 0 := by
  rw [Jvm f]; simp only [List.forall_mem_cons, List.not_mem_nil, false_implies, implies_true, and_true]; exact Jri f
theorem JoW : Try.prog.funcs[114]? = some Try.f114 := by kernel_rfl
theorem JoX : Try.f114.body = some (Try.f114.body.get!) := by kernel_rfl
theorem JoY : Enters Try.prog 114 := enters_of JoW (by kernel_rfl) JoX
def Jbl : Nat := 34
noncomputable def Jkq : Fns := JG 110 JoO (JG 109 JoQ (JG 108 JoP (F0)))
theorem JhI : Jz tau Try.prog Jkq := (((JH).add Jkk Joz).add Jkl JqP).add Jrb Jup
noncomputable def Gc : Code := QA (Try.f111.body.get!) [1, 1, 0, 1, 0, 0]
def Ww : Nm := [(0, .any), (3, .own), (4, .any)]
def W6 : Nm := [(3, .any)]
def JaV : An := (.seq (.seq .leaf (.cond .leaf .leaf)) (.seq (.block none .leaf) .leaf))
def JhJ (r0 : Wg) : An := (.seq .leaf (.seq .leaf (.seq (.seq .leaf (.block none (.sum Ww Jbl r0))) (.seq .leaf .leaf))))
noncomputable def Y2 (f : Nat) (rc : Bool → Bool → List PV → Nat → Int → List PV → Option Res) (k0 : Nat → List PV → Option Res) (v0 : Bool) (v1 : Bool) (v2 : List PV) (v3 : Nat) (v4 : Int) (v5 : List PV) : Option Res := bif decide (v4 < zi v2.length) then bif decide (0 ≤ v4) && decide (v4 < zi v2.length) && (PV.isSt 99 #[Field.mk "Kind" 3 0 false "" "" 0, Field.mk "N" 3 1 false "" "" 8, Field.mk "S" 9 2 false "" "" 16].size (v2.getD v4.toNat PV.top) && (PV.isInt IntKind.i64 (PV.child 0 (v2.getD v4.toNat PV.top)) && (PV.isInt IntKind.i64 (PV.child (0 + 1) (v2.getD v4.toNat PV.top)) && ((PV.child (0 + 1 + 1) (v2.getD v4.toNat PV.top)).isStr && true)))) && true then bif okL v3 v5 then bif decide (0 ≤ v4) && decide (v4 < zi v2.length) && (PV.isSt 99 #[Field.mk "Kind" 3 0 false "" "" 0, Field.mk "N" 3 1 false "" "" 8, Field.mk "S" 9 2 false "" "" 16].size (v2.getD v4.toNat PV.top) && (PV.isInt IntKind.i64 (PV.child 0 (v2.getD v4.toNat PV.top)) && (PV.isInt IntKind.i64 (PV.child (0 + 1) (v2.getD v4.toNat PV.top)) && ((PV.child (0 + 1 + 1) (v2.getD v4.toNat PV.top)).isStr && true)))) && true then bif okL (apY v5 (PV.child 0 (v2.getD v4.toNat PV.top)).int).length (apY v5 (PV.child 0 (v2.getD v4.toNat PV.top)).int) then bif decide (0 ≤ v4) && decide (v4 < zi v2.length) && (PV.isSt 99 #[Field.mk "Kind" 3 0 false "" "" 0, Field.mk "N" 3 1 false "" "" 8, Field.mk "S" 9 2 false "" "" 16].size (v2.getD v4.toNat PV.top) && (PV.isInt IntKind.i64 (PV.child 0 (v2.getD v4.toNat PV.top)) && (PV.isInt IntKind.i64 (PV.child (0 + 1) (v2.getD v4.toNat PV.top)) && ((PV.child (0 + 1 + 1) (v2.getD v4.toNat PV.top)).isStr && true)))) && true then bif okL (apI (apY v5 (PV.child 0 (v2.getD v4.toNat PV.top)).int) (PV.child (0 + 1) (v2.getD v4.toNat PV.top)).int).length (apI (apY v5 (PV.child 0 (v2.getD v4.toNat PV.top)).int) (PV.child (0 + 1) (v2.getD v4.toNat PV.top)).int) && (PV.child (0 + 1 + 1) (v2.getD v4.toNat PV.top)).str.size.ble 65535 then rc v0 v1 v2 ((apT (apI (apY v5 (PV.child 0 (v2.getD v4.toNat PV.top)).int) (PV.child (0 + 1) (v2.getD v4.toNat PV.top)).int) (PV.child (0 + 1 + 1) (v2.getD v4.toNat PV.top)).str).length) (IntKind.i64.wrap (v4 + 1)) (apT (apI (apY v5 (PV.child 0 (v2.getD v4.toNat PV.top)).int) (PV.child (0 + 1) (v2.getD v4.toNat PV.top)).int) (PV.child (0 + 1 + 1) (v2.getD v4.toNat PV.top)).str) else none else none else none else none else none else none else k0 v3 v5
noncomputable def X3 (f : Nat) (k0 : Nat → List PV → Option Res) : Nat → Bool → Bool → List PV → Nat → Int → List PV → Option Res
  | 0, _, _, _, _, _, _ => none
  | n + 1, v0, v1, v2, v3, v4, v5 => Y2 f (X3 f k0 n) k0 v0 v1 v2 v3 v4 v5
theorem Jkr (f : Nat) (k : Kont) (n : Nat) (v0 : Bool) (v1 : Bool) (v2 : List PV) (v3 : Nat) (v4 : Int) (v5 : List PV) : Jo tau 0 Ww (fun s k => ev tau Jkq 0 0 Gc (JaV ) s k) (n + 1) (Jd Ww Jbl [.ro 99 v0 v1 v2, .ow 5 560 [] 0 v3 none, .sc (.int .i64 v4)] [(560, .vec false 5 false v5)]) (Jy tau 0 W6 k) = Y2 f (fun v0 v1 v2 v3 v4 v5 => Jo tau 0 Ww (fun s k => ev tau Jkq 0 0 Gc (JaV ) s k) n (Jd Ww Jbl [.ro 99 v0 v1 v2, .ow 5 560 [] 0 v3 none, .sc (.int .i64 v4)] [(560, .vec false 5 false v5)]) (Jy tau 0 W6 k)) (fun x0 x1 => k (Ex.exit 0) (Jd W6 Jbl [.ow 5 560 [] 0 x0 none] [(560, .vec false 5 false x1)])) v0 v1 v2 v3 v4 v5 := by kernel_rfl
theorem JeJ (f : Nat) (k : Kont) : ∀ (n : Nat) (v0 : Bool) (v1 : Bool) (v2 : List PV) (v3 : Nat) (v4 : Int) (v5 : List PV), Jo tau 0 Ww (fun s k => ev tau Jkq 0 0 Gc (JaV ) s k) n (Jd Ww Jbl [.ro 99 v0 v1 v2, .ow 5 560 [] 0 v3 none, .sc (.int .i64 v4)] [(560, .vec false 5 false v5)]) (Jy tau 0 W6 k) = X3 f (fun x0 x1 => k (Ex.exit 0) (Jd W6 Jbl [.ow 5 560 [] 0 x0 none] [(560, .vec false 5 false x1)])) n v0 v1 v2 v3 v4 v5 | 0, _, _, _, _, _, _ => rfl | n + 1, v0, v1, v2, v3, v4, v5 => (Jkr f k n v0 v1 v2 v3 v4 v5).trans (congrArg (fun r => Y2 f r (fun x0 x1 => k (Ex.exit 0) (Jd W6 Jbl [.ow 5 560 [] 0 x0 none] [(560, .vec false 5 false x1)])) v0 v1 v2 v3 v4 v5) (by funext v0 v1 v2 v3 v4 v5; exact JeJ f k n v0 v1 v2 v3 v4 v5))
noncomputable def ZZ (f : Nat) : List PV → List (Nat × Ent) → Kont → Option Res
  | [.ro 99 v0 v1 v2, .ow 5 560 [] 0 v3 none,
  PV.sc
    (Value.int IntKind.i64
      v4)], [(560, .vec false 5 false v5)], k => X3 f (fun x0 x1 => k (Ex.exit 0) (Jd W6 Jbl [.ow 5 560 [] 0 x0 none] [(560, .vec false 5 false x1)])) f v0 v1 v2 v3 v4 v5
  | _, _, _ => none
theorem JmM (f : Nat) : Jg Gc JaV = [] := by kernel_rfl
theorem Jrk (f : Nat) : (Item.l Gc Ww Jbl (ZZ f)).Ok tau Try.prog 0 := JJ Jr JhI Js (x := JaV) (nm2 := W6) (Jp _ _ (by rw [JmM f]; intro q hq; cases hq)) fun vs hp k res hr => by
  unfold ZZ at hr
  split at hr
  · exact ⟨f, 0, (JeJ f _ f _ _ _ _ _ _ ).trans hr⟩
  · cases hr
noncomputable def Jrl (f : Nat) (o_z : Bool) (o_f : Bool) (o : List PV) (k : Res → Option Res) : Option Res := X3 f (fun x0_0 x1_0 => k (Res.mk (.ow 5 16 [] 0 x0_0 none) [] [.vec false 5 false x1_0])) f o_z o_f o ((apY [] (zi o.length)).length) (0) (apY [] (zi o.length))
theorem Jye (f : Nat) (o_z : Bool) (o_f : Bool) (o : List PV) (k : Res → Option Res) : JR tau Jkq Try.f111 (Try.f111.body.get!) (JhJ (ZZ f)) [] 0 [.ro 99 o_z o_f o] [] k = Jrl f o_z o_f o k := by kernel_rfl
theorem Jvo (f : Nat) : Jg (Try.f111.body.get!) (JhJ (ZZ f)) = [.l Gc Ww Jbl (ZZ f)] := by kernel_rfl
theorem Jvp (f : Nat) : ∀ q ∈ Jg (Try.f111.body.get!) (JhJ (ZZ f)), q.Ok tau Try.prog 0 := by
  rw [Jvo f]; simp only [List.forall_mem_cons, List.not_mem_nil, false_implies, implies_true, and_true]; exact Jrk f
theorem JoZ : Try.prog.funcs[111]? = some Try.f111 := by kernel_rfl
theorem Jo0 : Try.f111.body = some (Try.f111.body.get!) := by kernel_rfl
theorem Jvq : Enters Try.prog 111 := enters_of JoZ (by kernel_rfl) Jo0
noncomputable def Jvr : Fns := F0
theorem JmN : Jz tau Try.prog Jvr := JH
def JhK : An := (.seq .leaf (.seq (.seq .leaf (.block none (.seq (.seq .leaf (.cond .leaf .leaf)) (.cond (.seq .leaf (.cond (.seq .leaf .leaf) .leaf)) (.seq .leaf (.cond (.seq .leaf (.cond (.seq .leaf .leaf) .leaf)) (.seq .leaf .leaf))))))) (.seq (.seq .leaf (.cond (.seq .leaf .leaf) .leaf)) (.seq .leaf .leaf))))
noncomputable def JmO (f : Nat) (c_Kind : Int) (c_N : Int) (c_S : ByteArray) (k : Res → Option Res) : Option Res :=
  bif c_Kind == 1 then
    bif c_Kind == 1 then
      bif decide (c_N < 1) then
        k (Res.mk (PV.sc (Value.int IntKind.i64 1)) [] [])
      else bif decide (c_N > 120) then
        k (Res.mk (PV.sc (Value.int IntKind.i64 1)) [] [])
      else bif !ZA c_S (ByteArray.mk (Array.mk [])) then
        k (Res.mk (PV.sc (Value.int IntKind.i64 1)) [] [])
      else bif decide (zi c_S.size > 120) then
        k (Res.mk (PV.sc (Value.int IntKind.i64 5)) [] [])
      else k (Res.mk (PV.sc (Value.int IntKind.i64 0)) [] [])
    else bif c_Kind == 2 then
      bif c_N != 0 then
        k (Res.mk (PV.sc (Value.int IntKind.i64 1)) [] [])
      else bif ZA c_S (ByteArray.mk (Array.mk [])) then
        k (Res.mk (PV.sc (Value.int IntKind.i64 1)) [] [])
      else bif decide (zi c_S.size > 120) then
        k (Res.mk (PV.sc (Value.int IntKind.i64 5)) [] [])
      else k (Res.mk (PV.sc (Value.int IntKind.i64 0)) [] [])
    else k (Res.mk (PV.sc (Value.int IntKind.i64 3)) [] [])
  else bif c_Kind == 3 then
    bif decide (c_N < 1) then
      k (Res.mk (PV.sc (Value.int IntKind.i64 1)) [] [])
    else bif decide (c_N > 120) then
      k (Res.mk (PV.sc (Value.int IntKind.i64 1)) [] [])
    else bif !ZA c_S (ByteArray.mk (Array.mk [])) then
      k (Res.mk (PV.sc (Value.int IntKind.i64 1)) [] [])
    else bif decide (zi c_S.size > 120) then
      k (Res.mk (PV.sc (Value.int IntKind.i64 5)) [] [])
    else k (Res.mk (PV.sc (Value.int IntKind.i64 0)) [] [])
  else bif c_Kind == 2 then
    bif c_N != 0 then
      k (Res.mk (PV.sc (Value.int IntKind.i64 1)) [] [])
    else bif ZA c_S (ByteArray.mk (Array.mk [])) then
      k (Res.mk (PV.sc (Value.int IntKind.i64 1)) [] [])
    else bif decide (zi c_S.size > 120) then
      k (Res.mk (PV.sc (Value.int IntKind.i64 5)) [] [])
    else k (Res.mk (PV.sc (Value.int IntKind.i64 0)) [] [])
  else k (Res.mk (PV.sc (Value.int IntKind.i64 3)) [] [])
theorem Jyf (f : Nat) (c_Kind : Int) (c_N : Int) (c_S : ByteArray) (k : Res → Option Res) : JR tau Jvr Try.f167 (Try.f167.body.get!) JhK [.ro] 0 [.st 99 [.sc (.int .i64 c_Kind), .sc (.int .i64 c_N), .sc (.string c_S)]] [] k = JmO f c_Kind c_N c_S k := by kernel_rfl
theorem Jvs (f : Nat) : Jg (Try.f167.body.get!) JhK = [] := by kernel_rfl
theorem Jvt (f : Nat) : ∀ q ∈ Jg (Try.f167.body.get!) JhK, q.Ok tau Try.prog 0 := by
  rw [Jvs f]; intro q hq; cases hq
theorem Jo1 : Try.prog.funcs[167]? = some Try.f167 := by kernel_rfl
theorem Jo2 : Try.f167.body = some (Try.f167.body.get!) := by kernel_rfl
theorem Jvu : Enters Try.prog 167 := enters_of Jo1 (by kernel_rfl) Jo2
noncomputable def Jgb : List PV → List Ent → (Res → Option Res) → Option Res
  | [.st 99 [.sc (.int .i64 c_Kind), .sc (.int .i64 c_N), .sc (.string c_S)]], [], k => JmO 0 c_Kind c_N c_S k
  | _, _, _ => none
noncomputable def Jyg : Sig := { own := [], run := Jgb }
theorem Jvv : Ji tau Try.prog 167 Jyg := J3 Jr JmN Js Jo1 Jo2 JhK [.ro] 0 [] Jgb (Jvt 0) fun xs es k res hr => by
  unfold Jgb at hr
  split at hr
  · exact ⟨rfl, 0, (Jyf 0 _ _ _  _).trans hr⟩
  · cases hr

-- FN op.check | ref4.check
structure CV where
  (kd n : Int) (s : ByteArray)
def JmP (c : CV) : Int :=
  bif c.kd == 1 || c.kd == 3 then (bif decide (c.n < 1) || (decide (c.n > 120) || !(c.s.size == 0)) then 1 else 0)
  else bif c.kd == 2 then (bif !(c.n == 0) || c.s.size == 0 then 1 else bif decide (zi c.s.size > 120) then 5 else 0) else 3
noncomputable def ckC : CV → Int := hid JmP
theorem Jks (c : CV) : ckC c = JmP c := by rw [ckC, hid_eq]
theorem Jkt (s : ByteArray) : ZA s (ByteArray.mk (Array.mk [])) = (s.size == 0) := by
  rw [JgP]
  cases h : (s.size == 0) with
  | true =>
    have hs : s.size = 0 := by simpa using h
    refine decide_eq_true (ByteArray.ext (Array.eq_empty_of_size_eq_zero hs))
  | false =>
    refine decide_eq_false fun he => ?_
    rw [he] at h
    exact absurd h (by decide)
theorem JmQ (kd n : Int) (s : ByteArray) (k : Res → Option Res) : JmO 0 kd n s k = k ⟨.sc (.int .i64 (ckC ⟨kd, n, s⟩)), [], []⟩ := by
  rw [Jks]
  unfold JmO JmP
  simp only [Jkt, bne]
  have hcomb : (s.size == 0) = true → decide (zi s.size > 120) = false := fun h => by
    have : s.size = 0 := by simpa using h
    rw [this]; decide
  generalize (s.size == 0) = e0 at *
  generalize decide (zi s.size > 120) = e1 at *
  generalize decide (n < 1) = a
  generalize decide (n > 120) = b
  generalize (n == 0) = c
  generalize (kd == 1) = d1
  generalize (kd == 2) = d2
  generalize (kd == 3) = d3
  cases d1 <;> cases d3 <;> cases d2 <;> cases e0 <;> cases e1 <;> cases a <;> cases b <;> cases c <;> first | rfl | exact absurd (hcomb rfl) (by decide)
noncomputable def Jdc : List PV → List Ent → (Res → Option Res) → Option Res
  | [.st 99 [.sc (.int .i64 kd), .sc (.int .i64 n), .sc (.string s)]], [], k => k ⟨.sc (.int .i64 (ckC ⟨kd, n, s⟩)), [], []⟩
  | _, _, _ => none
noncomputable def Jo3 : Sig := { own := [], run := Jdc }
theorem Jrm : Ji tau Try.prog 167 Jo3 := Jvv.of fun xs es k res hr => by
  change Jdc xs es k = some res at hr
  unfold Jdc at hr
  split at hr
  · rename_i kd n s
    exact (JmQ kd n s k).trans hr
  · cases hr
def VL : Nat := 21
noncomputable def Jku : Fns := JG 167 Jo3 (F0)
theorem JhL : Jz tau Try.prog Jku := (JH).add Jrm Jvu
noncomputable def Gd : Code := QA (Try.f160.body.get!) [1, 1, 0, 1, 0, 0]
def Wx : Nm := [(9, .any), (10, .any), (11, .any)]
def QI : Nm := [(2, .any)]
def JaW : An := (.seq .leaf (.seq (.cond .leaf .leaf) (.seq (.block none (.seq .leaf (.seq .leaf (.seq .leaf (.cond (.seq .leaf .leaf) .leaf))))) .leaf)))
def JhM (r0 : Wg) : An := (.seq .leaf (.seq (.seq .leaf (.cond (.seq .leaf .leaf) .leaf)) (.seq (.seq .leaf (.block none (.sum Wx VL r0))) (.seq .leaf .leaf))))
noncomputable def Y3 (f : Nat) (rc : Bool → Bool → List PV → Int → Int → Option Res) (k0 : Int → Option Res) (k1 : Option Res) (v0 : Bool) (v1 : Bool) (v2 : List PV) (v3 : Int) (v4 : Int) : Option Res :=
  bif decide (v4 < v3) then
    bif decide (0 ≤ v4) && decide (v4 < zi v2.length) &&
        (PV.isSt 99 #[Field.mk "Kind" 3 0 false "" "" 0, Field.mk "N" 3 1 false "" "" 8, Field.mk "S" 9 2 false "" "" 16].size (v2.getD v4.toNat PV.top) &&
          (PV.isInt IntKind.i64 (PV.child 0 (v2.getD v4.toNat PV.top)) &&
            (PV.isInt IntKind.i64 (PV.child (0 + 1) (v2.getD v4.toNat PV.top)) && ((PV.child (0 + 1 + 1) (v2.getD v4.toNat PV.top)).isStr && true)))) &&
      true then
      bif ckC (CV.mk (PV.child 0 (v2.getD v4.toNat PV.top)).int (PV.child (0 + 1) (v2.getD v4.toNat PV.top)).int (PV.child (0 + 1 + 1) (v2.getD v4.toNat PV.top)).str) != 0 then
        k0 (ckC (CV.mk (PV.child 0 (v2.getD v4.toNat PV.top)).int (PV.child (0 + 1) (v2.getD v4.toNat PV.top)).int (PV.child (0 + 1 + 1) (v2.getD v4.toNat PV.top)).str))
      else rc v0 v1 v2 v3 (IntKind.i64.wrap (v4 + 1))
    else none
  else k1
noncomputable def X4 (f : Nat) (k0 : Int → Option Res) (k1 : Option Res) : Nat → Bool → Bool → List PV → Int → Int → Option Res
  | 0, _, _, _, _, _ => none
  | n + 1, v0, v1, v2, v3, v4 => Y3 f (X4 f k0 k1 n) k0 k1 v0 v1 v2 v3 v4
theorem Jkv (f : Nat) (k : Kont) (n : Nat) (v0 : Bool) (v1 : Bool) (v2 : List
  PV) (v3 : Int) (v4 : Int) : Jo tau 0 Wx (fun s k => ev tau Jku 0 0 Gd (JaW ) s k) (n + 1) (Jd Wx VL [PV.ro 99 v0 v1 v2, PV.sc (Value.int IntKind.i64 v3),
  PV.sc
    (Value.int IntKind.i64
      v4)] []) (Jy tau 0 QI k) = Y3 f (fun v0 v1 v2 v3 v4 => Jo tau 0 Wx (fun s k => ev tau Jku 0 0 Gd (JaW ) s k) n (Jd Wx VL [PV.ro 99 v0 v1 v2,
  PV.sc (Value.int IntKind.i64 v3),
  PV.sc
    (Value.int IntKind.i64
      v4)] []) (Jy tau 0 QI k)) (fun x0 => k Ex.ret (Jd QI VL [PV.sc (Value.int IntKind.i64 x0)] [])) (k (Ex.exit 0) (Jd QI VL [PV.top] [])) v0 v1 v2 v3 v4 := by kernel_rfl
theorem JeK (f : Nat) (k : Kont) : ∀ (n : Nat) (v0 : Bool) (v1 : Bool) (v2 : List
  PV) (v3 : Int) (v4 : Int), Jo tau 0 Wx (fun s k => ev tau Jku 0 0 Gd (JaW ) s k) n (Jd Wx VL [PV.ro 99 v0 v1 v2, PV.sc (Value.int IntKind.i64 v3),
  PV.sc
    (Value.int IntKind.i64
      v4)] []) (Jy tau 0 QI k) = X4 f (fun x0 => k Ex.ret (Jd QI VL [PV.sc (Value.int IntKind.i64 x0)] [])) (k (Ex.exit 0) (Jd QI VL [PV.top] [])) n v0 v1 v2 v3 v4
  | 0, _, _, _, _, _ => rfl
  | n + 1, v0, v1, v2, v3, v4 => (Jkv f k n v0 v1 v2 v3 v4).trans (congrArg (fun r => Y3 f r (fun x0 => k Ex.ret (Jd QI VL [PV.sc
    (Value.int IntKind.i64 x0)] [])) (k (Ex.exit 0) (Jd QI VL [PV.top] [])) v0 v1 v2 v3 v4) (by funext v0 v1 v2 v3 v4; exact JeK f k n v0 v1 v2 v3 v4))
noncomputable def Z0 (f : Nat) : List PV → List (Nat × Ent) → Kont → Option Res
  | [PV.ro 99 v0 v1 v2, PV.sc (Value.int IntKind.i64 v3),
  PV.sc
    (Value.int IntKind.i64 v4)], [], k => X4 f (fun x0 => k Ex.ret (Jd QI VL [PV.sc (Value.int IntKind.i64 x0)] [])) (k (Ex.exit 0) (Jd QI VL [PV.top] [])) f v0 v1 v2 v3 v4
  | _, _, _ => none
theorem JmR (f : Nat) : Jg Gd JaW = [] := by kernel_rfl
theorem Jrn (f : Nat) : (Item.l Gd Wx VL (Z0 f)).Ok tau Try.prog 0 := JJ Jr JhL Js (x := JaW) (nm2 := QI) (Jp _ _ (by rw [JmR f]; intro q hq; cases hq)) fun vs hp k res hr => by
  unfold Z0 at hr
  split at hr
  · exact ⟨f, 0, (JeK f _ f _ _ _ _ _ ).trans hr⟩
  · cases hr
noncomputable def Jro (f : Nat) (o_z : Bool) (o_f : Bool) (o : List PV) (k : Res → Option Res) : Option Res :=
  bif decide (zi o.length > 40) then
    k (Res.mk (PV.sc (Value.int IntKind.i64 4)) [] [])
  else X4 f (fun x0_0 =>
    k (Res.mk (PV.sc (Value.int IntKind.i64 x0_0)) [] [])) (k (Res.mk (PV.sc (Value.int IntKind.i64 0)) [] [])) f o_z o_f o (zi o.length) (0)
theorem Jyh (f : Nat) (o_z : Bool) (o_f : Bool) (o : List PV) (k : Res → Option Res) : JR tau Jku Try.f160 (Try.f160.body.get!) (JhM (Z0 f)) [.ro] 0 [.ro 99 o_z o_f o] [] k = Jro f o_z o_f o k := by kernel_rfl
theorem Jvw (f : Nat) : Jg (Try.f160.body.get!) (JhM (Z0 f)) = [.l Gd Wx VL (Z0 f)] := by kernel_rfl
theorem Jvx (f : Nat) : ∀ q ∈ Jg (Try.f160.body.get!) (JhM (Z0 f)), q.Ok tau Try.prog 0 := by
  rw [Jvw f]; simp only [List.forall_mem_cons, List.not_mem_nil, false_implies, implies_true, and_true]; exact Jrn f
theorem Jo4 : Try.prog.funcs[160]? = some Try.f160 := by kernel_rfl
theorem Jo5 : Try.f160.body = some (Try.f160.body.get!) := by kernel_rfl
theorem Jo6 : Enters Try.prog 160 := enters_of Jo4 (by kernel_rfl) Jo5


-- FN op.Check | ref4.Check | law4.Few
def Y4 : PV → Bool
  | .st t [.sc (.int .i64 _), .sc (.int .i64 _), .sc (.string _)] => t == 99
  | _ => false
theorem JaX {p : PV} : Y4 p = true ↔ ∃ kd n s, p = .st 99 [.sc (.int .i64 kd), .sc (.int .i64 n), .sc (.string s)] := by
  constructor
  · intro h
    unfold Y4 at h
    split at h
    · rename_i t kd n s
      obtain rfl : t = 99 := by simpa using h
      exact ⟨kd, n, s, rfl⟩
    · cases h
  · rintro ⟨kd, n, s, rfl⟩; rfl
def cv (p : PV) : CV := ⟨(p.child 0).int, (p.child 1).int, (p.child 2).str⟩
theorem Zn {p : PV} (h : Y4 p = true) : (PV.isSt 99 #[Field.mk "Kind" 3 0 false "" "" 0, Field.mk "N" 3 1 false "" "" 8, Field.mk "S" 9 2 false "" "" 16].size p && (PV.isInt IntKind.i64 (PV.child 0 p) && (PV.isInt IntKind.i64 (PV.child (0 + 1) p) && ((PV.child (0 + 1 + 1) p).isStr && true)))) = true := by
  obtain ⟨kd, n, s, rfl⟩ := JaX.1 h
  simp [PV.isSt, PV.child, PV.isInt, PV.isStr]
theorem Zo {l : List PV} (h : l.all Y4 = true) {i : Nat} (hi : i < l.length) : Y4 (l.getD i .top) = true := by
  rw [List.getD_eq_getElem?_getD, List.getElem?_eq_getElem hi]
  exact List.all_eq_true.1 h _ (List.getElem_mem hi)
noncomputable def ckL : List PV → Int
  | [] => 0
  | p :: r => bif ckC (cv p) == 0 then ckL r else ckC (cv p)
noncomputable def JmS (l : List PV) : Int := bif decide (zi l.length > 40) then 4 else ckL l
noncomputable def ckO : List PV → Int := hid JmS
theorem Jgc (l : List PV) : ckO l = JmS l := by rw [ckO, hid_eq]
noncomputable def cOk : List PV → Bool := hid fun l => l.all Y4 && Nat.ble l.length 9223372036854775807
theorem Jdd {l : List PV} : cOk l = true ↔ l.all Y4 = true ∧ l.length ≤ 9223372036854775807 := by
  rw [cOk, hid_eq, Bool.and_eq_true, Nat.ble_eq]
theorem Ge {l : List PV} {i : Nat} (h : i < l.length) : l.drop i = l.getD i .top :: l.drop (i + 1) := by
  rw [List.drop_eq_getElem_cons h]; simp [List.getD_eq_getElem?_getD, h]
theorem Jkw (l : List PV) (h1 : l.all Y4 = true) (h2 : l.length ≤ 40) (f : Nat) (k0 : Int → Option Res) (k1 : Option Res) (z fl : Bool) : ∀ (d i n : Nat), i + d = l.length → d < n →
    X4 f k0 k1 n z fl l (zi l.length) (i : Int) = bif ckL (l.drop i) == 0 then k1 else k0 (ckL (l.drop i))
  | 0, i, n + 1, hi, hn => by
      rw [List.drop_of_length_le (by omega)]
      simp only [X4, Y3]
      exact JL (by simp [zi]; omega)
  | d + 1, i, n + 1, hi, hn => by
      have g1 : ((i : Int)).toNat = i := by omega
      have w1 : IntKind.i64.wrap ((i : Int) + 1) = ((i + 1 : Nat) : Int) := by rw [wrap_i64 (by omega) (by omega)]; omega
      have hro : (decide (0 ≤ (i : Int)) && decide ((i : Int) < zi l.length) && (PV.isSt 99 #[Field.mk "Kind" 3 0 false "" "" 0, Field.mk "N" 3 1 false "" "" 8, Field.mk "S" 9 2 false "" "" 16].size (l.getD i PV.top) && (PV.isInt IntKind.i64 (PV.child 0 (l.getD i PV.top)) && (PV.isInt IntKind.i64 (PV.child (0 + 1) (l.getD i PV.top)) && ((PV.child (0 + 1 + 1) (l.getD i PV.top)).isStr && true)))) && true) = true := by
        have hq : (PV.isSt 99 #[Field.mk "Kind" 3 0 false "" "" 0, Field.mk "N" 3 1 false "" "" 8, Field.mk "S" 9 2 false "" "" 16].size (l.getD i PV.top) && (PV.isInt IntKind.i64 (PV.child 0 (l.getD i PV.top)) && (PV.isInt IntKind.i64 (PV.child (0 + 1) (l.getD i PV.top)) && ((PV.child (0 + 1 + 1) (l.getD i PV.top)).isStr && true)))) = true := Zn (Zo h1 (by omega))
        rw [hq]; simp [zi]; omega
      have hd := Ge (l := l) (i := i) (by omega)
      have hs : CV.mk (PV.child 0 (l.getD i PV.top)).int (PV.child (0 + 1) (l.getD i PV.top)).int (PV.child (0 + 1 + 1) (l.getD i PV.top)).str = cv (l.getD i .top) := rfl
      simp only [X4, Y3, g1, w1, hs]
      refine (Jb (by simp [zi]; omega)).trans ((Jb hro).trans ?_)
      rw [hd]
      cases hc : (ckC (cv (l.getD i .top)) == 0) with
      | true =>
        refine (JL (by simp only [bne, hc]; rfl)).trans ?_
        rw [Jkw l h1 h2 f k0 k1 z fl d (i + 1) n (by omega) (by omega)]
        simp only [ckL, hc, cond_true]
      | false =>
        refine (Jb (by simp only [bne, hc]; rfl)).trans ?_
        simp only [ckL, hc, cond_false]
noncomputable def Jde : List PV → List Ent → (Res → Option Res) → Option Res
  | [.ro 99 z f l], [], k => bif cOk l then k ⟨.sc (.int .i64 (ckO l)), [], []⟩ else none
  | _, _, _ => none
noncomputable def Jkx : Sig := { own := [], run := Jde }
theorem JmT (z f : Bool) (l : List PV) (h : cOk l = true) (k : Res → Option Res) : Jro 50 z f l k = k ⟨.sc (.int .i64 (ckO l)), [], []⟩ := by
  obtain ⟨h1, h2⟩ := Jdd.1 h
  rw [Jgc]
  unfold Jro JmS
  cases hc : decide (zi l.length > 40) with
  | true => rfl
  | false =>
    have hl : l.length ≤ 40 := by simp only [zi, decide_eq_false_iff_not] at hc; omega
    rw [cond_false, cond_false]
    refine (Jkw l h1 hl 50 _ _ z f l.length 0 50 (by omega) (by omega)).trans ?_
    rw [List.drop_zero]
    cases h0 : (ckL l == 0) with
    | true =>
      have : ckL l = 0 := by simpa using h0
      rw [this]; rfl
    | false => rfl
theorem Jky : Ji tau Try.prog 160 Jkx := Ji.mk' fun xs es k res hl hr => by
  change Jde xs es k = some res at hr
  unfold Jde at hr
  split at hr
  · rename_i z f l
    obtain ⟨hc, hr⟩ := JI hr
    exact Qo Jr JhL Js Jo4 Jo5 (JhM (Z0 50)) [.ro] 0 0 (Jvx 50) hl rfl ((Jyh 50 z f l k).trans ((JmT z f l hc k).trans hr))
  · cases hr
-- FN delta.OpBytes | ref8.OpBytes
noncomputable def Y5 (c : CV) : List Int := [IntKind.u8.wrap c.kd] ++ (J4 c.n ++ Qg c.s)
noncomputable def Qc (l : List PV) : List Int := l.flatMap fun p => Y5 (cv p)
noncomputable def JiD (l : List PV) : List Int := [IntKind.u8.wrap (zi l.length)] ++ Qc l
noncomputable def opB : List PV → List Int := hid JiD
theorem Gf (l : List PV) : opB l = JiD l := by rw [opB, hid_eq]
theorem X5 (c : CV) : (Y5 c).length = c.s.size + 11 := by simp [Y5]; omega
theorem Jkz (c : CV) : ∀ x ∈ Y5 c, 0 ≤ x ∧ x < 256 := by
  intro x hx
  simp only [Y5, List.mem_append, List.mem_singleton] at hx
  rcases hx with rfl | h | h
  · exact Zj _
  · exact XP _ x h
  · exact Jex _ x h
theorem Jrp (l : List PV) : ∀ x ∈ opB l, 0 ≤ x ∧ x < 256 := by
  intro x hx
  rw [Gf] at hx
  rcases List.mem_append.1 hx with h | h
  · rw [List.mem_singleton.1 h]; exact Zj _
  · obtain ⟨p, _, h⟩ := List.mem_flatMap.1 h
    exact Jkz _ x h
noncomputable def cBy : List PV → Bool := hid fun l => l.all Y4 && (l.all (fun p => decide ((cv p).s.size ≤ 65535)) && decide (l.length ≤ 1000))
theorem X6 {l : List PV} : cBy l = true ↔ l.all Y4 = true ∧ (∀ p ∈ l, (cv p).s.size ≤ 65535) ∧ l.length ≤ 1000 := by
  rw [cBy, hid_eq]; simp only [Bool.and_eq_true, List.all_eq_true, decide_eq_true_eq]
theorem Jdf (L : List PV) (p : PV) : apT (apI (apY L (PV.child 0 p).int) (PV.child (0 + 1) p).int) (PV.child (0 + 1 + 1) p).str = L ++ pu .u8 (Y5 (cv p)) := by
  rw [Xg, YZ, ZX]
  show _ = L ++ pu .u8 ([IntKind.u8.wrap (PV.child 0 p).int] ++ (J4 (PV.child (0 + 1) p).int ++ Qg (PV.child (0 + 1 + 1) p).str))
  simp only [JN, List.append_assoc]
theorem Wy (L : List PV) (n : Int) : (apY L n).length = L.length + 1 := by rw [ZX]; simp
theorem Zp (L : List PV) (n : Int) : (apI L n).length = L.length + 8 := by rw [YZ]; simp
theorem JaY {l : List PV} (h : l.length ≤ 1000000000) : okL l.length l = true := by
  rw [Jc6, Bool.and_eq_true, Nat.beq_eq, Nat.ble_eq]; exact ⟨rfl, h⟩
theorem QN {l : List PV} (h : l.length ≤ 1000000000) : okZ false l = true := by rw [Y0]; exact QZ.2 ⟨fun h => (by cases h), h⟩
theorem JkA (l : List PV) (h1 : l.all Y4 = true) (h3 : ∀ p ∈ l, (cv p).s.size ≤ 65535) (h2 : l.length ≤ 1000) (f : Nat) (k0 : Nat → List PV → Option Res) (z fl : Bool) : ∀ (d i n : Nat) (L : List PV), i + d = l.length → d < n → L.length ≤ 1 + i * 65546 →
    X2 f k0 n z fl l L.length (i : Int) L = k0 (L ++ pu .u8 (Qc (l.drop i))).length (L ++ pu .u8 (Qc (l.drop i)))
  | 0, i, n + 1, L, hi, hn, hL => by
      rw [List.drop_of_length_le (by omega)]
      simp only [X2, Y1, Qc, List.flatMap_nil, JfA, List.append_nil]
      exact JL (by simp [zi]; omega)
  | d + 1, i, n + 1, L, hi, hn, hL => by
      have g1 : ((i : Int)).toNat = i := by omega
      have w1 : IntKind.i64.wrap ((i : Int) + 1) = ((i + 1 : Nat) : Int) := by rw [wrap_i64 (by omega) (by omega)]; omega
      have hro : (decide (0 ≤ (i : Int)) && decide ((i : Int) < zi l.length) && (PV.isSt 99 #[Field.mk "Kind" 3 0 false "" "" 0, Field.mk "N" 3 1 false "" "" 8, Field.mk "S" 9 2 false "" "" 16].size (l.getD i PV.top) && (PV.isInt IntKind.i64 (PV.child 0 (l.getD i PV.top)) && (PV.isInt IntKind.i64 (PV.child (0 + 1) (l.getD i PV.top)) && ((PV.child (0 + 1 + 1) (l.getD i PV.top)).isStr && true)))) && true) = true := by
        have hq : (PV.isSt 99 #[Field.mk "Kind" 3 0 false "" "" 0, Field.mk "N" 3 1 false "" "" 8, Field.mk "S" 9 2 false "" "" 16].size (l.getD i PV.top) && (PV.isInt IntKind.i64 (PV.child 0 (l.getD i PV.top)) && (PV.isInt IntKind.i64 (PV.child (0 + 1) (l.getD i PV.top)) && ((PV.child (0 + 1 + 1) (l.getD i PV.top)).isStr && true)))) = true := Zn (Zo h1 (by omega))
        rw [hq]; simp [zi]; omega
      have hd := Ge (l := l) (i := i) (by omega)
      have hmem : l.getD i .top ∈ l := by rw [List.getD_eq_getElem?_getD, List.getElem?_eq_getElem (by omega)]; exact List.getElem_mem (by omega)
      have hsz := h3 _ hmem
      have hs2 : (PV.child (0 + 1 + 1) (l.getD i PV.top)).str.size.ble 65535 = true := Nat.ble_eq.symm ▸ hsz
      have hi2 : i * 65546 ≤ 999 * 65546 := Nat.mul_le_mul_right _ (by omega)
      simp only [X2, Y1, g1, w1, List.take_length]
      refine (Jb (by simp [zi]; omega)).trans ((Jb hro).trans ((Jb (QN (by omega))).trans ((Jb hro).trans ((Jb (QN (by rw [Wy]; omega))).trans ((Jb hro).trans ((Jb (by rw [QN (by rw [Zp, Wy]; omega), hs2]; rfl)).trans ?_))))))
      rw [Jdf]
      refine (JkA l h1 h3 h2 f k0 z fl d (i + 1) n _ (by omega) (by omega) (by rw [List.length_append, JF, X5]; omega)).trans ?_
      rw [hd]
      simp only [Qc, List.flatMap_cons, JN, List.append_assoc]
theorem JkB (l : List PV) (h1 : l.all Y4 = true) (h3 : ∀ p ∈ l, (cv p).s.size ≤ 65535) (h2 : l.length ≤ 1000) (f : Nat) (k0 : Nat → List PV → Option Res) (z fl : Bool) : ∀ (d i n : Nat) (L : List PV), i + d = l.length → d < n → L.length ≤ 1 + i * 65546 →
    X3 f k0 n z fl l L.length (i : Int) L = k0 (L ++ pu .u8 (Qc (l.drop i))).length (L ++ pu .u8 (Qc (l.drop i)))
  | 0, i, n + 1, L, hi, hn, hL => by
      rw [List.drop_of_length_le (by omega)]
      simp only [X3, Y2, Qc, List.flatMap_nil, JfA, List.append_nil]
      exact JL (by simp [zi]; omega)
  | d + 1, i, n + 1, L, hi, hn, hL => by
      have g1 : ((i : Int)).toNat = i := by omega
      have w1 : IntKind.i64.wrap ((i : Int) + 1) = ((i + 1 : Nat) : Int) := by rw [wrap_i64 (by omega) (by omega)]; omega
      have hro : (decide (0 ≤ (i : Int)) && decide ((i : Int) < zi l.length) && (PV.isSt 99 #[Field.mk "Kind" 3 0 false "" "" 0, Field.mk "N" 3 1 false "" "" 8, Field.mk "S" 9 2 false "" "" 16].size (l.getD i PV.top) && (PV.isInt IntKind.i64 (PV.child 0 (l.getD i PV.top)) && (PV.isInt IntKind.i64 (PV.child (0 + 1) (l.getD i PV.top)) && ((PV.child (0 + 1 + 1) (l.getD i PV.top)).isStr && true)))) && true) = true := by
        have hq : (PV.isSt 99 #[Field.mk "Kind" 3 0 false "" "" 0, Field.mk "N" 3 1 false "" "" 8, Field.mk "S" 9 2 false "" "" 16].size (l.getD i PV.top) && (PV.isInt IntKind.i64 (PV.child 0 (l.getD i PV.top)) && (PV.isInt IntKind.i64 (PV.child (0 + 1) (l.getD i PV.top)) && ((PV.child (0 + 1 + 1) (l.getD i PV.top)).isStr && true)))) = true := Zn (Zo h1 (by omega))
        rw [hq]; simp [zi]; omega
      have hd := Ge (l := l) (i := i) (by omega)
      have hmem : l.getD i .top ∈ l := by rw [List.getD_eq_getElem?_getD, List.getElem?_eq_getElem (by omega)]; exact List.getElem_mem (by omega)
      have hsz := h3 _ hmem
      have hs2 : (PV.child (0 + 1 + 1) (l.getD i PV.top)).str.size.ble 65535 = true := Nat.ble_eq.symm ▸ hsz
      have hi2 : i * 65546 ≤ 999 * 65546 := Nat.mul_le_mul_right _ (by omega)
      simp only [X3, Y2, g1, w1, List.take_length]
      refine (Jb (by simp [zi]; omega)).trans ((Jb hro).trans ((Jb (JaY (by omega))).trans ((Jb hro).trans ((Jb (JaY (by rw [Wy]; omega))).trans ((Jb hro).trans ((Jb (by rw [JaY (by rw [Zp, Wy]; omega), hs2]; rfl)).trans ?_))))))
      rw [Jdf]
      refine (JkB l h1 h3 h2 f k0 z fl d (i + 1) n _ (by omega) (by omega) (by rw [List.length_append, JF, X5]; omega)).trans ?_
      rw [hd]
      simp only [Qc, List.flatMap_cons, JN, List.append_assoc]
theorem JeL {l : List PV} : apY [] (zi l.length) = pu .u8 [IntKind.u8.wrap (zi l.length)] := by rw [ZX]; rfl
noncomputable def Jdg : List PV → List Ent → (Res → Option Res) → Option Res
  | [.ro 99 z f l], [], k => bif cBy l then k ⟨.ro 5 false false (pu .u8 (opB l)), [], []⟩ else none
  | _, _, _ => none
noncomputable def JkC : Sig := { own := [], run := Jdg }
theorem JmU (z f : Bool) (l : List PV) (h : cBy l = true) (k : Res → Option Res) : Jrj 1010 z f l k = k ⟨.ro 5 false false (pu .u8 (opB l)), [], []⟩ := by
  obtain ⟨h1, h3, h2⟩ := X6.1 h
  have hY := JeL (l := l)
  rw [Gf]
  unfold Jrj
  simp only [List.take_length]
  refine (Jb (by rw [Y0]; rfl)).trans ?_
  cases l with
  | nil => exact (JL (by simp [zi])).trans (by rw [hY]; rfl)
  | cons p r =>
    have hq : (PV.isSt 99 #[Field.mk "Kind" 3 0 false "" "" 0, Field.mk "N" 3 1 false "" "" 8, Field.mk "S" 9 2 false "" "" 16].size ((p :: r).getD 0 PV.top) && (PV.isInt IntKind.i64 (PV.child 0 ((p :: r).getD 0 PV.top)) && (PV.isInt IntKind.i64 (PV.child (0 + 1) ((p :: r).getD 0 PV.top)) && ((PV.child (0 + 1 + 1) ((p :: r).getD 0 PV.top)).isStr && true)))) = true := by
      have := Zn (Zo h1 (i := 0) (by simp))
      exact this
    have hro : (decide (0 < zi (p :: r).length) && (PV.isSt 99 #[Field.mk "Kind" 3 0 false "" "" 0, Field.mk "N" 3 1 false "" "" 8, Field.mk "S" 9 2 false "" "" 16].size ((p :: r).getD 0 PV.top) && (PV.isInt IntKind.i64 (PV.child 0 ((p :: r).getD 0 PV.top)) && (PV.isInt IntKind.i64 (PV.child (0 + 1) ((p :: r).getD 0 PV.top)) && ((PV.child (0 + 1 + 1) ((p :: r).getD 0 PV.top)).isStr && true)))) && true) = true := by
      rw [hq]; simp [zi]
    have hsz := h3 p List.mem_cons_self
    have hs2 : (PV.child (0 + 1 + 1) ((p :: r).getD 0 PV.top)).str.size.ble 65535 = true := Nat.ble_eq.symm ▸ hsz
    have l1 : (apY [] (zi (p :: r).length)).length = 1 := by rw [Wy]; rfl
    refine (Jb (by simp [zi])).trans ((Jb hro).trans ((Jb (QN (by rw [l1]; decide))).trans ((Jb hro).trans ((Jb (QN (by rw [Wy, l1]; decide))).trans ((Jb hro).trans ((Jb (by rw [QN (by rw [Zp, Wy, l1]; decide), hs2]; rfl)).trans ?_))))))
    rw [Jdf]
    have w1 : IntKind.i64.wrap (0 + 1) = ((1 : Nat) : Int) := by decide
    rw [w1]
    refine (JkA (p :: r) h1 h3 h2 1010 _ z f r.length 1 1010 _ (by simp; omega) (by simp at h2; omega) (by rw [List.length_append, JF, X5, l1]; have : (cv ((p :: r).getD 0 PV.top)).s.size ≤ 65535 := hsz; omega)).trans ?_
    rw [List.take_length, hY]
    simp only [JiD, Qc, List.flatMap_cons, JN, List.append_assoc, List.drop_succ_cons, List.drop_zero, List.getD_cons_zero]
theorem JkD : Ji tau Try.prog 114 JkC := Ji.mk' fun xs es k res hl hr => by
  change Jdg xs es k = some res at hr
  unfold Jdg at hr
  split at hr
  · rename_i z f l
    obtain ⟨hc, hr⟩ := JI hr
    exact Qo Jr JhG Js JoW JoX (JhH (ZY 1010)) [.ro] 0 0 (Jvn 1010) hl rfl ((Jyd 1010 z f l k).trans ((JmU z f l hc k).trans hr))
  · cases hr
noncomputable def Jdh : List PV → List Ent → (Res → Option Res) → Option Res
  | [.ro 99 z f l], [], k => bif cBy l then k ⟨.ow 5 16 [] 0 (opB l).length none, [], [.vec false 5 false (pu .u8 (opB l))]⟩ else none
  | _, _, _ => none
noncomputable def Jo7 : Sig := { own := [], run := Jdh }
theorem JmV (z f : Bool) (l : List PV) (h : cBy l = true) (k : Res → Option Res) : Jrl 1010 z f l k = k ⟨.ow 5 16 [] 0 (opB l).length none, [], [.vec false 5 false (pu .u8 (opB l))]⟩ := by
  obtain ⟨h1, h3, h2⟩ := X6.1 h
  have hY := JeL (l := l)
  rw [Gf]
  unfold Jrl
  refine (JkB l h1 h3 h2 1010 _ z f l.length 0 1010 _ (by omega) (by omega) (by rw [Wy]; simp)).trans ?_
  rw [List.drop_zero, hY, ← JN]
  rw [show [IntKind.u8.wrap (zi l.length)] ++ Qc l = JiD l from rfl, JF]
theorem Jrq : Ji tau Try.prog 111 Jo7 := Ji.mk' fun xs es k res hl hr => by
  change Jdh xs es k = some res at hr
  unfold Jdh at hr
  split at hr
  · rename_i z f l
    obtain ⟨hc, hr⟩ := JI hr
    exact Qo Jr JhI Js JoZ Jo0 (JhJ (ZZ 1010)) [] 0 0 (Jvp 1010) hl rfl ((Jye 1010 z f l k).trans ((JmV z f l hc k).trans hr))
  · cases hr
noncomputable def Jvy : Fns := JG 114 JkC (JG 98 JmH (JG 97 Jre (JG 96 Jra (F0))))
theorem JmW : Jz tau Try.prog Jvy := ((((JH).add JoN Juh).add JoT JqD).add Jkj Jqy).add JkD JoY
def JmX : Nm := [(1, .any), (3, .any), (16, .any), (17, .any), (18, .any)]
def Jrr : An := (.seq .leaf (.seq (.cond .leaf .leaf) (.seq (.block none (.seq .leaf .leaf)) .leaf)))
def JhN : An := (.seq .leaf (.seq .leaf (.seq (.seq .leaf (.block none (.loop JmX Jrr))) (.seq .leaf (.seq .leaf .leaf)))))
noncomputable def Jrs (f : Nat) (d_Author_D : Int) (d_Author_U : Int) (d_Id : Int) (d_Version : Int) (d_Hash : List PV) (d_Kind : Int) (d_Op_z : Bool) (d_Op_f : Bool) (d_Op : List PV) (d_Who_D : Int) (d_Who_U : Int) (k : Res → Option Res) : Option Res := bif okZ true [] then bif okZ false (List.take (apI [] d_Author_D).length (apI [] d_Author_D)) then bif okZ false (List.take (apI (List.take (apI [] d_Author_D).length (apI [] d_Author_D)) d_Author_U).length (apI (List.take (apI [] d_Author_D).length (apI [] d_Author_D)) d_Author_U)) then bif okZ false (List.take (apI (List.take (apI (List.take (apI [] d_Author_D).length (apI [] d_Author_D)) d_Author_U).length (apI (List.take (apI [] d_Author_D).length (apI [] d_Author_D)) d_Author_U)) d_Id).length (apI (List.take (apI (List.take (apI [] d_Author_D).length (apI [] d_Author_D)) d_Author_U).length (apI (List.take (apI [] d_Author_D).length (apI [] d_Author_D)) d_Author_U)) d_Id)) then bif Jj ((apI (List.take (apI (List.take (apI (List.take (apI [] d_Author_D).length (apI [] d_Author_D)) d_Author_U).length (apI (List.take (apI [] d_Author_D).length (apI [] d_Author_D)) d_Author_U)) d_Id).length (apI (List.take (apI (List.take (apI [] d_Author_D).length (apI [] d_Author_D)) d_Author_U).length (apI (List.take (apI [] d_Author_D).length (apI [] d_Author_D)) d_Author_U)) d_Id)) d_Version).length + (List.take 32 d_Hash).length) 1 && true then bif okZ false (List.take ((apI (List.take (apI (List.take (apI (List.take (apI [] d_Author_D).length (apI [] d_Author_D)) d_Author_U).length (apI (List.take (apI [] d_Author_D).length (apI [] d_Author_D)) d_Author_U)) d_Id).length (apI (List.take (apI (List.take (apI [] d_Author_D).length (apI [] d_Author_D)) d_Author_U).length (apI (List.take (apI [] d_Author_D).length (apI [] d_Author_D)) d_Author_U)) d_Id)) d_Version).length + (List.take 32 d_Hash).length) (List.take (apI (List.take (apI (List.take (apI (List.take (apI [] d_Author_D).length (apI [] d_Author_D)) d_Author_U).length (apI (List.take (apI [] d_Author_D).length (apI [] d_Author_D)) d_Author_U)) d_Id).length (apI (List.take (apI (List.take (apI [] d_Author_D).length (apI [] d_Author_D)) d_Author_U).length (apI (List.take (apI [] d_Author_D).length (apI [] d_Author_D)) d_Author_U)) d_Id)) d_Version).length (apI (List.take (apI (List.take (apI (List.take (apI [] d_Author_D).length (apI [] d_Author_D)) d_Author_U).length (apI (List.take (apI [] d_Author_D).length (apI [] d_Author_D)) d_Author_U)) d_Id).length (apI (List.take (apI (List.take (apI [] d_Author_D).length (apI [] d_Author_D)) d_Author_U).length (apI (List.take (apI [] d_Author_D).length (apI [] d_Author_D)) d_Author_U)) d_Id)) d_Version) ++ List.take 32 d_Hash)) then bif cBy d_Op then bif Jf IntKind.u8 (pu IntKind.u8 (opB d_Op)) && true then bif okZ false (List.take (apY (List.take ((apI (List.take (apI (List.take (apI (List.take (apI [] d_Author_D).length (apI [] d_Author_D)) d_Author_U).length (apI (List.take (apI [] d_Author_D).length (apI [] d_Author_D)) d_Author_U)) d_Id).length (apI (List.take (apI (List.take (apI [] d_Author_D).length (apI [] d_Author_D)) d_Author_U).length (apI (List.take (apI [] d_Author_D).length (apI [] d_Author_D)) d_Author_U)) d_Id)) d_Version).length + (List.take 32 d_Hash).length) (List.take (apI (List.take (apI (List.take (apI (List.take (apI [] d_Author_D).length (apI [] d_Author_D)) d_Author_U).length (apI (List.take (apI [] d_Author_D).length (apI [] d_Author_D)) d_Author_U)) d_Id).length (apI (List.take (apI (List.take (apI [] d_Author_D).length (apI [] d_Author_D)) d_Author_U).length (apI (List.take (apI [] d_Author_D).length (apI [] d_Author_D)) d_Author_U)) d_Id)) d_Version).length (apI (List.take (apI (List.take (apI (List.take (apI [] d_Author_D).length (apI [] d_Author_D)) d_Author_U).length (apI (List.take (apI [] d_Author_D).length (apI [] d_Author_D)) d_Author_U)) d_Id).length (apI (List.take (apI (List.take (apI [] d_Author_D).length (apI [] d_Author_D)) d_Author_U).length (apI (List.take (apI [] d_Author_D).length (apI [] d_Author_D)) d_Author_U)) d_Id)) d_Version) ++ List.take 32 d_Hash)) d_Kind).length (apY (List.take ((apI (List.take (apI (List.take (apI (List.take (apI [] d_Author_D).length (apI [] d_Author_D)) d_Author_U).length (apI (List.take (apI [] d_Author_D).length (apI [] d_Author_D)) d_Author_U)) d_Id).length (apI (List.take (apI (List.take (apI [] d_Author_D).length (apI [] d_Author_D)) d_Author_U).length (apI (List.take (apI [] d_Author_D).length (apI [] d_Author_D)) d_Author_U)) d_Id)) d_Version).length + (List.take 32 d_Hash).length) (List.take (apI (List.take (apI (List.take (apI (List.take (apI [] d_Author_D).length (apI [] d_Author_D)) d_Author_U).length (apI (List.take (apI [] d_Author_D).length (apI [] d_Author_D)) d_Author_U)) d_Id).length (apI (List.take (apI (List.take (apI [] d_Author_D).length (apI [] d_Author_D)) d_Author_U).length (apI (List.take (apI [] d_Author_D).length (apI [] d_Author_D)) d_Author_U)) d_Id)) d_Version).length (apI (List.take (apI (List.take (apI (List.take (apI [] d_Author_D).length (apI [] d_Author_D)) d_Author_U).length (apI (List.take (apI [] d_Author_D).length (apI [] d_Author_D)) d_Author_U)) d_Id).length (apI (List.take (apI (List.take (apI [] d_Author_D).length (apI [] d_Author_D)) d_Author_U).length (apI (List.take (apI [] d_Author_D).length (apI [] d_Author_D)) d_Author_U)) d_Id)) d_Version) ++ List.take 32 d_Hash)) d_Kind)) && (ByteArray.mk (Array.mk (Jl (false, pu IntKind.u8 (opB d_Op)).snd))).size.ble 65535 then bif okZ false (List.take (apT (List.take (apY (List.take ((apI (List.take (apI (List.take (apI (List.take (apI [] d_Author_D).length (apI [] d_Author_D)) d_Author_U).length (apI (List.take (apI [] d_Author_D).length (apI [] d_Author_D)) d_Author_U)) d_Id).length (apI (List.take (apI (List.take (apI [] d_Author_D).length (apI [] d_Author_D)) d_Author_U).length (apI (List.take (apI [] d_Author_D).length (apI [] d_Author_D)) d_Author_U)) d_Id)) d_Version).length + (List.take 32 d_Hash).length) (List.take (apI (List.take (apI (List.take (apI (List.take (apI [] d_Author_D).length (apI [] d_Author_D)) d_Author_U).length (apI (List.take (apI [] d_Author_D).length (apI [] d_Author_D)) d_Author_U)) d_Id).length (apI (List.take (apI (List.take (apI [] d_Author_D).length (apI [] d_Author_D)) d_Author_U).length (apI (List.take (apI [] d_Author_D).length (apI [] d_Author_D)) d_Author_U)) d_Id)) d_Version).length (apI (List.take (apI (List.take (apI (List.take (apI [] d_Author_D).length (apI [] d_Author_D)) d_Author_U).length (apI (List.take (apI [] d_Author_D).length (apI [] d_Author_D)) d_Author_U)) d_Id).length (apI (List.take (apI (List.take (apI [] d_Author_D).length (apI [] d_Author_D)) d_Author_U).length (apI (List.take (apI [] d_Author_D).length (apI [] d_Author_D)) d_Author_U)) d_Id)) d_Version) ++ List.take 32 d_Hash)) d_Kind).length (apY (List.take ((apI (List.take (apI (List.take (apI (List.take (apI [] d_Author_D).length (apI [] d_Author_D)) d_Author_U).length (apI (List.take (apI [] d_Author_D).length (apI [] d_Author_D)) d_Author_U)) d_Id).length (apI (List.take (apI (List.take (apI [] d_Author_D).length (apI [] d_Author_D)) d_Author_U).length (apI (List.take (apI [] d_Author_D).length (apI [] d_Author_D)) d_Author_U)) d_Id)) d_Version).length + (List.take 32 d_Hash).length) (List.take (apI (List.take (apI (List.take (apI (List.take (apI [] d_Author_D).length (apI [] d_Author_D)) d_Author_U).length (apI (List.take (apI [] d_Author_D).length (apI [] d_Author_D)) d_Author_U)) d_Id).length (apI (List.take (apI (List.take (apI [] d_Author_D).length (apI [] d_Author_D)) d_Author_U).length (apI (List.take (apI [] d_Author_D).length (apI [] d_Author_D)) d_Author_U)) d_Id)) d_Version).length (apI (List.take (apI (List.take (apI (List.take (apI [] d_Author_D).length (apI [] d_Author_D)) d_Author_U).length (apI (List.take (apI [] d_Author_D).length (apI [] d_Author_D)) d_Author_U)) d_Id).length (apI (List.take (apI (List.take (apI [] d_Author_D).length (apI [] d_Author_D)) d_Author_U).length (apI (List.take (apI [] d_Author_D).length (apI [] d_Author_D)) d_Author_U)) d_Id)) d_Version) ++ List.take 32 d_Hash)) d_Kind)) (ByteArray.mk (Array.mk (Jl (false, pu IntKind.u8 (opB d_Op)).snd)))).length (apT (List.take (apY (List.take ((apI (List.take (apI (List.take (apI (List.take (apI [] d_Author_D).length (apI [] d_Author_D)) d_Author_U).length (apI (List.take (apI [] d_Author_D).length (apI [] d_Author_D)) d_Author_U)) d_Id).length (apI (List.take (apI (List.take (apI [] d_Author_D).length (apI [] d_Author_D)) d_Author_U).length (apI (List.take (apI [] d_Author_D).length (apI [] d_Author_D)) d_Author_U)) d_Id)) d_Version).length + (List.take 32 d_Hash).length) (List.take (apI (List.take (apI (List.take (apI (List.take (apI [] d_Author_D).length (apI [] d_Author_D)) d_Author_U).length (apI (List.take (apI [] d_Author_D).length (apI [] d_Author_D)) d_Author_U)) d_Id).length (apI (List.take (apI (List.take (apI [] d_Author_D).length (apI [] d_Author_D)) d_Author_U).length (apI (List.take (apI [] d_Author_D).length (apI [] d_Author_D)) d_Author_U)) d_Id)) d_Version).length (apI (List.take (apI (List.take (apI (List.take (apI [] d_Author_D).length (apI [] d_Author_D)) d_Author_U).length (apI (List.take (apI [] d_Author_D).length (apI [] d_Author_D)) d_Author_U)) d_Id).length (apI (List.take (apI (List.take (apI [] d_Author_D).length (apI [] d_Author_D)) d_Author_U).length (apI (List.take (apI [] d_Author_D).length (apI [] d_Author_D)) d_Author_U)) d_Id)) d_Version) ++ List.take 32 d_Hash)) d_Kind).length (apY (List.take ((apI (List.take (apI (List.take (apI (List.take (apI [] d_Author_D).length (apI [] d_Author_D)) d_Author_U).length (apI (List.take (apI [] d_Author_D).length (apI [] d_Author_D)) d_Author_U)) d_Id).length (apI (List.take (apI (List.take (apI [] d_Author_D).length (apI [] d_Author_D)) d_Author_U).length (apI (List.take (apI [] d_Author_D).length (apI [] d_Author_D)) d_Author_U)) d_Id)) d_Version).length + (List.take 32 d_Hash).length) (List.take (apI (List.take (apI (List.take (apI (List.take (apI [] d_Author_D).length (apI [] d_Author_D)) d_Author_U).length (apI (List.take (apI [] d_Author_D).length (apI [] d_Author_D)) d_Author_U)) d_Id).length (apI (List.take (apI (List.take (apI [] d_Author_D).length (apI [] d_Author_D)) d_Author_U).length (apI (List.take (apI [] d_Author_D).length (apI [] d_Author_D)) d_Author_U)) d_Id)) d_Version).length (apI (List.take (apI (List.take (apI (List.take (apI [] d_Author_D).length (apI [] d_Author_D)) d_Author_U).length (apI (List.take (apI [] d_Author_D).length (apI [] d_Author_D)) d_Author_U)) d_Id).length (apI (List.take (apI (List.take (apI [] d_Author_D).length (apI [] d_Author_D)) d_Author_U).length (apI (List.take (apI [] d_Author_D).length (apI [] d_Author_D)) d_Author_U)) d_Id)) d_Version) ++ List.take 32 d_Hash)) d_Kind)) (ByteArray.mk (Array.mk (Jl (false, pu IntKind.u8 (opB d_Op)).snd))))) then bif okZ false (List.take (apI (List.take (apT (List.take (apY (List.take ((apI (List.take (apI (List.take (apI (List.take (apI [] d_Author_D).length (apI [] d_Author_D)) d_Author_U).length (apI (List.take (apI [] d_Author_D).length (apI [] d_Author_D)) d_Author_U)) d_Id).length (apI (List.take (apI (List.take (apI [] d_Author_D).length (apI [] d_Author_D)) d_Author_U).length (apI (List.take (apI [] d_Author_D).length (apI [] d_Author_D)) d_Author_U)) d_Id)) d_Version).length + (List.take 32 d_Hash).length) (List.take (apI (List.take (apI (List.take (apI (List.take (apI [] d_Author_D).length (apI [] d_Author_D)) d_Author_U).length (apI (List.take (apI [] d_Author_D).length (apI [] d_Author_D)) d_Author_U)) d_Id).length (apI (List.take (apI (List.take (apI [] d_Author_D).length (apI [] d_Author_D)) d_Author_U).length (apI (List.take (apI [] d_Author_D).length (apI [] d_Author_D)) d_Author_U)) d_Id)) d_Version).length (apI (List.take (apI (List.take (apI (List.take (apI [] d_Author_D).length (apI [] d_Author_D)) d_Author_U).length (apI (List.take (apI [] d_Author_D).length (apI [] d_Author_D)) d_Author_U)) d_Id).length (apI (List.take (apI (List.take (apI [] d_Author_D).length (apI [] d_Author_D)) d_Author_U).length (apI (List.take (apI [] d_Author_D).length (apI [] d_Author_D)) d_Author_U)) d_Id)) d_Version) ++ List.take 32 d_Hash)) d_Kind).length (apY (List.take ((apI (List.take (apI (List.take (apI (List.take (apI [] d_Author_D).length (apI [] d_Author_D)) d_Author_U).length (apI (List.take (apI [] d_Author_D).length (apI [] d_Author_D)) d_Author_U)) d_Id).length (apI (List.take (apI (List.take (apI [] d_Author_D).length (apI [] d_Author_D)) d_Author_U).length (apI (List.take (apI [] d_Author_D).length (apI [] d_Author_D)) d_Author_U)) d_Id)) d_Version).length + (List.take 32 d_Hash).length) (List.take (apI (List.take (apI (List.take (apI (List.take (apI [] d_Author_D).length (apI [] d_Author_D)) d_Author_U).length (apI (List.take (apI [] d_Author_D).length (apI [] d_Author_D)) d_Author_U)) d_Id).length (apI (List.take (apI (List.take (apI [] d_Author_D).length (apI [] d_Author_D)) d_Author_U).length (apI (List.take (apI [] d_Author_D).length (apI [] d_Author_D)) d_Author_U)) d_Id)) d_Version).length (apI (List.take (apI (List.take (apI (List.take (apI [] d_Author_D).length (apI [] d_Author_D)) d_Author_U).length (apI (List.take (apI [] d_Author_D).length (apI [] d_Author_D)) d_Author_U)) d_Id).length (apI (List.take (apI (List.take (apI [] d_Author_D).length (apI [] d_Author_D)) d_Author_U).length (apI (List.take (apI [] d_Author_D).length (apI [] d_Author_D)) d_Author_U)) d_Id)) d_Version) ++ List.take 32 d_Hash)) d_Kind)) (ByteArray.mk (Array.mk (Jl (false, pu IntKind.u8 (opB d_Op)).snd)))).length (apT (List.take (apY (List.take ((apI (List.take (apI (List.take (apI (List.take (apI [] d_Author_D).length (apI [] d_Author_D)) d_Author_U).length (apI (List.take (apI [] d_Author_D).length (apI [] d_Author_D)) d_Author_U)) d_Id).length (apI (List.take (apI (List.take (apI [] d_Author_D).length (apI [] d_Author_D)) d_Author_U).length (apI (List.take (apI [] d_Author_D).length (apI [] d_Author_D)) d_Author_U)) d_Id)) d_Version).length + (List.take 32 d_Hash).length) (List.take (apI (List.take (apI (List.take (apI (List.take (apI [] d_Author_D).length (apI [] d_Author_D)) d_Author_U).length (apI (List.take (apI [] d_Author_D).length (apI [] d_Author_D)) d_Author_U)) d_Id).length (apI (List.take (apI (List.take (apI [] d_Author_D).length (apI [] d_Author_D)) d_Author_U).length (apI (List.take (apI [] d_Author_D).length (apI [] d_Author_D)) d_Author_U)) d_Id)) d_Version).length (apI (List.take (apI (List.take (apI (List.take (apI [] d_Author_D).length (apI [] d_Author_D)) d_Author_U).length (apI (List.take (apI [] d_Author_D).length (apI [] d_Author_D)) d_Author_U)) d_Id).length (apI (List.take (apI (List.take (apI [] d_Author_D).length (apI [] d_Author_D)) d_Author_U).length (apI (List.take (apI [] d_Author_D).length (apI [] d_Author_D)) d_Author_U)) d_Id)) d_Version) ++ List.take 32 d_Hash)) d_Kind).length (apY (List.take ((apI (List.take (apI (List.take (apI (List.take (apI [] d_Author_D).length (apI [] d_Author_D)) d_Author_U).length (apI (List.take (apI [] d_Author_D).length (apI [] d_Author_D)) d_Author_U)) d_Id).length (apI (List.take (apI (List.take (apI [] d_Author_D).length (apI [] d_Author_D)) d_Author_U).length (apI (List.take (apI [] d_Author_D).length (apI [] d_Author_D)) d_Author_U)) d_Id)) d_Version).length + (List.take 32 d_Hash).length) (List.take (apI (List.take (apI (List.take (apI (List.take (apI [] d_Author_D).length (apI [] d_Author_D)) d_Author_U).length (apI (List.take (apI [] d_Author_D).length (apI [] d_Author_D)) d_Author_U)) d_Id).length (apI (List.take (apI (List.take (apI [] d_Author_D).length (apI [] d_Author_D)) d_Author_U).length (apI (List.take (apI [] d_Author_D).length (apI [] d_Author_D)) d_Author_U)) d_Id)) d_Version).length (apI (List.take (apI (List.take (apI (List.take (apI [] d_Author_D).length (apI [] d_Author_D)) d_Author_U).length (apI (List.take (apI [] d_Author_D).length (apI [] d_Author_D)) d_Author_U)) d_Id).length (apI (List.take (apI (List.take (apI [] d_Author_D).length (apI [] d_Author_D)) d_Author_U).length (apI (List.take (apI [] d_Author_D).length (apI [] d_Author_D)) d_Author_U)) d_Id)) d_Version) ++ List.take 32 d_Hash)) d_Kind)) (ByteArray.mk (Array.mk (Jl (false, pu IntKind.u8 (opB d_Op)).snd))))) d_Who_D).length (apI (List.take (apT (List.take (apY (List.take ((apI (List.take (apI (List.take (apI (List.take (apI [] d_Author_D).length (apI [] d_Author_D)) d_Author_U).length (apI (List.take (apI [] d_Author_D).length (apI [] d_Author_D)) d_Author_U)) d_Id).length (apI (List.take (apI (List.take (apI [] d_Author_D).length (apI [] d_Author_D)) d_Author_U).length (apI (List.take (apI [] d_Author_D).length (apI [] d_Author_D)) d_Author_U)) d_Id)) d_Version).length + (List.take 32 d_Hash).length) (List.take (apI (List.take (apI (List.take (apI (List.take (apI [] d_Author_D).length (apI [] d_Author_D)) d_Author_U).length (apI (List.take (apI [] d_Author_D).length (apI [] d_Author_D)) d_Author_U)) d_Id).length (apI (List.take (apI (List.take (apI [] d_Author_D).length (apI [] d_Author_D)) d_Author_U).length (apI (List.take (apI [] d_Author_D).length (apI [] d_Author_D)) d_Author_U)) d_Id)) d_Version).length (apI (List.take (apI (List.take (apI (List.take (apI [] d_Author_D).length (apI [] d_Author_D)) d_Author_U).length (apI (List.take (apI [] d_Author_D).length (apI [] d_Author_D)) d_Author_U)) d_Id).length (apI (List.take (apI (List.take (apI [] d_Author_D).length (apI [] d_Author_D)) d_Author_U).length (apI (List.take (apI [] d_Author_D).length (apI [] d_Author_D)) d_Author_U)) d_Id)) d_Version) ++ List.take 32 d_Hash)) d_Kind).length (apY (List.take ((apI (List.take (apI (List.take (apI (List.take (apI [] d_Author_D).length (apI [] d_Author_D)) d_Author_U).length (apI (List.take (apI [] d_Author_D).length (apI [] d_Author_D)) d_Author_U)) d_Id).length (apI (List.take (apI (List.take (apI [] d_Author_D).length (apI [] d_Author_D)) d_Author_U).length (apI (List.take (apI [] d_Author_D).length (apI [] d_Author_D)) d_Author_U)) d_Id)) d_Version).length + (List.take 32 d_Hash).length) (List.take (apI (List.take (apI (List.take (apI (List.take (apI [] d_Author_D).length (apI [] d_Author_D)) d_Author_U).length (apI (List.take (apI [] d_Author_D).length (apI [] d_Author_D)) d_Author_U)) d_Id).length (apI (List.take (apI (List.take (apI [] d_Author_D).length (apI [] d_Author_D)) d_Author_U).length (apI (List.take (apI [] d_Author_D).length (apI [] d_Author_D)) d_Author_U)) d_Id)) d_Version).length (apI (List.take (apI (List.take (apI (List.take (apI [] d_Author_D).length (apI [] d_Author_D)) d_Author_U).length (apI (List.take (apI [] d_Author_D).length (apI [] d_Author_D)) d_Author_U)) d_Id).length (apI (List.take (apI (List.take (apI [] d_Author_D).length (apI [] d_Author_D)) d_Author_U).length (apI (List.take (apI [] d_Author_D).length (apI [] d_Author_D)) d_Author_U)) d_Id)) d_Version) ++ List.take 32 d_Hash)) d_Kind)) (ByteArray.mk (Array.mk (Jl (false, pu IntKind.u8 (opB d_Op)).snd)))).length (apT (List.take (apY (List.take ((apI (List.take (apI (List.take (apI (List.take (apI [] d_Author_D).length (apI [] d_Author_D)) d_Author_U).length (apI (List.take (apI [] d_Author_D).length (apI [] d_Author_D)) d_Author_U)) d_Id).length (apI (List.take (apI (List.take (apI [] d_Author_D).length (apI [] d_Author_D)) d_Author_U).length (apI (List.take (apI [] d_Author_D).length (apI [] d_Author_D)) d_Author_U)) d_Id)) d_Version).length + (List.take 32 d_Hash).length) (List.take (apI (List.take (apI (List.take (apI (List.take (apI [] d_Author_D).length (apI [] d_Author_D)) d_Author_U).length (apI (List.take (apI [] d_Author_D).length (apI [] d_Author_D)) d_Author_U)) d_Id).length (apI (List.take (apI (List.take (apI [] d_Author_D).length (apI [] d_Author_D)) d_Author_U).length (apI (List.take (apI [] d_Author_D).length (apI [] d_Author_D)) d_Author_U)) d_Id)) d_Version).length (apI (List.take (apI (List.take (apI (List.take (apI [] d_Author_D).length (apI [] d_Author_D)) d_Author_U).length (apI (List.take (apI [] d_Author_D).length (apI [] d_Author_D)) d_Author_U)) d_Id).length (apI (List.take (apI (List.take (apI [] d_Author_D).length (apI [] d_Author_D)) d_Author_U).length (apI (List.take (apI [] d_Author_D).length (apI [] d_Author_D)) d_Author_U)) d_Id)) d_Version) ++ List.take 32 d_Hash)) d_Kind).length (apY (List.take ((apI (List.take (apI (List.take (apI (List.take (apI [] d_Author_D).length (apI [] d_Author_D)) d_Author_U).length (apI (List.take (apI [] d_Author_D).length (apI [] d_Author_D)) d_Author_U)) d_Id).length (apI (List.take (apI (List.take (apI [] d_Author_D).length (apI [] d_Author_D)) d_Author_U).length (apI (List.take (apI [] d_Author_D).length (apI [] d_Author_D)) d_Author_U)) d_Id)) d_Version).length + (List.take 32 d_Hash).length) (List.take (apI (List.take (apI (List.take (apI (List.take (apI [] d_Author_D).length (apI [] d_Author_D)) d_Author_U).length (apI (List.take (apI [] d_Author_D).length (apI [] d_Author_D)) d_Author_U)) d_Id).length (apI (List.take (apI (List.take (apI [] d_Author_D).length (apI [] d_Author_D)) d_Author_U).length (apI (List.take (apI [] d_Author_D).length (apI [] d_Author_D)) d_Author_U)) d_Id)) d_Version).length (apI (List.take (apI (List.take (apI (List.take (apI [] d_Author_D).length (apI [] d_Author_D)) d_Author_U).length (apI (List.take (apI [] d_Author_D).length (apI [] d_Author_D)) d_Author_U)) d_Id).length (apI (List.take (apI (List.take (apI [] d_Author_D).length (apI [] d_Author_D)) d_Author_U).length (apI (List.take (apI [] d_Author_D).length (apI [] d_Author_D)) d_Author_U)) d_Id)) d_Version) ++ List.take 32 d_Hash)) d_Kind)) (ByteArray.mk (Array.mk (Jl (false, pu IntKind.u8 (opB d_Op)).snd))))) d_Who_D)) then k (Res.mk (.ro 5 false false (List.take (apI (List.take (apI (List.take (apT (List.take (apY (List.take ((apI (List.take (apI (List.take (apI (List.take (apI [] d_Author_D).length (apI [] d_Author_D)) d_Author_U).length (apI (List.take (apI [] d_Author_D).length (apI [] d_Author_D)) d_Author_U)) d_Id).length (apI (List.take (apI (List.take (apI [] d_Author_D).length (apI [] d_Author_D)) d_Author_U).length (apI (List.take (apI [] d_Author_D).length (apI [] d_Author_D)) d_Author_U)) d_Id)) d_Version).length + (List.take 32 d_Hash).length) (List.take (apI (List.take (apI (List.take (apI (List.take (apI [] d_Author_D).length (apI [] d_Author_D)) d_Author_U).length (apI (List.take (apI [] d_Author_D).length (apI [] d_Author_D)) d_Author_U)) d_Id).length (apI (List.take (apI (List.take (apI [] d_Author_D).length (apI [] d_Author_D)) d_Author_U).length (apI (List.take (apI [] d_Author_D).length (apI [] d_Author_D)) d_Author_U)) d_Id)) d_Version).length (apI (List.take (apI (List.take (apI (List.take (apI [] d_Author_D).length (apI [] d_Author_D)) d_Author_U).length (apI (List.take (apI [] d_Author_D).length (apI [] d_Author_D)) d_Author_U)) d_Id).length (apI (List.take (apI (List.take (apI [] d_Author_D).length (apI [] d_Author_D)) d_Author_U).length (apI (List.take (apI [] d_Author_D).length (apI [] d_Author_D)) d_Author_U)) d_Id)) d_Version) ++ List.take 32 d_Hash)) d_Kind).length (apY (List.take ((apI (List.take (apI (List.take (apI (List.take (apI [] d_Author_D).length (apI [] d_Author_D)) d_Author_U).length (apI (List.take (apI [] d_Author_D).length (apI [] d_Author_D)) d_Author_U)) d_Id).length (apI (List.take (apI (List.take (apI [] d_Author_D).length (apI [] d_Author_D)) d_Author_U).length (apI (List.take (apI [] d_Author_D).length (apI [] d_Author_D)) d_Author_U)) d_Id)) d_Version).length + (List.take 32 d_Hash).length) (List.take (apI (List.take (apI (List.take (apI (List.take (apI [] d_Author_D).length (apI [] d_Author_D)) d_Author_U).length (apI (List.take (apI [] d_Author_D).length (apI [] d_Author_D)) d_Author_U)) d_Id).length (apI (List.take (apI (List.take (apI [] d_Author_D).length (apI [] d_Author_D)) d_Author_U).length (apI (List.take (apI [] d_Author_D).length (apI [] d_Author_D)) d_Author_U)) d_Id)) d_Version).length (apI (List.take (apI (List.take (apI (List.take (apI [] d_Author_D).length (apI [] d_Author_D)) d_Author_U).length (apI (List.take (apI [] d_Author_D).length (apI [] d_Author_D)) d_Author_U)) d_Id).length (apI (List.take (apI (List.take (apI [] d_Author_D).length (apI [] d_Author_D)) d_Author_U).length (apI (List.take (apI [] d_Author_D).length (apI [] d_Author_D)) d_Author_U)) d_Id)) d_Version) ++ List.take 32 d_Hash)) d_Kind)) (ByteArray.mk (Array.mk (Jl (false, pu IntKind.u8 (opB d_Op)).snd)))).length (apT (List.take (apY (List.take ((apI (List.take (apI (List.take (apI (List.take (apI [] d_Author_D).length (apI [] d_Author_D)) d_Author_U).length (apI (List.take (apI [] d_Author_D).length (apI [] d_Author_D)) d_Author_U)) d_Id).length (apI (List.take (apI (List.take (apI [] d_Author_D).length (apI [] d_Author_D)) d_Author_U).length (apI (List.take (apI [] d_Author_D).length (apI [] d_Author_D)) d_Author_U)) d_Id)) d_Version).length + (List.take 32 d_Hash).length) (List.take (apI (List.take (apI (List.take (apI (List.take (apI [] d_Author_D).length (apI [] d_Author_D)) d_Author_U).length (apI (List.take (apI [] d_Author_D).length (apI [] d_Author_D)) d_Author_U)) d_Id).length (apI (List.take (apI (List.take (apI [] d_Author_D).length (apI [] d_Author_D)) d_Author_U).length (apI (List.take (apI [] d_Author_D).length (apI [] d_Author_D)) d_Author_U)) d_Id)) d_Version).length (apI (List.take (apI (List.take (apI (List.take (apI [] d_Author_D).length (apI [] d_Author_D)) d_Author_U).length (apI (List.take (apI [] d_Author_D).length (apI [] d_Author_D)) d_Author_U)) d_Id).length (apI (List.take (apI (List.take (apI [] d_Author_D).length (apI [] d_Author_D)) d_Author_U).length (apI (List.take (apI [] d_Author_D).length (apI [] d_Author_D)) d_Author_U)) d_Id)) d_Version) ++ List.take 32 d_Hash)) d_Kind).length (apY (List.take ((apI (List.take (apI (List.take (apI (List.take (apI [] d_Author_D).length (apI [] d_Author_D)) d_Author_U).length (apI (List.take (apI [] d_Author_D).length (apI [] d_Author_D)) d_Author_U)) d_Id).length (apI (List.take (apI (List.take (apI [] d_Author_D).length (apI [] d_Author_D)) d_Author_U).length (apI (List.take (apI [] d_Author_D).length (apI [] d_Author_D)) d_Author_U)) d_Id)) d_Version).length + (List.take 32 d_Hash).length) (List.take (apI (List.take (apI (List.take (apI (List.take (apI [] d_Author_D).length (apI [] d_Author_D)) d_Author_U).length (apI (List.take (apI [] d_Author_D).length (apI [] d_Author_D)) d_Author_U)) d_Id).length (apI (List.take (apI (List.take (apI [] d_Author_D).length (apI [] d_Author_D)) d_Author_U).length (apI (List.take (apI [] d_Author_D).length (apI [] d_Author_D)) d_Author_U)) d_Id)) d_Version).length (apI (List.take (apI (List.take (apI (List.take (apI [] d_Author_D).length (apI [] d_Author_D)) d_Author_U).length (apI (List.take (apI [] d_Author_D).length (apI [] d_Author_D)) d_Author_U)) d_Id).length (apI (List.take (apI (List.take (apI [] d_Author_D).length (apI [] d_Author_D)) d_Author_U).length (apI (List.take (apI [] d_Author_D).length (apI [] d_Author_D)) d_Author_U)) d_Id)) d_Version) ++ List.take 32 d_Hash)) d_Kind)) (ByteArray.mk (Array.mk (Jl (false, pu IntKind.u8 (opB d_Op)).snd))))) d_Who_D).length (apI (List.take (apT (List.take (apY (List.take ((apI (List.take (apI (List.take (apI (List.take (apI [] d_Author_D).length (apI [] d_Author_D)) d_Author_U).length (apI (List.take (apI [] d_Author_D).length (apI [] d_Author_D)) d_Author_U)) d_Id).length (apI (List.take (apI (List.take (apI [] d_Author_D).length (apI [] d_Author_D)) d_Author_U).length (apI (List.take (apI [] d_Author_D).length (apI [] d_Author_D)) d_Author_U)) d_Id)) d_Version).length + (List.take 32 d_Hash).length) (List.take (apI (List.take (apI (List.take (apI (List.take (apI [] d_Author_D).length (apI [] d_Author_D)) d_Author_U).length (apI (List.take (apI [] d_Author_D).length (apI [] d_Author_D)) d_Author_U)) d_Id).length (apI (List.take (apI (List.take (apI [] d_Author_D).length (apI [] d_Author_D)) d_Author_U).length (apI (List.take (apI [] d_Author_D).length (apI [] d_Author_D)) d_Author_U)) d_Id)) d_Version).length (apI (List.take (apI (List.take (apI (List.take (apI [] d_Author_D).length (apI [] d_Author_D)) d_Author_U).length (apI (List.take (apI [] d_Author_D).length (apI [] d_Author_D)) d_Author_U)) d_Id).length (apI (List.take (apI (List.take (apI [] d_Author_D).length (apI [] d_Author_D)) d_Author_U).length (apI (List.take (apI [] d_Author_D).length (apI [] d_Author_D)) d_Author_U)) d_Id)) d_Version) ++ List.take 32 d_Hash)) d_Kind).length (apY (List.take ((apI (List.take (apI (List.take (apI (List.take (apI [] d_Author_D).length (apI [] d_Author_D)) d_Author_U).length (apI (List.take (apI [] d_Author_D).length (apI [] d_Author_D)) d_Author_U)) d_Id).length (apI (List.take (apI (List.take (apI [] d_Author_D).length (apI [] d_Author_D)) d_Author_U).length (apI (List.take (apI [] d_Author_D).length (apI [] d_Author_D)) d_Author_U)) d_Id)) d_Version).length + (List.take 32 d_Hash).length) (List.take (apI (List.take (apI (List.take (apI (List.take (apI [] d_Author_D).length (apI [] d_Author_D)) d_Author_U).length (apI (List.take (apI [] d_Author_D).length (apI [] d_Author_D)) d_Author_U)) d_Id).length (apI (List.take (apI (List.take (apI [] d_Author_D).length (apI [] d_Author_D)) d_Author_U).length (apI (List.take (apI [] d_Author_D).length (apI [] d_Author_D)) d_Author_U)) d_Id)) d_Version).length (apI (List.take (apI (List.take (apI (List.take (apI [] d_Author_D).length (apI [] d_Author_D)) d_Author_U).length (apI (List.take (apI [] d_Author_D).length (apI [] d_Author_D)) d_Author_U)) d_Id).length (apI (List.take (apI (List.take (apI [] d_Author_D).length (apI [] d_Author_D)) d_Author_U).length (apI (List.take (apI [] d_Author_D).length (apI [] d_Author_D)) d_Author_U)) d_Id)) d_Version) ++ List.take 32 d_Hash)) d_Kind)) (ByteArray.mk (Array.mk (Jl (false, pu IntKind.u8 (opB d_Op)).snd)))).length (apT (List.take (apY (List.take ((apI (List.take (apI (List.take (apI (List.take (apI [] d_Author_D).length (apI [] d_Author_D)) d_Author_U).length (apI (List.take (apI [] d_Author_D).length (apI [] d_Author_D)) d_Author_U)) d_Id).length (apI (List.take (apI (List.take (apI [] d_Author_D).length (apI [] d_Author_D)) d_Author_U).length (apI (List.take (apI [] d_Author_D).length (apI [] d_Author_D)) d_Author_U)) d_Id)) d_Version).length + (List.take 32 d_Hash).length) (List.take (apI (List.take (apI (List.take (apI (List.take (apI [] d_Author_D).length (apI [] d_Author_D)) d_Author_U).length (apI (List.take (apI [] d_Author_D).length (apI [] d_Author_D)) d_Author_U)) d_Id).length (apI (List.take (apI (List.take (apI [] d_Author_D).length (apI [] d_Author_D)) d_Author_U).length (apI (List.take (apI [] d_Author_D).length (apI [] d_Author_D)) d_Author_U)) d_Id)) d_Version).length (apI (List.take (apI (List.take (apI (List.take (apI [] d_Author_D).length (apI [] d_Author_D)) d_Author_U).length (apI (List.take (apI [] d_Author_D).length (apI [] d_Author_D)) d_Author_U)) d_Id).length (apI (List.take (apI (List.take (apI [] d_Author_D).length (apI [] d_Author_D)) d_Author_U).length (apI (List.take (apI [] d_Author_D).length (apI [] d_Author_D)) d_Author_U)) d_Id)) d_Version) ++ List.take 32 d_Hash)) d_Kind).length (apY (List.take ((apI (List.take (apI (List.take (apI (List.take (apI [] d_Author_D).length (apI [] d_Author_D)) d_Author_U).length (apI (List.take (apI [] d_Author_D).length (apI [] d_Author_D)) d_Author_U)) d_Id).length (apI (List.take (apI (List.take (apI [] d_Author_D).length (apI [] d_Author_D)) d_Author_U).length (apI (List.take (apI [] d_Author_D).length (apI [] d_Author_D)) d_Author_U)) d_Id)) d_Version).length + (List.take 32 d_Hash).length) (List.take (apI (List.take (apI (List.take (apI (List.take (apI [] d_Author_D).length (apI [] d_Author_D)) d_Author_U).length (apI (List.take (apI [] d_Author_D).length (apI [] d_Author_D)) d_Author_U)) d_Id).length (apI (List.take (apI (List.take (apI [] d_Author_D).length (apI [] d_Author_D)) d_Author_U).length (apI (List.take (apI [] d_Author_D).length (apI [] d_Author_D)) d_Author_U)) d_Id)) d_Version).length (apI (List.take (apI (List.take (apI (List.take (apI [] d_Author_D).length (apI [] d_Author_D)) d_Author_U).length (apI (List.take (apI [] d_Author_D).length (apI [] d_Author_D)) d_Author_U)) d_Id).length (apI (List.take (apI (List.take (apI [] d_Author_D).length (apI [] d_Author_D)) d_Author_U).length (apI (List.take (apI [] d_Author_D).length (apI [] d_Author_D)) d_Author_U)) d_Id)) d_Version) ++ List.take 32 d_Hash)) d_Kind)) (ByteArray.mk (Array.mk (Jl (false, pu IntKind.u8 (opB d_Op)).snd))))) d_Who_D)) d_Who_U).length (apI (List.take (apI (List.take (apT (List.take (apY (List.take ((apI (List.take (apI (List.take (apI (List.take (apI [] d_Author_D).length (apI [] d_Author_D)) d_Author_U).length (apI (List.take (apI [] d_Author_D).length (apI [] d_Author_D)) d_Author_U)) d_Id).length (apI (List.take (apI (List.take (apI [] d_Author_D).length (apI [] d_Author_D)) d_Author_U).length (apI (List.take (apI [] d_Author_D).length (apI [] d_Author_D)) d_Author_U)) d_Id)) d_Version).length + (List.take 32 d_Hash).length) (List.take (apI (List.take (apI (List.take (apI (List.take (apI [] d_Author_D).length (apI [] d_Author_D)) d_Author_U).length (apI (List.take (apI [] d_Author_D).length (apI [] d_Author_D)) d_Author_U)) d_Id).length (apI (List.take (apI (List.take (apI [] d_Author_D).length (apI [] d_Author_D)) d_Author_U).length (apI (List.take (apI [] d_Author_D).length (apI [] d_Author_D)) d_Author_U)) d_Id)) d_Version).length (apI (List.take (apI (List.take (apI (List.take (apI [] d_Author_D).length (apI [] d_Author_D)) d_Author_U).length (apI (List.take (apI [] d_Author_D).length (apI [] d_Author_D)) d_Author_U)) d_Id).length (apI (List.take (apI (List.take (apI [] d_Author_D).length (apI [] d_Author_D)) d_Author_U).length (apI (List.take (apI [] d_Author_D).length (apI [] d_Author_D)) d_Author_U)) d_Id)) d_Version) ++ List.take 32 d_Hash)) d_Kind).length (apY (List.take ((apI (List.take (apI (List.take (apI (List.take (apI [] d_Author_D).length (apI [] d_Author_D)) d_Author_U).length (apI (List.take (apI [] d_Author_D).length (apI [] d_Author_D)) d_Author_U)) d_Id).length (apI (List.take (apI (List.take (apI [] d_Author_D).length (apI [] d_Author_D)) d_Author_U).length (apI (List.take (apI [] d_Author_D).length (apI [] d_Author_D)) d_Author_U)) d_Id)) d_Version).length + (List.take 32 d_Hash).length) (List.take (apI (List.take (apI (List.take (apI (List.take (apI [] d_Author_D).length (apI [] d_Author_D)) d_Author_U).length (apI (List.take (apI [] d_Author_D).length (apI [] d_Author_D)) d_Author_U)) d_Id).length (apI (List.take (apI (List.take (apI [] d_Author_D).length (apI [] d_Author_D)) d_Author_U).length (apI (List.take (apI [] d_Author_D).length (apI [] d_Author_D)) d_Author_U)) d_Id)) d_Version).length (apI (List.take (apI (List.take (apI (List.take (apI [] d_Author_D).length (apI [] d_Author_D)) d_Author_U).length (apI (List.take (apI [] d_Author_D).length (apI [] d_Author_D)) d_Author_U)) d_Id).length (apI (List.take (apI (List.take (apI [] d_Author_D).length (apI [] d_Author_D)) d_Author_U).length (apI (List.take (apI [] d_Author_D).length (apI [] d_Author_D)) d_Author_U)) d_Id)) d_Version) ++ List.take 32 d_Hash)) d_Kind)) (ByteArray.mk (Array.mk (Jl (false, pu IntKind.u8 (opB d_Op)).snd)))).length (apT (List.take (apY (List.take ((apI (List.take (apI (List.take (apI (List.take (apI [] d_Author_D).length (apI [] d_Author_D)) d_Author_U).length (apI (List.take (apI [] d_Author_D).length (apI [] d_Author_D)) d_Author_U)) d_Id).length (apI (List.take (apI (List.take (apI [] d_Author_D).length (apI [] d_Author_D)) d_Author_U).length (apI (List.take (apI [] d_Author_D).length (apI [] d_Author_D)) d_Author_U)) d_Id)) d_Version).length + (List.take 32 d_Hash).length) (List.take (apI (List.take (apI (List.take (apI (List.take (apI [] d_Author_D).length (apI [] d_Author_D)) d_Author_U).length (apI (List.take (apI [] d_Author_D).length (apI [] d_Author_D)) d_Author_U)) d_Id).length (apI (List.take (apI (List.take (apI [] d_Author_D).length (apI [] d_Author_D)) d_Author_U).length (apI (List.take (apI [] d_Author_D).length (apI [] d_Author_D)) d_Author_U)) d_Id)) d_Version).length (apI (List.take (apI (List.take (apI (List.take (apI [] d_Author_D).length (apI [] d_Author_D)) d_Author_U).length (apI (List.take (apI [] d_Author_D).length (apI [] d_Author_D)) d_Author_U)) d_Id).length (apI (List.take (apI (List.take (apI [] d_Author_D).length (apI [] d_Author_D)) d_Author_U).length (apI (List.take (apI [] d_Author_D).length (apI [] d_Author_D)) d_Author_U)) d_Id)) d_Version) ++ List.take 32 d_Hash)) d_Kind).length (apY (List.take ((apI (List.take (apI (List.take (apI (List.take (apI [] d_Author_D).length (apI [] d_Author_D)) d_Author_U).length (apI (List.take (apI [] d_Author_D).length (apI [] d_Author_D)) d_Author_U)) d_Id).length (apI (List.take (apI (List.take (apI [] d_Author_D).length (apI [] d_Author_D)) d_Author_U).length (apI (List.take (apI [] d_Author_D).length (apI [] d_Author_D)) d_Author_U)) d_Id)) d_Version).length + (List.take 32 d_Hash).length) (List.take (apI (List.take (apI (List.take (apI (List.take (apI [] d_Author_D).length (apI [] d_Author_D)) d_Author_U).length (apI (List.take (apI [] d_Author_D).length (apI [] d_Author_D)) d_Author_U)) d_Id).length (apI (List.take (apI (List.take (apI [] d_Author_D).length (apI [] d_Author_D)) d_Author_U).length (apI (List.take (apI [] d_Author_D).length (apI [] d_Author_D)) d_Author_U)) d_Id)) d_Version).length (apI (List.take (apI (List.take (apI (List.take (apI [] d_Author_D).length (apI [] d_Author_D)) d_Author_U).length (apI (List.take (apI [] d_Author_D).length (apI [] d_Author_D)) d_Author_U)) d_Id).length (apI (List.take (apI (List.take (apI [] d_Author_D).length (apI [] d_Author_D)) d_Author_U).length (apI (List.take (apI [] d_Author_D).length (apI [] d_Author_D)) d_Author_U)) d_Id)) d_Version) ++ List.take 32 d_Hash)) d_Kind)) (ByteArray.mk (Array.mk (Jl (false, pu IntKind.u8 (opB d_Op)).snd))))) d_Who_D).length (apI (List.take (apT (List.take (apY (List.take ((apI (List.take (apI (List.take (apI (List.take (apI [] d_Author_D).length (apI [] d_Author_D)) d_Author_U).length (apI (List.take (apI [] d_Author_D).length (apI [] d_Author_D)) d_Author_U)) d_Id).length (apI (List.take (apI (List.take (apI [] d_Author_D).length (apI [] d_Author_D)) d_Author_U).length (apI (List.take (apI [] d_Author_D).length (apI [] d_Author_D)) d_Author_U)) d_Id)) d_Version).length + (List.take 32 d_Hash).length) (List.take (apI (List.take (apI (List.take (apI (List.take (apI [] d_Author_D).length (apI [] d_Author_D)) d_Author_U).length (apI (List.take (apI [] d_Author_D).length (apI [] d_Author_D)) d_Author_U)) d_Id).length (apI (List.take (apI (List.take (apI [] d_Author_D).length (apI [] d_Author_D)) d_Author_U).length (apI (List.take (apI [] d_Author_D).length (apI [] d_Author_D)) d_Author_U)) d_Id)) d_Version).length (apI (List.take (apI (List.take (apI (List.take (apI [] d_Author_D).length (apI [] d_Author_D)) d_Author_U).length (apI (List.take (apI [] d_Author_D).length (apI [] d_Author_D)) d_Author_U)) d_Id).length (apI (List.take (apI (List.take (apI [] d_Author_D).length (apI [] d_Author_D)) d_Author_U).length (apI (List.take (apI [] d_Author_D).length (apI [] d_Author_D)) d_Author_U)) d_Id)) d_Version) ++ List.take 32 d_Hash)) d_Kind).length (apY (List.take ((apI (List.take (apI (List.take (apI (List.take (apI [] d_Author_D).length (apI [] d_Author_D)) d_Author_U).length (apI (List.take (apI [] d_Author_D).length (apI [] d_Author_D)) d_Author_U)) d_Id).length (apI (List.take (apI (List.take (apI [] d_Author_D).length (apI [] d_Author_D)) d_Author_U).length (apI (List.take (apI [] d_Author_D).length (apI [] d_Author_D)) d_Author_U)) d_Id)) d_Version).length + (List.take 32 d_Hash).length) (List.take (apI (List.take (apI (List.take (apI (List.take (apI [] d_Author_D).length (apI [] d_Author_D)) d_Author_U).length (apI (List.take (apI [] d_Author_D).length (apI [] d_Author_D)) d_Author_U)) d_Id).length (apI (List.take (apI (List.take (apI [] d_Author_D).length (apI [] d_Author_D)) d_Author_U).length (apI (List.take (apI [] d_Author_D).length (apI [] d_Author_D)) d_Author_U)) d_Id)) d_Version).length (apI (List.take (apI (List.take (apI (List.take (apI [] d_Author_D).length (apI [] d_Author_D)) d_Author_U).length (apI (List.take (apI [] d_Author_D).length (apI [] d_Author_D)) d_Author_U)) d_Id).length (apI (List.take (apI (List.take (apI [] d_Author_D).length (apI [] d_Author_D)) d_Author_U).length (apI (List.take (apI [] d_Author_D).length (apI [] d_Author_D)) d_Author_U)) d_Id)) d_Version) ++ List.take 32 d_Hash)) d_Kind)) (ByteArray.mk (Array.mk (Jl (false, pu IntKind.u8 (opB d_Op)).snd)))).length (apT (List.take (apY (List.take ((apI (List.take (apI (List.take (apI (List.take (apI [] d_Author_D).length (apI [] d_Author_D)) d_Author_U).length (apI (List.take (apI [] d_Author_D).length (apI [] d_Author_D)) d_Author_U)) d_Id).length (apI (List.take (apI (List.take (apI [] d_Author_D).length (apI [] d_Author_D)) d_Author_U).length (apI (List.take (apI [] d_Author_D).length (apI [] d_Author_D)) d_Author_U)) d_Id)) d_Version).length + (List.take 32 d_Hash).length) (List.take (apI (List.take (apI (List.take (apI (List.take (apI [] d_Author_D).length (apI [] d_Author_D)) d_Author_U).length (apI (List.take (apI [] d_Author_D).length (apI [] d_Author_D)) d_Author_U)) d_Id).length (apI (List.take (apI (List.take (apI [] d_Author_D).length (apI [] d_Author_D)) d_Author_U).length (apI (List.take (apI [] d_Author_D).length (apI [] d_Author_D)) d_Author_U)) d_Id)) d_Version).length (apI (List.take (apI (List.take (apI (List.take (apI [] d_Author_D).length (apI [] d_Author_D)) d_Author_U).length (apI (List.take (apI [] d_Author_D).length (apI [] d_Author_D)) d_Author_U)) d_Id).length (apI (List.take (apI (List.take (apI [] d_Author_D).length (apI [] d_Author_D)) d_Author_U).length (apI (List.take (apI [] d_Author_D).length (apI [] d_Author_D)) d_Author_U)) d_Id)) d_Version) ++ List.take 32 d_Hash)) d_Kind).length (apY (List.take ((apI (List.take (apI (List.take (apI (List.take (apI [] d_Author_D).length (apI [] d_Author_D)) d_Author_U).length (apI (List.take (apI [] d_Author_D).length (apI [] d_Author_D)) d_Author_U)) d_Id).length (apI (List.take (apI (List.take (apI [] d_Author_D).length (apI [] d_Author_D)) d_Author_U).length (apI (List.take (apI [] d_Author_D).length (apI [] d_Author_D)) d_Author_U)) d_Id)) d_Version).length + (List.take 32 d_Hash).length) (List.take (apI (List.take (apI (List.take (apI (List.take (apI [] d_Author_D).length (apI [] d_Author_D)) d_Author_U).length (apI (List.take (apI [] d_Author_D).length (apI [] d_Author_D)) d_Author_U)) d_Id).length (apI (List.take (apI (List.take (apI [] d_Author_D).length (apI [] d_Author_D)) d_Author_U).length (apI (List.take (apI [] d_Author_D).length (apI [] d_Author_D)) d_Author_U)) d_Id)) d_Version).length (apI (List.take (apI (List.take (apI (List.take (apI [] d_Author_D).length (apI [] d_Author_D)) d_Author_U).length (apI (List.take (apI [] d_Author_D).length (apI [] d_Author_D)) d_Author_U)) d_Id).length (apI (List.take (apI (List.take (apI [] d_Author_D).length (apI [] d_Author_D)) d_Author_U).length (apI (List.take (apI [] d_Author_D).length (apI [] d_Author_D)) d_Author_U)) d_Id)) d_Version) ++ List.take 32 d_Hash)) d_Kind)) (ByteArray.mk (Array.mk (Jl (false, pu IntKind.u8 (opB d_Op)).snd))))) d_Who_D)) d_Who_U))) [] []) else none else none else none else none else none else none else none else none else none else none else none
theorem Jyi (f : Nat) (d_Author_D : Int) (d_Author_U : Int) (d_Id : Int) (d_Version : Int) (d_Hash : List PV) (d_Kind : Int) (d_Op_z : Bool) (d_Op_f : Bool) (d_Op : List PV) (d_Who_D : Int) (d_Who_U : Int) (k : Res → Option Res) : JR tau Jvy Try.f101 (Try.f101.body.get!) JhN [.ro] 6 [.st 73 [.st 45 [.sc (.int .i64 d_Author_D), .sc (.int .i64 d_Author_U)], .sc (.int .i64 d_Id), .sc (.int .i64 d_Version), .ar 37 d_Hash, .sc (.int .i64 d_Kind), .ro 99 d_Op_z d_Op_f d_Op, .st 45 [.sc (.int .i64 d_Who_D), .sc (.int .i64 d_Who_U)]]] [] k = Jrs f d_Author_D d_Author_U d_Id d_Version d_Hash d_Kind d_Op_z d_Op_f d_Op d_Who_D d_Who_U k := by kernel_rfl
theorem Jvz (f : Nat) : Jg (Try.f101.body.get!) JhN = [] := by kernel_rfl
theorem JvA (f : Nat) : ∀ q ∈ Jg (Try.f101.body.get!) JhN, q.Ok tau Try.prog 0 := by
  rw [Jvz f]; intro q hq; cases hq
theorem Jo8 : Try.prog.funcs[101]? = some Try.f101 := by kernel_rfl
theorem Jo9 : Try.f101.body = some (Try.f101.body.get!) := by kernel_rfl
theorem JvB : Enters Try.prog 101 := enters_of Jo8 (by kernel_rfl) Jo9

noncomputable def F58 : Fns := JG 114 JkC (JG 98 JmH (JG 97 Jre (F0)))
theorem Jrt : Jz tau Try.prog F58 := (((JH).add JoT JqD).add Jkj Jqy).add JkD JoY
def JmY : An := (.seq .leaf (.seq .leaf (.seq .leaf .leaf)))
noncomputable def g58 (f : Nat) (e_S_Body_z : Bool) (e_S_Body_f : Bool) (e_S_Body : List PV) (e_S_Mac : List PV) (e_At : Int) (e_Op_z : Bool) (e_Op_f : Bool) (e_Op : List PV) (e_Hash : List PV) (e_Mac : List PV) (k : Res → Option Res) : Option Res := bif Jf IntKind.u8 e_S_Body && true then bif okZ true [] && (ByteArray.mk (Array.mk (Jl (e_S_Body_z, e_S_Body).snd))).size.ble 65535 then bif Jj ((apT [] (ByteArray.mk (Array.mk (Jl (e_S_Body_z, e_S_Body).snd)))).length + (List.take 32 e_S_Mac).length) 1 && true then bif okZ false (List.take ((apT [] (ByteArray.mk (Array.mk (Jl (e_S_Body_z, e_S_Body).snd)))).length + (List.take 32 e_S_Mac).length) (List.take (apT [] (ByteArray.mk (Array.mk (Jl (e_S_Body_z, e_S_Body).snd)))).length (apT [] (ByteArray.mk (Array.mk (Jl (e_S_Body_z, e_S_Body).snd)))) ++ List.take 32 e_S_Mac)) then bif cBy e_Op then bif Jf IntKind.u8 (pu IntKind.u8 (opB e_Op)) && true then bif okZ false (List.take (apI (List.take ((apT [] (ByteArray.mk (Array.mk (Jl (e_S_Body_z, e_S_Body).snd)))).length + (List.take 32 e_S_Mac).length) (List.take (apT [] (ByteArray.mk (Array.mk (Jl (e_S_Body_z, e_S_Body).snd)))).length (apT [] (ByteArray.mk (Array.mk (Jl (e_S_Body_z, e_S_Body).snd)))) ++ List.take 32 e_S_Mac)) e_At).length (apI (List.take ((apT [] (ByteArray.mk (Array.mk (Jl (e_S_Body_z, e_S_Body).snd)))).length + (List.take 32 e_S_Mac).length) (List.take (apT [] (ByteArray.mk (Array.mk (Jl (e_S_Body_z, e_S_Body).snd)))).length (apT [] (ByteArray.mk (Array.mk (Jl (e_S_Body_z, e_S_Body).snd)))) ++ List.take 32 e_S_Mac)) e_At)) && (ByteArray.mk (Array.mk (Jl (false, pu IntKind.u8 (opB e_Op)).snd))).size.ble 65535 then k (Res.mk (.ro 5 false false (List.take (apT (List.take (apI (List.take ((apT [] (ByteArray.mk (Array.mk (Jl (e_S_Body_z, e_S_Body).snd)))).length + (List.take 32 e_S_Mac).length) (List.take (apT [] (ByteArray.mk (Array.mk (Jl (e_S_Body_z, e_S_Body).snd)))).length (apT [] (ByteArray.mk (Array.mk (Jl (e_S_Body_z, e_S_Body).snd)))) ++ List.take 32 e_S_Mac)) e_At).length (apI (List.take ((apT [] (ByteArray.mk (Array.mk (Jl (e_S_Body_z, e_S_Body).snd)))).length + (List.take 32 e_S_Mac).length) (List.take (apT [] (ByteArray.mk (Array.mk (Jl (e_S_Body_z, e_S_Body).snd)))).length (apT [] (ByteArray.mk (Array.mk (Jl (e_S_Body_z, e_S_Body).snd)))) ++ List.take 32 e_S_Mac)) e_At)) (ByteArray.mk (Array.mk (Jl (false, pu IntKind.u8 (opB e_Op)).snd)))).length (apT (List.take (apI (List.take ((apT [] (ByteArray.mk (Array.mk (Jl (e_S_Body_z, e_S_Body).snd)))).length + (List.take 32 e_S_Mac).length) (List.take (apT [] (ByteArray.mk (Array.mk (Jl (e_S_Body_z, e_S_Body).snd)))).length (apT [] (ByteArray.mk (Array.mk (Jl (e_S_Body_z, e_S_Body).snd)))) ++ List.take 32 e_S_Mac)) e_At).length (apI (List.take ((apT [] (ByteArray.mk (Array.mk (Jl (e_S_Body_z, e_S_Body).snd)))).length + (List.take 32 e_S_Mac).length) (List.take (apT [] (ByteArray.mk (Array.mk (Jl (e_S_Body_z, e_S_Body).snd)))).length (apT [] (ByteArray.mk (Array.mk (Jl (e_S_Body_z, e_S_Body).snd)))) ++ List.take 32 e_S_Mac)) e_At)) (ByteArray.mk (Array.mk (Jl (false, pu IntKind.u8 (opB e_Op)).snd)))))) [] []) else none else none else none else none else none else none else none
theorem e58 (f : Nat) (e_S_Body_z : Bool) (e_S_Body_f : Bool) (e_S_Body : List PV) (e_S_Mac : List PV) (e_At : Int) (e_Op_z : Bool) (e_Op_f : Bool) (e_Op : List PV) (e_Hash : List PV) (e_Mac : List PV) (k : Res → Option Res) : JR tau F58 Try.f58 (Try.f58.body.get!) JmY [.ro] 0 [.st 93 [.st 77 [.ro 5 e_S_Body_z e_S_Body_f e_S_Body, .ar 37 e_S_Mac], .sc (.int .i64 e_At), .ro 99 e_Op_z e_Op_f e_Op, .ar 37 e_Hash, .ar 37 e_Mac]] [] k = g58 f e_S_Body_z e_S_Body_f e_S_Body e_S_Mac e_At e_Op_z e_Op_f e_Op e_Hash e_Mac k := by kernel_rfl
theorem Jyj (f : Nat) : Jg (Try.f58.body.get!) JmY = [] := by kernel_rfl
theorem Jyk (f : Nat) : ∀ q ∈ Jg (Try.f58.body.get!) JmY, q.Ok tau Try.prog 0 := by
  rw [Jyj f]; intro q hq; cases hq
theorem JvC : Try.prog.funcs[58]? = some Try.f58 := by kernel_rfl
theorem JvD : Try.f58.body = some (Try.f58.body.get!) := by kernel_rfl
theorem Jru : Enters Try.prog 58 := enters_of JvC (by kernel_rfl) JvD
noncomputable def F59 : Fns := JG 111 Jo7 (JG 109 JoV (JG 108 JoU (F0)))
theorem Jrv : Jz tau Try.prog F59 := (((JH).add Jrg Joz).add Jrh Jvl).add Jrq Jvq
def JmZ : An := (.seq .leaf (.seq .leaf (.seq .leaf .leaf)))
noncomputable def g59 (f : Nat) (e_S_Body_z : Bool) (e_S_Body_f : Bool) (e_S_Body : List PV) (e_S_Mac : List PV) (e_At : Int) (e_Op_z : Bool) (e_Op_f : Bool) (e_Op : List PV) (e_Hash : List PV) (e_Mac : List PV) (k : Res → Option Res) : Option Res := bif Jf IntKind.u8 e_S_Body && true then bif (ByteArray.mk (Array.mk (Jl (e_S_Body_z, e_S_Body).snd))).size.ble 65535 then bif Jj ((apT [] (ByteArray.mk (Array.mk (Jl (e_S_Body_z, e_S_Body).snd)))).length + (List.take 32 e_S_Mac).length) 1 && true then bif okL ((apT [] (ByteArray.mk (Array.mk (Jl (e_S_Body_z, e_S_Body).snd)))).length + (List.take 32 e_S_Mac).length) (List.take (apT [] (ByteArray.mk (Array.mk (Jl (e_S_Body_z, e_S_Body).snd)))).length (apT [] (ByteArray.mk (Array.mk (Jl (e_S_Body_z, e_S_Body).snd)))) ++ List.take 32 e_S_Mac) then bif cBy e_Op then bif Jf IntKind.u8 (List.take (opB e_Op).length (pu IntKind.u8 (opB e_Op))) && true then bif okL (apI (List.take (apT [] (ByteArray.mk (Array.mk (Jl (e_S_Body_z, e_S_Body).snd)))).length (apT [] (ByteArray.mk (Array.mk (Jl (e_S_Body_z, e_S_Body).snd)))) ++ List.take 32 e_S_Mac) e_At).length (apI (List.take (apT [] (ByteArray.mk (Array.mk (Jl (e_S_Body_z, e_S_Body).snd)))).length (apT [] (ByteArray.mk (Array.mk (Jl (e_S_Body_z, e_S_Body).snd)))) ++ List.take 32 e_S_Mac) e_At) && (ByteArray.mk (Array.mk (Jl ((Ent.vec false 5 false (pu IntKind.u8 (opB e_Op))).nil, List.take (opB e_Op).length (List.drop 0 (pu IntKind.u8 (opB e_Op)))).snd))).size.ble 65535 then k (Res.mk (.ow 5 16 [] 0 (apT (apI (List.take (apT [] (ByteArray.mk (Array.mk (Jl (e_S_Body_z, e_S_Body).snd)))).length (apT [] (ByteArray.mk (Array.mk (Jl (e_S_Body_z, e_S_Body).snd)))) ++ List.take 32 e_S_Mac) e_At) (ByteArray.mk (Array.mk (Jl ((Ent.vec false 5 false (pu IntKind.u8 (opB e_Op))).nil, List.take (opB e_Op).length (List.drop 0 (pu IntKind.u8 (opB e_Op)))).snd)))).length none) [] [.vec false 5 false (apT (apI (List.take (apT [] (ByteArray.mk (Array.mk (Jl (e_S_Body_z, e_S_Body).snd)))).length (apT [] (ByteArray.mk (Array.mk (Jl (e_S_Body_z, e_S_Body).snd)))) ++ List.take 32 e_S_Mac) e_At) (ByteArray.mk (Array.mk (Jl ((Ent.vec false 5 false (pu IntKind.u8 (opB e_Op))).nil, List.take (opB e_Op).length (List.drop 0 (pu IntKind.u8 (opB e_Op)))).snd))))]) else none else none else none else none else none else none else none
theorem e59 (f : Nat) (e_S_Body_z : Bool) (e_S_Body_f : Bool) (e_S_Body : List PV) (e_S_Mac : List PV) (e_At : Int) (e_Op_z : Bool) (e_Op_f : Bool) (e_Op : List PV) (e_Hash : List PV) (e_Mac : List PV) (k : Res → Option Res) : JR tau F59 Try.f59 (Try.f59.body.get!) JmZ [] 0 [.st 93 [.st 77 [.ro 5 e_S_Body_z e_S_Body_f e_S_Body, .ar 37 e_S_Mac], .sc (.int .i64 e_At), .ro 99 e_Op_z e_Op_f e_Op, .ar 37 e_Hash, .ar 37 e_Mac]] [] k = g59 f e_S_Body_z e_S_Body_f e_S_Body e_S_Mac e_At e_Op_z e_Op_f e_Op e_Hash e_Mac k := by kernel_rfl
theorem Jyl (f : Nat) : Jg (Try.f59.body.get!) JmZ = [] := by kernel_rfl
theorem Jym (f : Nat) : ∀ q ∈ Jg (Try.f59.body.get!) JmZ, q.Ok tau Try.prog 0 := by
  rw [Jyl f]; intro q hq; cases hq
theorem JvE : Try.prog.funcs[59]? = some Try.f59 := by kernel_rfl
theorem JvF : Try.f59.body = some (Try.f59.body.get!) := by kernel_rfl
theorem JvG : Enters Try.prog 59 := enters_of JvE (by kernel_rfl) JvF
-- FN sign.Core | ref9.Core
def tx (l : List PV) : ByteArray := ByteArray.mk (Array.mk (Jl l))
theorem Wz (l : List PV) : (tx l).size = l.length := YA l
structure EV where
  (b m : List PV) (at1 : Int) (o : List PV)
noncomputable def JaZ (e : EV) : List Int := Qg (tx e.b) ++ (Je e.m ++ (J4 e.at1 ++ Qg (tx (pu .u8 (opB e.o)))))
noncomputable def Jw : EV → List Int := hid JaZ
theorem Ja0 (e : EV) : Jw e = JaZ e := by rw [Jw, hid_eq]
noncomputable def eOk : EV → Bool := hid fun e => Jf .u8 e.b && (decide (e.b.length ≤ 65535) && (Jf .u8 e.m && (decide (e.m.length = 32) && (cBy e.o && decide ((opB e.o).length ≤ 65535)))))
theorem W7 {e : EV} : eOk e = true ↔ Jf .u8 e.b = true ∧ e.b.length ≤ 65535 ∧ Jf .u8 e.m = true ∧ e.m.length = 32 ∧ cBy e.o = true ∧ (opB e.o).length ≤ 65535 := by
  rw [eOk, hid_eq]; simp only [Bool.and_eq_true, decide_eq_true_eq]
theorem X7 {e : EV} (h : eOk e = true) : (Jw e).length = e.b.length + (opB e.o).length + 44 := by
  obtain ⟨h1, h2, h3, h4, h5, h6⟩ := W7.1 h
  rw [Ja0]
  simp only [JaZ, List.length_append, Vx, QT, W4, Wz, JF, h4]; omega
theorem Ja1 {e : EV} (h : eOk e = true) : apT (apI (apT [] (tx e.b) ++ List.take 32 e.m) e.at1) (tx (pu .u8 (opB e.o))) = pu .u8 (Jw e) := by
  obtain ⟨h1, h2, h3, h4, h5, h6⟩ := W7.1 h
  rw [Ja0, Xg, YZ, Xg, List.take_of_length_le (by omega)]
  simp only [JaZ, JN, List.nil_append, List.append_assoc, ← Qa h3]
noncomputable def Jgd : List PV → List Ent → (Res → Option Res) → Option Res
  | [.st 93 [.st 77 [.ro 5 bz bf b, .ar 37 m], .sc (.int .i64 at1), .ro 99 oz of o, .ar 37 h, .ar 37 mc]], [], k => bif eOk ⟨b, m, at1, o⟩ then k ⟨.ro 5 false false (pu .u8 (Jw ⟨b, m, at1, o⟩)), [], []⟩ else none
  | _, _, _ => none
noncomputable def Jm0 : Sig := { own := [], run := Jgd }
theorem Jrw (bz bf : Bool) (b m : List PV) (at1 : Int) (oz of : Bool) (o h mc : List PV) (he : eOk ⟨b, m, at1, o⟩ = true) (k : Res → Option Res) : g58 0 bz bf b m at1 oz of o h mc k = k ⟨.ro 5 false false (pu .u8 (Jw ⟨b, m, at1, o⟩)), [], []⟩ := by
  have hl := X7 he
  have hp := Ja1 he
  obtain ⟨h1, h2, h3, h4, h5, h6⟩ := W7.1 he
  simp only at hl hp h1 h2 h3 h4 h5 h6
  have ht : ∀ l : List PV, ByteArray.mk (Array.mk (Jl l)) = tx l := fun l => rfl
  have hm : List.take 32 m = m := List.take_of_length_le (by omega)
  have l1 : (apT [] (tx b)).length = b.length + 2 := by rw [Xg]; simp [Wz]
  have l2 : ∀ (L : List PV) (n : Int), (apI L n).length = L.length + 8 := Zp
  have htp : ∀ l : List Int, List.take l.length (pu .u8 l) = pu .u8 l := fun l => List.take_of_length_le (by simp)
  have hcat : ∀ n, n = (apT [] (tx b)).length + m.length → List.take n (apT [] (tx b) ++ m) = apT [] (tx b) ++ m := fun n hn => List.take_of_length_le (by simp; omega)
  rw [hm] at hp
  unfold g58
  simp only [ht, hm, List.take_length, htp, List.drop_zero, hcat _ rfl, Wz, JF]
  refine (Jb (by rw [h1]; rfl)).trans ((Jb (by rw [Y0]; show (true && _) = true; rw [Bool.true_and, Nat.ble_eq]; exact h2)).trans ((Jb (by simp only [Jj, Nat.mul_one, Bool.and_true, decide_eq_true_eq, l1]; omega)).trans ((Jb (by rw [QN (by rw [List.length_append, l1]; omega)])).trans ((Jb h5).trans ((Jb (by rw [JK]; rfl)).trans ((Jb (by rw [QN (by rw [l2, List.length_append, l1]; omega), Bool.true_and, Nat.ble_eq]; exact h6)).trans ?_))))))
  rw [hp]
  try rfl
theorem JkE : Ji tau Try.prog 58 Jm0 := Ji.mk' fun xs es k res hl hr => by
  change Jgd xs es k = some res at hr
  unfold Jgd at hr
  split at hr
  · rename_i bz bf b m at1 oz of o h mc
    obtain ⟨hc, hr⟩ := JI hr
    exact Qo Jr Jrt Js JvC JvD JmY [.ro] 0 0 (Jyk 0) hl rfl ((e58 0 bz bf b m at1 oz of o h mc k).trans ((Jrw bz bf b m at1 oz of o h mc hc k).trans hr))
  · cases hr
noncomputable def Jge : List PV → List Ent → (Res → Option Res) → Option Res
  | [.st 93 [.st 77 [.ro 5 bz bf b, .ar 37 m], .sc (.int .i64 at1), .ro 99 oz of o, .ar 37 h, .ar 37 mc]], [], k => bif eOk ⟨b, m, at1, o⟩ then k ⟨.ow 5 16 [] 0 (Jw ⟨b, m, at1, o⟩).length none, [], [.vec false 5 false (pu .u8 (Jw ⟨b, m, at1, o⟩))]⟩ else none
  | _, _, _ => none
noncomputable def Jrx : Sig := { own := [], run := Jge }
theorem Jry (bz bf : Bool) (b m : List PV) (at1 : Int) (oz of : Bool) (o h mc : List PV) (he : eOk ⟨b, m, at1, o⟩ = true) (k : Res → Option Res) : g59 0 bz bf b m at1 oz of o h mc k = k ⟨.ow 5 16 [] 0 (Jw ⟨b, m, at1, o⟩).length none, [], [.vec false 5 false (pu .u8 (Jw ⟨b, m, at1, o⟩))]⟩ := by
  have hl := X7 he
  have hp := Ja1 he
  obtain ⟨h1, h2, h3, h4, h5, h6⟩ := W7.1 he
  simp only at hl hp h1 h2 h3 h4 h5 h6
  have ht : ∀ l : List PV, ByteArray.mk (Array.mk (Jl l)) = tx l := fun l => rfl
  have hm : List.take 32 m = m := List.take_of_length_le (by omega)
  have l1 : (apT [] (tx b)).length = b.length + 2 := by rw [Xg]; simp [Wz]
  have l2 : ∀ (L : List PV) (n : Int), (apI L n).length = L.length + 8 := Zp
  have htp : ∀ l : List Int, List.take l.length (pu .u8 l) = pu .u8 l := fun l => List.take_of_length_le (by simp)
  have hcat : ∀ n, n = (apT [] (tx b)).length + m.length → List.take n (apT [] (tx b) ++ m) = apT [] (tx b) ++ m := fun n hn => List.take_of_length_le (by simp; omega)
  rw [hm] at hp
  unfold g59
  simp only [ht, hm, List.take_length, htp, List.drop_zero, hcat _ rfl, Wz, JF]
  refine (Jb (by rw [h1]; rfl)).trans ((Jb (by rw [Nat.ble_eq]; exact h2)).trans ((Jb (by simp only [Jj, Nat.mul_one, Bool.and_true, decide_eq_true_eq, l1]; omega)).trans ((Jb (by rw [show (apT [] (tx b)).length + m.length = (apT [] (tx b) ++ m).length from (List.length_append).symm, JaY (by rw [List.length_append, l1]; omega)])).trans ((Jb h5).trans ((Jb (by rw [JK]; rfl)).trans ((Jb (by rw [JaY (by rw [l2, List.length_append, l1]; omega), Bool.true_and, Nat.ble_eq]; exact h6)).trans ?_))))))
  rw [hp]
  rw [JF]
theorem Jpa : Ji tau Try.prog 59 Jrx := Ji.mk' fun xs es k res hl hr => by
  change Jge xs es k = some res at hr
  unfold Jge at hr
  split at hr
  · rename_i bz bf b m at1 oz of o h mc
    obtain ⟨hc, hr⟩ := JI hr
    exact Qo Jr Jrv Js JvE JvF JmZ [] 0 0 (Jym 0) hl rfl ((e59 0 bz bf b m at1 oz of o h mc k).trans ((Jry bz bf b m at1 oz of o h mc hc k).trans hr))
  · cases hr
-- FN delta.Bytes | ref8.Bytes
structure DV where
  (ad au id ve : Int) (h : List PV) (kd : Int) (o : List PV) (wd wu : Int)
noncomputable def JiE (d : DV) : List Int := J4 d.ad ++ (J4 d.au ++ (J4 d.id ++ (J4 d.ve ++ (Je d.h ++ ([IntKind.u8.wrap d.kd] ++ (Qg (tx (pu .u8 (opB d.o))) ++ (J4 d.wd ++ J4 d.wu)))))))
noncomputable def dlB : DV → List Int := hid JiE
theorem Jdi (d : DV) : dlB d = JiE d := by rw [dlB, hid_eq]
noncomputable def dOk : DV → Bool := hid fun d => Jf .u8 d.h && (decide (d.h.length = 32) && (cBy d.o && decide ((opB d.o).length ≤ 65535)))
theorem X8 {d : DV} : dOk d = true ↔ Jf .u8 d.h = true ∧ d.h.length = 32 ∧ cBy d.o = true ∧ (opB d.o).length ≤ 65535 := by
  rw [dOk, hid_eq]; simp only [Bool.and_eq_true, decide_eq_true_eq]
theorem Ja2 {d : DV} (h : dOk d = true) : (dlB d).length = (opB d.o).length + 83 := by
  obtain ⟨h1, h2, h3, h4⟩ := X8.1 h
  rw [Jdi]
  simp only [JiE, List.length_append, Vx, QT, W4, Wz, JF, h2, List.length_cons, List.length_nil]; omega
theorem JkF {d : DV} (h : dOk d = true) : apI (apI (apT (apY (apI (apI (apI (apI [] d.ad) d.au) d.id) d.ve ++ List.take 32 d.h) d.kd) (tx (pu .u8 (opB d.o)))) d.wd) d.wu = pu .u8 (dlB d) := by
  obtain ⟨h1, h2, h3, h4⟩ := X8.1 h
  rw [Jdi, List.take_of_length_le (by omega)]
  simp only [Xg, YZ, ZX, JiE, JN, List.nil_append, List.append_assoc, ← Qa h1]
noncomputable def Jdj : List PV → List Ent → (Res → Option Res) → Option Res
  | [.st 73 [.st 45 [.sc (.int .i64 ad), .sc (.int .i64 au)], .sc (.int .i64 id1), .sc (.int .i64 ve), .ar 37 h, .sc (.int .i64 kd), .ro 99 oz of o, .st 45 [.sc (.int .i64 wd), .sc (.int .i64 wu)]]], [], k => bif dOk ⟨ad, au, id1, ve, h, kd, o, wd, wu⟩ then k ⟨.ro 5 false false (pu .u8 (dlB ⟨ad, au, id1, ve, h, kd, o, wd, wu⟩)), [], []⟩ else none
  | _, _, _ => none
noncomputable def Jpb : Sig := { own := [], run := Jdj }
theorem Jm1 (ad au id1 ve : Int) (h : List PV) (kd : Int) (oz of : Bool) (o : List PV) (wd wu : Int) (he : dOk ⟨ad, au, id1, ve, h, kd, o, wd, wu⟩ = true) (k : Res → Option Res) : Jrs 0 ad au id1 ve h kd oz of o wd wu k = k ⟨.ro 5 false false (pu .u8 (dlB ⟨ad, au, id1, ve, h, kd, o, wd, wu⟩)), [], []⟩ := by
  have hl := Ja2 he
  have hp := JkF he
  obtain ⟨h1, h2, h3, h4⟩ := X8.1 he
  simp only at hl hp h1 h2 h3 h4
  have ht : ∀ l : List PV, ByteArray.mk (Array.mk (Jl l)) = tx l := fun l => rfl
  have hm : List.take 32 h = h := List.take_of_length_le (by omega)
  have l1 : ∀ (L : List PV) (n : Int), (apY L n).length = L.length + 1 := Wy
  have l2 : ∀ (L : List PV) (n : Int), (apI L n).length = L.length + 8 := Zp
  have l3 : ∀ (L : List PV), (apT L (tx (pu .u8 (opB o)))).length = L.length + ((opB o).length + 2) := fun L => by rw [Xg]; simp [Wz]
  have htp : ∀ l : List Int, List.take l.length (pu .u8 l) = pu .u8 l := fun l => List.take_of_length_le (by simp)
  have hcat : ∀ L : List PV, List.take (L.length + h.length) (L ++ h) = L ++ h := fun L => List.take_of_length_le (by simp)
  rw [hm] at hp
  unfold Jrs
  simp only [ht, hm, List.take_length, htp, List.drop_zero, hcat, Wz, JF]
  refine (Jb (by rw [Y0]; rfl)).trans ((Jb (QN (by simp only [l2, List.length_nil]; omega))).trans ((Jb (QN (by simp only [l2, List.length_nil]; omega))).trans ((Jb (QN (by simp only [l2, List.length_nil]; omega))).trans ?_)))
  refine (Jb (by simp only [Jj, Nat.mul_one, Bool.and_true, decide_eq_true_eq, l2, List.length_nil]; omega)).trans ?_
  refine (Jb (by rw [QN (by simp only [List.length_append, l2, List.length_nil]; omega)])).trans ((Jb h3).trans ((Jb (by rw [JK]; rfl)).trans ?_))
  refine (Jb (by rw [QN (by simp only [l1, List.length_append, l2, List.length_nil]; omega), Bool.true_and, Nat.ble_eq]; exact h4)).trans ?_
  refine (Jb (QN (by rw [l3]; simp only [l1, List.length_append, l2, List.length_nil]; omega))).trans ?_
  refine (Jb (QN (by rw [l2, l3]; simp only [l1, List.length_append, l2, List.length_nil]; omega))).trans ?_
  rw [hp]
  try rfl
theorem Jrz : Ji tau Try.prog 101 Jpb := Ji.mk' fun xs es k res hl hr => by
  change Jdj xs es k = some res at hr
  unfold Jdj at hr
  split at hr
  · rename_i ad au id1 ve h kd oz of o wd wu
    obtain ⟨hc, hr⟩ := JI hr
    exact Qo Jr JmW Js Jo8 Jo9 JhN [.ro] 0 6 (JvA 0) hl rfl ((Jyi 0 ad au id1 ve h kd oz of o wd wu k).trans ((Jm1 ad au id1 ve h kd oz of o wd wu hc k).trans hr))
  · cases hr
noncomputable def JvH : Fns := F0
theorem Jm2 : Jz tau Try.prog JvH := JH
def JhO : An := (.seq .leaf (.seq (.seq .leaf (.cond (.seq .leaf .leaf) .leaf)) (.seq .leaf .leaf)))
noncomputable def Jm3 (f : Nat) (k0_z : Bool) (k0_f : Bool) (k0 : List PV) (k1_z : Bool) (k1_f : Bool) (k1 : List PV) (k2_z : Bool) (k2_f : Bool) (k2 : List PV) (d : Int) (k : Res → Option Res) : Option Res := bif decide (d < 0) then k (Res.mk (.tup [.ro 5 true true [], .sc (.bool false)]) [] []) else bif decide (d ≥ 3) then k (Res.mk (.tup [.ro 5 true true [], .sc (.bool false)]) [] []) else bif decide (0 ≤ d) && decide (d < zi 3) && true then bif PV.isRo 5 (Jm (PV.st 31 [.ro 5 k0_z k0_f k0, .ro 5 k1_z k1_f k1, .ro 5 k2_z k2_f k2]) [d.toNat]) && true then k (Res.mk (.tup [.ro 5 (Jm (PV.st 31 [.ro 5 k0_z k0_f k0, .ro 5 k1_z k1_f k1, .ro 5 k2_z k2_f k2]) [d.toNat]).nl (Jm (PV.st 31 [.ro 5 k0_z k0_f k0, .ro 5 k1_z k1_f k1, .ro 5 k2_z k2_f k2]) [d.toNat]).fl (Jm (PV.st 31 [.ro 5 k0_z k0_f k0, .ro 5 k1_z k1_f k1, .ro 5 k2_z k2_f k2]) [d.toNat]).els, .sc (.bool true)]) [] []) else none else none
theorem Jyn (f : Nat) (k0_z : Bool) (k0_f : Bool) (k0 : List PV) (k1_z : Bool) (k1_f : Bool) (k1 : List PV) (k2_z : Bool) (k2_f : Bool) (k2 : List PV) (d : Int) (k : Res → Option Res) : JR tau JvH Try.f102 (Try.f102.body.get!) JhO [.ro, .ro] 0 [.st 31 [.ro 5 k0_z k0_f k0, .ro 5 k1_z k1_f k1, .ro 5 k2_z k2_f k2], .sc (.int .i64 d)] [] k = Jm3 f k0_z k0_f k0 k1_z k1_f k1 k2_z k2_f k2 d k := by kernel_rfl
theorem JvI (f : Nat) : Jg (Try.f102.body.get!) JhO = [] := by kernel_rfl
theorem JvJ (f : Nat) : ∀ q ∈ Jg (Try.f102.body.get!) JhO, q.Ok tau Try.prog 0 := by
  rw [JvI f]; intro q hq; cases hq
theorem Jpc : Try.prog.funcs[102]? = some Try.f102 := by kernel_rfl
theorem Jpd : Try.f102.body = some (Try.f102.body.get!) := by kernel_rfl
theorem JhP : Enters Try.prog 102 := enters_of Jpc (by kernel_rfl) Jpd
noncomputable def Jgf : List PV → List Ent → (Res → Option Res) → Option Res
  | [.st 31 [.ro 5 k0_z k0_f k0, .ro 5 k1_z k1_f k1, .ro 5 k2_z k2_f k2], .sc (.int .i64 d)], [], k => Jm3 0 k0_z k0_f k0 k1_z k1_f k1 k2_z k2_f k2 d k
  | _, _, _ => none
noncomputable def Jyo : Sig := { own := [], run := Jgf }
theorem JvK : Ji tau Try.prog 102 Jyo := J3 Jr Jm2 Js Jpc Jpd JhO [.ro, .ro] 0 [] Jgf (JvJ 0) fun xs es k res hr => by
  unfold Jgf at hr
  split at hr
  · exact ⟨rfl, 0, (Jyn 0 _ _ _ _ _ _ _ _ _ _  _).trans hr⟩
  · cases hr
-- FN sign.key
noncomputable def kIn : Int → Bool := hid fun d => QM d 2
theorem Jgg (d : Int) : kIn d = QM d 2 := by rw [kIn, hid_eq]
noncomputable def Jdk : List PV → List Ent → (Res → Option Res) → Option Res
  | [.st 31 [.ro 5 z0 f0 k0, .ro 5 z1 f1 k1, .ro 5 z2 f2 k2], .sc (.int .i64 d)], [], k =>
    k ⟨.tup [.ro 5 (JpZ ⟨[.ro 5 z0 f0 k0, .ro 5 z1 f1 k1, .ro 5 z2 f2 k2], d⟩) (Jp0 ⟨[.ro 5 z0 f0 k0, .ro 5 z1 f1 k1, .ro 5 z2 f2 k2], d⟩) (Qs ⟨[.ro 5 z0 f0 k0, .ro 5 z1 f1 k1, .ro 5 z2 f2 k2], d⟩), .sc (.bool (kIn d))], [], []⟩
  | _, _, _ => none
noncomputable def JeM : Sig := { own := [], run := Jdk }
theorem Jdl : Ji tau Try.prog 102 JeM := JvK.of fun xs es k res hr => by
  change Jdk xs es k = some res at hr
  unfold Jdk at hr
  split at hr
  · rename_i z0 f0 k0 z1 f1 k1 z2 f2 k2 d
    show Jm3 0 z0 f0 k0 z1 f1 k1 z2 f2 k2 d k = some res
    rw [JlT, JlU, G0, Jgg] at hr
    unfold Jm3
    by_cases h1 : 0 ≤ d
    · refine (JL (by simp; omega)).trans ?_
      by_cases h2 : d ≤ 2
      · refine (JL (by simp; omega)).trans ?_
        refine (Jb (by simp [zi]; omega)).trans ?_
        have hi : QM d 2 = true := by simp [QM]; omega
        have hk : WL [.ro 5 z0 f0 k0, .ro 5 z1 f1 k1, .ro 5 z2 f2 k2] d = Jm (PV.st 31 [.ro 5 z0 f0 k0, .ro 5 z1 f1 k1, .ro 5 z2 f2 k2]) [d.toNat] := by unfold WL; rw [hi]; rfl
        simp only [hk, hi] at hr
        refine (Jb ?_).trans hr
        have : d = 0 ∨ d = 1 ∨ d = 2 := by omega
        rcases this with rfl | rfl | rfl <;> rfl
      · refine (Jb (by simp; omega)).trans ?_
        have hi : QM d 2 = false := by simp [QM]; omega
        have hk : WL [.ro 5 z0 f0 k0, .ro 5 z1 f1 k1, .ro 5 z2 f2 k2] d = .ro 5 true true [] := by unfold WL; rw [hi]; rfl
        simp only [hk, hi] at hr
        exact hr
    · refine (Jb (by simp; omega)).trans ?_
      have hi : QM d 2 = false := by simp [QM]; omega
      have hk : WL [.ro 5 z0 f0 k0, .ro 5 z1 f1 k1, .ro 5 z2 f2 k2] d = .ro 5 true true [] := by unfold WL; rw [hi]; rfl
      simp only [hk, hi] at hr
      exact hr
  · cases hr
noncomputable def F46 : Fns := JG 102 JeM (JG 101 Jpb (JG 80 JjT (F0)))
theorem JrA : Jz tau Try.prog F46 := (((JH).add Jhn Jmh).add Jrz JvB).add Jdl JhP
def Jm4 : An := (.seq .leaf (.seq .leaf (.seq .leaf (.seq .leaf .leaf))))
noncomputable def g46 (f : Nat) (k0_z : Bool) (k0_f : Bool) (k0 : List PV) (k1_z : Bool) (k1_f : Bool) (k1 : List PV) (k2_z : Bool) (k2_f : Bool) (k2 : List PV) (d_Author_D : Int) (d_Author_U : Int) (d_Id : Int) (d_Version : Int) (d_Hash : List PV) (d_Kind : Int) (d_Op_z : Bool) (d_Op_f : Bool) (d_Op : List PV) (d_Who_D : Int) (d_Who_U : Int) (k : Res → Option Res) : Option Res := bif dOk (DV.mk d_Author_D d_Author_U d_Id d_Version d_Hash d_Kind d_Op d_Who_D d_Who_U) then bif Jf IntKind.u8 (Qs (K3.mk [.ro 5 k0_z k0_f k0, .ro 5 k1_z k1_f k1, .ro 5 k2_z k2_f k2] d_Author_D)) && decide ((Qs (K3.mk [.ro 5 k0_z k0_f k0, .ro 5 k1_z k1_f k1, .ro 5 k2_z k2_f k2] d_Author_D)).length ≤ 1000000000) && (Jf IntKind.u8 (Jk [.ro 5 false false (pu IntKind.u8 (dlB (DV.mk d_Author_D d_Author_U d_Id d_Version d_Hash d_Kind d_Op d_Who_D d_Who_U)))]) && decide ((Jk [.ro 5 false false (pu IntKind.u8 (dlB (DV.mk d_Author_D d_Author_U d_Id d_Version d_Hash d_Kind d_Op d_Who_D d_Who_U)))]).length ≤ 1000000000)) && true then k (Res.mk (.st 77 [.ro 5 false false (pu IntKind.u8 (dlB (DV.mk d_Author_D d_Author_U d_Id d_Version d_Hash d_Kind d_Op d_Who_D d_Who_U))), .ar 37 (pu IntKind.u8 (Q1 (Je (Qs (K3.mk [.ro 5 k0_z k0_f k0, .ro 5 k1_z k1_f k1, .ro 5 k2_z k2_f k2] d_Author_D))) (Je (Jk [.ro 5 false false (pu IntKind.u8 (dlB (DV.mk d_Author_D d_Author_U d_Id d_Version d_Hash d_Kind d_Op d_Who_D d_Who_U)))]))))]) [] []) else none else none
theorem e46 (f : Nat) (k0_z : Bool) (k0_f : Bool) (k0 : List PV) (k1_z : Bool) (k1_f : Bool) (k1 : List PV) (k2_z : Bool) (k2_f : Bool) (k2 : List PV) (d_Author_D : Int) (d_Author_U : Int) (d_Id : Int) (d_Version : Int) (d_Hash : List PV) (d_Kind : Int) (d_Op_z : Bool) (d_Op_f : Bool) (d_Op : List PV) (d_Who_D : Int) (d_Who_U : Int) (k : Res → Option Res) : JR tau F46 Try.f46 (Try.f46.body.get!) Jm4 [.ro] 0 [.st 31 [.ro 5 k0_z k0_f k0, .ro 5 k1_z k1_f k1, .ro 5 k2_z k2_f k2], .st 73 [.st 45 [.sc (.int .i64 d_Author_D), .sc (.int .i64 d_Author_U)], .sc (.int .i64 d_Id), .sc (.int .i64 d_Version), .ar 37 d_Hash, .sc (.int .i64 d_Kind), .ro 99 d_Op_z d_Op_f d_Op, .st 45 [.sc (.int .i64 d_Who_D), .sc (.int .i64 d_Who_U)]]] [] k = g46 f k0_z k0_f k0 k1_z k1_f k1 k2_z k2_f k2 d_Author_D d_Author_U d_Id d_Version d_Hash d_Kind d_Op_z d_Op_f d_Op d_Who_D d_Who_U k := by kernel_rfl
theorem Jyp (f : Nat) : Jg (Try.f46.body.get!) Jm4 = [] := by kernel_rfl
theorem Jyq (f : Nat) : ∀ q ∈ Jg (Try.f46.body.get!) Jm4, q.Ok tau Try.prog 0 := by
  rw [Jyp f]; intro q hq; cases hq
theorem JvL : Try.prog.funcs[46]? = some Try.f46 := by kernel_rfl
theorem JvM : Try.f46.body = some (Try.f46.body.get!) := by kernel_rfl
theorem Jyr : Enters Try.prog 46 := enters_of JvL (by kernel_rfl) JvM
noncomputable def JkG : List PV → List Ent → (Res → Option Res) → Option Res
  | [.st 31 [.ro 5 k0_z k0_f k0, .ro 5 k1_z k1_f k1, .ro 5 k2_z k2_f k2], .st 73 [.st 45 [.sc (.int .i64 d_Author_D), .sc (.int .i64 d_Author_U)], .sc (.int .i64 d_Id), .sc (.int .i64 d_Version), .ar 37 d_Hash, .sc (.int .i64 d_Kind), .ro 99 d_Op_z d_Op_f d_Op, .st 45 [.sc (.int .i64 d_Who_D), .sc (.int .i64 d_Who_U)]]], [], k => g46 0 k0_z k0_f k0 k1_z k1_f k1 k2_z k2_f k2 d_Author_D d_Author_U d_Id d_Version d_Hash d_Kind d_Op_z d_Op_f d_Op d_Who_D d_Who_U k
  | _, _, _ => none
noncomputable def s46 : Sig := { own := [], run := JkG }
theorem Jys : Ji tau Try.prog 46 s46 := J3 Jr JrA Js JvL JvM Jm4 [.ro] 0 [] JkG (Jyq 0) fun xs es k res hr => by
  unfold JkG at hr
  split at hr
  · exact ⟨rfl, 0, (e46 0 _ _ _ _ _ _ _ _ _ _ _ _ _ _ _ _ _ _ _ _  _).trans hr⟩
  · cases hr
noncomputable def JvN : Fns := F0
theorem Jm5 : Jz tau Try.prog JvN := JH
def JhQ : An := (.seq .leaf (.seq (.seq .leaf (.cond (.seq .leaf .leaf) .leaf)) (.seq .leaf .leaf)))
noncomputable def JvO (f : Nat) (s_z : Bool) (s_f : Bool) (s : List PV) (k : Res → Option Res) : Option Res :=
  bif s_z then
    k (Res.mk (PV.ro 99 true true []) [] [])
  else bif Jj (0 + s.length) 32 && true then
    k (Res.mk (PV.ro 99 false false (List.take (0 + s.length) s)) [] [])
  else none
theorem Jyt (f : Nat) (s_z : Bool) (s_f : Bool) (s : List PV) (k : Res → Option Res) : JR tau JvN Try.f161 (Try.f161.body.get!) JhQ [.ro] 0 [.ro 99 s_z s_f s] [] k = JvO f s_z s_f s k := by kernel_rfl
theorem JvP (f : Nat) : Jg (Try.f161.body.get!) JhQ = [] := by kernel_rfl
theorem JvQ (f : Nat) : ∀ q ∈ Jg (Try.f161.body.get!) JhQ, q.Ok tau Try.prog 0 := by
  rw [JvP f]; intro q hq; cases hq
theorem Jpe : Try.prog.funcs[161]? = some Try.f161 := by kernel_rfl
theorem Jpf : Try.f161.body = some (Try.f161.body.get!) := by kernel_rfl
theorem JvR : Enters Try.prog 161 := enters_of Jpe (by kernel_rfl) Jpf
noncomputable def Jgh : List PV → List Ent → (Res → Option Res) → Option Res
  | [.ro 99 s_z s_f s], [], k => JvO 0 s_z s_f s k
  | _, _, _ => none
noncomputable def JvS : Sig := { own := [], run := Jgh }
theorem JvT : Ji tau Try.prog 161 JvS := J3 Jr Jm5 Js Jpe Jpf JhQ [.ro] 0 [] Jgh (JvQ 0) fun xs es k res hr => by
  unfold Jgh at hr
  split at hr
  · exact ⟨rfl, 0, (Jyt 0 _ _ _  _).trans hr⟩
  · cases hr
def Jbm : Nat := 50
noncomputable def JkH : Fns := JG 161 JvS (JG 160 Jkx (JG 135 Jjv (JG 134 JpK (JG 133 JpR (JG 132 JpQ (JG 78 s78 (JG 76 s76 (F0))))))))
theorem JhR : Jz tau Try.prog JkH := ((((((((JH).add Jsn Jsm).add Jtc Jtb).add JnM JnL).add JnQ JnP).add JnD JnC).add Jjw JnT).add Jky Jo6).add JvT JvR
noncomputable def Gg : Code := QA (Try.f143.body.get!) [1, 1, 1, 1, 1, 1, 0, 1, 0, 0]
def WA : Nm := [(4, .any), (5, .any), (6, .any), (7, .any), (9, .own), (25, .any), (26, .any)]
def W8 : Nm := [(4, .any), (9, .any)]
def Ja3 : An := (.seq .leaf (.seq (.cond .leaf .leaf) (.seq (.block none .leaf) .leaf)))
def JhS (r0 : Wg) : An := (.seq .leaf (.seq .leaf (.seq .leaf (.seq .leaf (.seq (.seq .leaf (.cond (.seq .leaf .leaf) .leaf)) (.seq .leaf (.seq (.seq .leaf (.block none (.sum WA Jbm r0))) (.seq .leaf (.seq (.seq .leaf (.cond .leaf .leaf)) (.seq (.seq .leaf (.cond (.seq .leaf .leaf) .leaf)) (.seq .leaf .leaf)))))))))))
noncomputable def Y6 (f : Nat) (rc : Nat → Int → Int → Bool → Bool → List PV → Int → Bool → List PV → Option Res) (k0 : Nat → Bool → Bool → List PV → Int → Bool → List PV → Option Res) (v0 : Nat) (v1 : Int) (v2 : Int) (v3 : Bool) (v4 : Bool) (v5 : List PV) (v6 : Int) (v7 : Bool) (v8 : List PV) : Option Res := bif decide (v2 < v1) then bif (!v3 || v4) && true && byB v5 then bif (!v3 || v4) && true && byB (Ja 1 (RS.mk v5 v6)).b then bif (!v3 || v4) && byB (Ja 8 (Ja 1 (RS.mk v5 v6))).b then bif Jj (v0 + 1) 32 && true then rc (v0 + 1) v1 (IntKind.i64.wrap (v2 + 1)) v3 v4 ((J2 (Ja 8 (Ja 1 (RS.mk v5 v6)))).b) ((J2 (Ja 8 (Ja 1 (RS.mk v5 v6)))).e) (v7 && false) (List.take v0 v8 ++ [.st 99 [.sc (.int .i64 (JA 1 (RS.mk v5 v6))), .sc (.int .i64 (JA 8 (Ja 1 (RS.mk v5 v6)))), .sc (.string (JQ (Ja 8 (Ja 1 (RS.mk v5 v6)))))]]) else none else none else none else none else k0 v0 v3 v4 v5 v6 v7 v8
noncomputable def Wc (f : Nat) (k0 : Nat → Bool → Bool → List PV → Int → Bool → List PV → Option Res) : Nat → Nat → Int → Int → Bool → Bool → List PV → Int → Bool → List PV → Option Res
  | 0, _, _, _, _, _, _, _, _, _ => none
  | n + 1, v0, v1, v2, v3, v4, v5, v6, v7, v8 => Y6 f (Wc f k0 n) k0 v0 v1 v2 v3 v4 v5 v6 v7 v8
theorem JkI (f : Nat) (k : Kont) (n : Nat) (v0 : Nat) (v1 : Int) (v2 : Int) (v3 : Bool) (v4 : Bool) (v5 : List PV) (v6 : Int) (v7 : Bool) (v8 : List PV) : Jo tau 0 WA (fun s k => ev tau JkH 0 0 Gg (Ja3 ) s k) (n + 1) (Jd WA Jbm [.ptr 816 [], PV.fn (Fn.func 133) [.ptr 816 []] [], PV.fn (Fn.func 132) [.ptr 816 []] [], PV.fn (Fn.func 135) [.ptr 816 []] [], .ow 99 817 [] 0 v0 none, .sc (.int .i64 v1), .sc (.int .i64 v2)] [(816, .box false 186 (PV.st 186 [.ro 5 v3 v4 v5, .sc (.int .i64 v6)])), (817, .vec false 99 v7 v8)]) (Jy tau 0 W8 k) = Y6 f (fun v0 v1 v2 v3 v4 v5 v6 v7 v8 => Jo tau 0 WA (fun s k => ev tau JkH 0 0 Gg (Ja3 ) s k) n (Jd WA Jbm [.ptr 816 [], PV.fn (Fn.func 133) [.ptr 816 []] [], PV.fn (Fn.func 132) [.ptr 816 []] [], PV.fn (Fn.func 135) [.ptr 816 []] [], .ow 99 817 [] 0 v0 none, .sc (.int .i64 v1), .sc (.int .i64 v2)] [(816, .box false 186 (PV.st 186 [.ro 5 v3 v4 v5, .sc (.int .i64 v6)])), (817, .vec false 99 v7 v8)]) (Jy tau 0 W8 k)) (fun x0 x1 x2 x3 x4 x5 x6 => k (Ex.exit 0) (Jd W8 Jbm [.ptr 816 [], .ow 99 817 [] 0 x0 none] [(816, .box false 186 (PV.st 186 [.ro 5 x1 x2 x3, .sc (.int .i64 x4)])), (817, .vec false 99 x5 x6)])) v0 v1 v2 v3 v4 v5 v6 v7 v8 := by kernel_rfl
theorem JeN (f : Nat) (k : Kont) : ∀ (n : Nat) (v0 : Nat) (v1 : Int) (v2 : Int) (v3 : Bool) (v4 : Bool) (v5 : List PV) (v6 : Int) (v7 : Bool) (v8 : List PV), Jo tau 0 WA (fun s k => ev tau JkH 0 0 Gg (Ja3 ) s k) n (Jd WA Jbm [.ptr 816 [], PV.fn (Fn.func 133) [.ptr 816 []] [], PV.fn (Fn.func 132) [.ptr 816 []] [], PV.fn (Fn.func 135) [.ptr 816 []] [], .ow 99 817 [] 0 v0 none, .sc (.int .i64 v1), .sc (.int .i64 v2)] [(816, .box false 186 (PV.st 186 [.ro 5 v3 v4 v5, .sc (.int .i64 v6)])), (817, .vec false 99 v7 v8)]) (Jy tau 0 W8 k) = Wc f (fun x0 x1 x2 x3 x4 x5 x6 => k (Ex.exit 0) (Jd W8 Jbm [.ptr 816 [], .ow 99 817 [] 0 x0 none] [(816, .box false 186 (PV.st 186 [.ro 5 x1 x2 x3, .sc (.int .i64 x4)])), (817, .vec false 99 x5 x6)])) n v0 v1 v2 v3 v4 v5 v6 v7 v8 | 0, _, _, _, _, _, _, _, _, _ => rfl | n + 1, v0, v1, v2, v3, v4, v5, v6, v7, v8 => (JkI f k n v0 v1 v2 v3 v4 v5 v6 v7 v8).trans (congrArg (fun r => Y6 f r (fun x0 x1 x2 x3 x4 x5 x6 => k (Ex.exit 0) (Jd W8 Jbm [.ptr 816 [], .ow 99 817 [] 0 x0 none] [(816, .box false 186 (PV.st 186 [.ro 5 x1 x2 x3, .sc (.int .i64 x4)])), (817, .vec false 99 x5 x6)])) v0 v1 v2 v3 v4 v5 v6 v7 v8) (by funext v0 v1 v2 v3 v4 v5 v6 v7 v8; exact JeN f k n v0 v1 v2 v3 v4 v5 v6 v7 v8))
noncomputable def Z1 (f : Nat) : List PV → List (Nat × Ent) → Kont → Option Res
  | [.ptr 816 [], PV.fn (Fn.func 133) [.ptr 816 []] [], PV.fn (Fn.func 132) [.ptr 816 []] [], PV.fn (Fn.func 135) [.ptr 816 []] [], .ow 99 817 [] 0 v0 none, .sc (.int .i64 v1),
  PV.sc
    (Value.int IntKind.i64
      v2)], [(816, .box false 186 (PV.st 186 [.ro 5 v3 v4 v5, .sc (.int .i64 v6)])),
  (817,
    Ent.vec false 99 v7
      v8)], k => Wc f (fun x0 x1 x2 x3 x4 x5 x6 => k (Ex.exit
  0) (Jd W8 Jbm [.ptr 816 [],
  PV.ow 99 817 [] 0 x0 none] [(816, .box false 186 (PV.st 186 [.ro 5 x1 x2 x3, .sc (.int .i64 x4)])), (817, .vec false 99 x5 x6)])) f v0 v1 v2 v3 v4 v5 v6 v7 v8
  | _, _, _ => none
theorem Jm6 (f : Nat) : Jg Gg Ja3 = [] := by kernel_rfl
theorem JrB (f : Nat) : (Item.l Gg WA Jbm (Z1 f)).Ok tau Try.prog 0 := JJ Jr JhR Js (x := Ja3) (nm2 := W8) (Jp _ _ (by rw [Jm6 f]; intro q hq; cases hq)) fun vs hp k res hr => by
  unfold Z1 at hr
  split at hr
  · exact ⟨f, 0, (JeN f _ f _ _ _ _ _ _ _ _ _ ).trans hr⟩
  · cases hr
noncomputable def JrC (f : Nat) (b_z : Bool) (b_f : Bool) (b : List PV) (k : Res → Option Res) : Option Res := bif slB b_z b then bif (!b_z || b_z) && true && byB b then bif decide (JA 1 (RS.mk b 0) > 40) then bif (Ja 1 (RS.mk b 0)).e == 0 then Wc f (fun x0_0 x1_0 x2_0 x3_0 x4_0 x5_0 x6_0 => bif x4_0 == 0 then bif decide (zi x3_0.length > 0) then k (Res.mk (.tup [.ro 99 true true [], .sc (.int .i64 9)]) [] []) else bif x4_0 == 0 then bif cOk (List.take x0_0 x6_0) then bif ckO (List.take x0_0 x6_0) != 0 then k (Res.mk (.tup [.ro 99 true true [], .sc (.int .i64 (ckO (List.take x0_0 x6_0)))]) [] []) else bif (Ent.vec false 99 x5_0 x6_0).nil then k (Res.mk (.tup [.ro 99 true true [], .sc (.int .i64 0)]) [] []) else bif Jj (0 + (List.take x0_0 x6_0).length) 32 && true then k (Res.mk (.tup [.ro 99 false false (List.take (0 + (List.take x0_0 x6_0).length) (List.take x0_0 x6_0)), .sc (.int .i64 0)]) [] []) else none else none else bif x4_0 != 0 then k (Res.mk (.tup [.ro 99 true true [], .sc (.int .i64 x4_0)]) [] []) else bif (Ent.vec false 99 x5_0 x6_0).nil then k (Res.mk (.tup [.ro 99 true true [], .sc (.int .i64 0)]) [] []) else bif Jj (0 + (List.take x0_0 x6_0).length) 32 && true then k (Res.mk (.tup [.ro 99 false false (List.take (0 + (List.take x0_0 x6_0).length) (List.take x0_0 x6_0)), .sc (.int .i64 0)]) [] []) else none else bif x4_0 == 0 then bif cOk (List.take x0_0 x6_0) then bif ckO (List.take x0_0 x6_0) != 0 then k (Res.mk (.tup [.ro 99 true true [], .sc (.int .i64 (ckO (List.take x0_0 x6_0)))]) [] []) else bif (Ent.vec false 99 x5_0 x6_0).nil then k (Res.mk (.tup [.ro 99 true true [], .sc (.int .i64 0)]) [] []) else bif Jj (0 + (List.take x0_0 x6_0).length) 32 && true then k (Res.mk (.tup [.ro 99 false false (List.take (0 + (List.take x0_0 x6_0).length) (List.take x0_0 x6_0)), .sc (.int .i64 0)]) [] []) else none else none else bif x4_0 != 0 then k (Res.mk (.tup [.ro 99 true true [], .sc (.int .i64 x4_0)]) [] []) else bif (Ent.vec false 99 x5_0 x6_0).nil then k (Res.mk (.tup [.ro 99 true true [], .sc (.int .i64 0)]) [] []) else bif Jj (0 + (List.take x0_0 x6_0).length) 32 && true then k (Res.mk (.tup [.ro 99 false false (List.take (0 + (List.take x0_0 x6_0).length) (List.take x0_0 x6_0)), .sc (.int .i64 0)]) [] []) else none) f (0) (0) (0) b_z b_z ((Ja 1 (RS.mk b 0)).b) (4) true ([]) else Wc f (fun x0_1 x1_1 x2_1 x3_1 x4_1 x5_1 x6_1 => bif x4_1 == 0 then bif decide (zi x3_1.length > 0) then k (Res.mk (.tup [.ro 99 true true [], .sc (.int .i64 9)]) [] []) else bif x4_1 == 0 then bif cOk (List.take x0_1 x6_1) then bif ckO (List.take x0_1 x6_1) != 0 then k (Res.mk (.tup [.ro 99 true true [], .sc (.int .i64 (ckO (List.take x0_1 x6_1)))]) [] []) else bif (Ent.vec false 99 x5_1 x6_1).nil then k (Res.mk (.tup [.ro 99 true true [], .sc (.int .i64 0)]) [] []) else bif Jj (0 + (List.take x0_1 x6_1).length) 32 && true then k (Res.mk (.tup [.ro 99 false false (List.take (0 + (List.take x0_1 x6_1).length) (List.take x0_1 x6_1)), .sc (.int .i64 0)]) [] []) else none else none else bif x4_1 != 0 then k (Res.mk (.tup [.ro 99 true true [], .sc (.int .i64 x4_1)]) [] []) else bif (Ent.vec false 99 x5_1 x6_1).nil then k (Res.mk (.tup [.ro 99 true true [], .sc (.int .i64 0)]) [] []) else bif Jj (0 + (List.take x0_1 x6_1).length) 32 && true then k (Res.mk (.tup [.ro 99 false false (List.take (0 + (List.take x0_1 x6_1).length) (List.take x0_1 x6_1)), .sc (.int .i64 0)]) [] []) else none else bif x4_1 == 0 then bif cOk (List.take x0_1 x6_1) then bif ckO (List.take x0_1 x6_1) != 0 then k (Res.mk (.tup [.ro 99 true true [], .sc (.int .i64 (ckO (List.take x0_1 x6_1)))]) [] []) else bif (Ent.vec false 99 x5_1 x6_1).nil then k (Res.mk (.tup [.ro 99 true true [], .sc (.int .i64 0)]) [] []) else bif Jj (0 + (List.take x0_1 x6_1).length) 32 && true then k (Res.mk (.tup [.ro 99 false false (List.take (0 + (List.take x0_1 x6_1).length) (List.take x0_1 x6_1)), .sc (.int .i64 0)]) [] []) else none else none else bif x4_1 != 0 then k (Res.mk (.tup [.ro 99 true true [], .sc (.int .i64 x4_1)]) [] []) else bif (Ent.vec false 99 x5_1 x6_1).nil then k (Res.mk (.tup [.ro 99 true true [], .sc (.int .i64 0)]) [] []) else bif Jj (0 + (List.take x0_1 x6_1).length) 32 && true then k (Res.mk (.tup [.ro 99 false false (List.take (0 + (List.take x0_1 x6_1).length) (List.take x0_1 x6_1)), .sc (.int .i64 0)]) [] []) else none) f (0) (0) (0) b_z b_z ((Ja 1 (RS.mk b 0)).b) ((Ja 1 (RS.mk b 0)).e) true ([]) else Wc f (fun x0_2 x1_2 x2_2 x3_2 x4_2 x5_2 x6_2 => bif x4_2 == 0 then bif decide (zi x3_2.length > 0) then k (Res.mk (.tup [.ro 99 true true [], .sc (.int .i64 9)]) [] []) else bif x4_2 == 0 then bif cOk (List.take x0_2 x6_2) then bif ckO (List.take x0_2 x6_2) != 0 then k (Res.mk (.tup [.ro 99 true true [], .sc (.int .i64 (ckO (List.take x0_2 x6_2)))]) [] []) else bif (Ent.vec false 99 x5_2 x6_2).nil then k (Res.mk (.tup [.ro 99 true true [], .sc (.int .i64 0)]) [] []) else bif Jj (0 + (List.take x0_2 x6_2).length) 32 && true then k (Res.mk (.tup [.ro 99 false false (List.take (0 + (List.take x0_2 x6_2).length) (List.take x0_2 x6_2)), .sc (.int .i64 0)]) [] []) else none else none else bif x4_2 != 0 then k (Res.mk (.tup [.ro 99 true true [], .sc (.int .i64 x4_2)]) [] []) else bif (Ent.vec false 99 x5_2 x6_2).nil then k (Res.mk (.tup [.ro 99 true true [], .sc (.int .i64 0)]) [] []) else bif Jj (0 + (List.take x0_2 x6_2).length) 32 && true then k (Res.mk (.tup [.ro 99 false false (List.take (0 + (List.take x0_2 x6_2).length) (List.take x0_2 x6_2)), .sc (.int .i64 0)]) [] []) else none else bif x4_2 == 0 then bif cOk (List.take x0_2 x6_2) then bif ckO (List.take x0_2 x6_2) != 0 then k (Res.mk (.tup [.ro 99 true true [], .sc (.int .i64 (ckO (List.take x0_2 x6_2)))]) [] []) else bif (Ent.vec false 99 x5_2 x6_2).nil then k (Res.mk (.tup [.ro 99 true true [], .sc (.int .i64 0)]) [] []) else bif Jj (0 + (List.take x0_2 x6_2).length) 32 && true then k (Res.mk (.tup [.ro 99 false false (List.take (0 + (List.take x0_2 x6_2).length) (List.take x0_2 x6_2)), .sc (.int .i64 0)]) [] []) else none else none else bif x4_2 != 0 then k (Res.mk (.tup [.ro 99 true true [], .sc (.int .i64 x4_2)]) [] []) else bif (Ent.vec false 99 x5_2 x6_2).nil then k (Res.mk (.tup [.ro 99 true true [], .sc (.int .i64 0)]) [] []) else bif Jj (0 + (List.take x0_2 x6_2).length) 32 && true then k (Res.mk (.tup [.ro 99 false false (List.take (0 + (List.take x0_2 x6_2).length) (List.take x0_2 x6_2)), .sc (.int .i64 0)]) [] []) else none) f (0) (JA 1 (RS.mk b 0)) (0) b_z b_z ((Ja 1 (RS.mk b 0)).b) ((Ja 1 (RS.mk b 0)).e) true ([]) else none else none
theorem Jyu (f : Nat) (b_z : Bool) (b_f : Bool) (b : List PV) (k : Res → Option Res) : JR tau JkH Try.f143 (Try.f143.body.get!) (JhS (Z1 f)) [.ro, .ro] 0 [.ro 5 b_z b_f b] [] k = JrC f b_z b_f b k := by kernel_rfl
theorem JvU (f : Nat) : Jg (Try.f143.body.get!) (JhS (Z1 f)) = [.l Gg WA Jbm (Z1 f)] := by kernel_rfl
theorem JvV (f : Nat) : ∀ q ∈ Jg (Try.f143.body.get!) (JhS (Z1 f)), q.Ok tau Try.prog 0 := by
  rw [JvU f]; simp only [List.forall_mem_cons, List.not_mem_nil, false_implies, implies_true, and_true]; exact JrB f
theorem Jpg : Try.prog.funcs[143]? = some Try.f143 := by kernel_rfl
theorem Jph : Try.f143.body = some (Try.f143.body.get!) := by kernel_rfl
theorem JvW : Enters Try.prog 143 := enters_of Jpg (by kernel_rfl) Jph




-- FN delta.OpParse | ref8.OpParse
noncomputable def cpN (s : RS) : RS := J2 (Ja 8 (Ja 1 s))
noncomputable def cpV (s : RS) : PV := .st 99 [.sc (.int .i64 (JA 1 s)), .sc (.int .i64 (JA 8 (Ja 1 s))), .sc (.string (JQ (Ja 8 (Ja 1 s))))]
noncomputable def cpR : Nat → RS → RS
  | 0, s => s
  | n + 1, s => cpR n (cpN s)
noncomputable def cpL : Nat → RS → List PV
  | 0, _ => []
  | n + 1, s => cpV s :: cpL n (cpN s)
theorem Z2 : ∀ (n : Nat) (s : RS), (cpL n s).length = n
  | 0, _ => rfl
  | n + 1, s => by rw [cpL, List.length_cons, Z2 n]
theorem JkJ : ∀ (n : Nat) (s : RS), (cpL n s).all Y4 = true
  | 0, _ => rfl
  | n + 1, s => by rw [cpL, List.all_cons, JkJ n, Bool.and_true]; exact JaX.2 ⟨_, _, _, rfl⟩
theorem Jm7 {s : RS} (h : byB s.b = true) : byB (cpN s).b = true := Jg6 (Qr (Qr h 1) 8)
noncomputable def opN (b : List PV) : Nat := bif decide (JA 1 ⟨b, 0⟩ > 40) then 0 else (JA 1 ⟨b, 0⟩).toNat
noncomputable def opS (b : List PV) : RS := bif decide (JA 1 ⟨b, 0⟩ > 40) then JbN 4 (Ja 1 ⟨b, 0⟩) else Ja 1 ⟨b, 0⟩
noncomputable def VM (b : List PV) : Int := bif (cpR (opN b) (opS b)).e == 0 then (bif decide ((cpR (opN b) (opS b)).b.length > 0) then 9 else ckO (cpL (opN b) (opS b))) else (cpR (opN b) (opS b)).e
noncomputable def opE : List PV → Int := hid VM
noncomputable def opL : List PV → List PV := hid fun b => bif VM b == 0 then cpL (opN b) (opS b) else []
theorem Jgi (b : List PV) : opE b = VM b := by rw [opE, hid_eq]
theorem Jdm (b : List PV) : opL b = bif VM b == 0 then cpL (opN b) (opS b) else [] := by rw [opL, hid_eq]
def Y7 (e : Int) : PV := .tup [.ro 99 true true [], .sc (.int .i64 e)]
noncomputable def opP (b : List PV) : PV := .tup [.ro 99 (opL b).isEmpty (opL b).isEmpty (opL b), .sc (.int .i64 (opE b))]
theorem Jdn {b : List PV} {e : Int} (h : VM b = e) (h0 : (e == 0) = false) : opP b = Y7 e := by
  simp only [opP, Y7, Jdm, Jgi, h, h0, cond_false, List.isEmpty_nil]
theorem JrD {b : List PV} (h : VM b = 0) : opP b = .tup [.ro 99 (cpL (opN b) (opS b)).isEmpty (cpL (opN b) (opS b)).isEmpty (cpL (opN b) (opS b)), .sc (.int .i64 0)] := by
  simp only [opP, Jdm, Jgi, h, beq_self_eq_true, cond_true]
theorem JkK {b : List PV} (h : byB b = true) : opN b ≤ 40 := by
  unfold opN
  have h0 : 0 ≤ JA 1 ⟨b, 0⟩ := by rw [WU]; exact (XD (s := ⟨b, 0⟩) h (n := 1) (by omega)).1
  cases hc : decide (JA 1 ⟨b, 0⟩ > 40) with
  | true => exact Nat.zero_le _
  | false => have : ¬ JA 1 ⟨b, 0⟩ > 40 := by simpa using hc
             rw [cond_false]; omega
theorem Jm8 {b : List PV} (h : byB b = true) : byB (opS b).b = true := by
  have := Qr (s := ⟨b, 0⟩) h 1
  unfold opS JbN
  cases decide (JA 1 ⟨b, 0⟩ > 40) <;> exact this
theorem JhT {n : Nat} (h : n ≤ 40) (s : RS) : cOk (cpL n s) = true := Jdd.2 ⟨JkJ n s, by rw [Z2]; omega⟩
theorem JkL (f : Nat) (k0 : Nat → Bool → Bool → List PV → Int → Bool → List PV → Option Res) (z fl : Bool) (hz : (!z || fl) = true) (N : Nat) (hN : N ≤ 40) : ∀ (d i n : Nat) (s : RS) (nl : Bool) (L : List PV), i + d = N → d < n → byB s.b = true → L.length = i →
    Wc f k0 n L.length (N : Int) (i : Int) z fl s.b s.e nl L = k0 (L ++ cpL d s).length z fl (cpR d s).b (cpR d s).e (nl && (cpL d s).isEmpty) (L ++ cpL d s)
  | 0, i, n + 1, s, nl, L, h, hn, hb, hL => by
      obtain rfl : i = N := by omega
      simp only [Wc, Y6, cpR, cpL, List.append_nil, List.isEmpty_nil, Bool.and_true]
      exact JL (by simp)
  | d + 1, i, n + 1, s, nl, L, h, hn, hb, hL => by
      have w : IntKind.i64.wrap ((i : Int) + 1) = ((i + 1 : Nat) : Int) := by rw [wrap_i64 (by omega) (by omega)]; omega
      have hm : RS.mk s.b s.e = s := rfl
      have hn1 : J2 (Ja 8 (Ja 1 s)) = cpN s := rfl
      have hv1 : PV.st 99 [.sc (.int .i64 (JA 1 s)), .sc (.int .i64 (JA 8 (Ja 1 s))), .sc (.string (JQ (Ja 8 (Ja 1 s))))] = cpV s := rfl
      simp only [Wc, Y6, w, hm, hn1, hv1, List.take_length]
      refine (Jb (by simp; omega)).trans ((Jb (by rw [hb, hz]; rfl)).trans ((Jb (by rw [Qr hb 1, hz]; rfl)).trans ((Jb (by rw [Qr (Qr hb 1) 8, hz]; rfl)).trans ((Jb (by simp [Jj]; omega)).trans ?_))))
      have := JkL f k0 z fl hz N hN d (i + 1) n (cpN s) (nl && false) (L ++ [cpV s]) (by omega) (by omega) (Jm7 hb) (by simp [hL])
      rw [List.length_append] at this
      refine Eq.trans this ?_
      simp only [cpR, cpL, Bool.and_false, Bool.false_and, List.isEmpty_cons, List.append_assoc, List.cons_append, List.nil_append]
theorem Jm9 (z f : Bool) (b : List PV) (hz : slB z b = true) (hb : byB b = true) (k : Res → Option Res) :
    JrC 50 z f b k = k ⟨opP b, [], []⟩ := by
  have hE : VM b = VM b := rfl
  conv at hE => rhs; unfold VM
  have hN := JkK hb
  have hS := Jm8 hb
  have key : ∀ (N : Nat) (s : RS) (K : Nat → Bool → Bool → List PV → Int → Bool → List PV → Option Res), opN b = N → opS b = s →
      (∀ (e : Int) (x1 x2 : Bool), VM b = (bif (cpR N s).e == 0 then (bif decide ((cpR N s).b.length > 0) then 9 else ckO (cpL N s)) else (cpR N s).e) → K (cpL N s).length x1 x2 (cpR N s).b (cpR N s).e (true && (cpL N s).isEmpty) ([] ++ cpL N s) = k ⟨opP b, [], []⟩) →
      Wc 50 K 50 0 (N : Int) 0 z z s.b s.e true [] = k ⟨opP b, [], []⟩ := by
    intro N s K h1 h2 h3
    subst h1; subst h2
    refine (JkL 50 K z z (by cases z <;> rfl) (opN b) hN (opN b) 0 50 (opS b) true [] (by omega) (by omega) hS rfl).trans ?_
    exact h3 0 z z hE
  have fin : ∀ (N : Nat) (s : RS), opN b = N → opS b = s → VM b = (bif (cpR N s).e == 0 then (bif decide ((cpR N s).b.length > 0) then 9 else ckO (cpL N s)) else (cpR N s).e) →
      (bif (cpR N s).e == 0 then
        bif decide (zi (cpR N s).b.length > 0) then k ⟨Y7 9, [], []⟩
        else bif (cpR N s).e == 0 then
          bif cOk (List.take (cpL N s).length ([] ++ cpL N s)) then
            bif ckO (List.take (cpL N s).length ([] ++ cpL N s)) != 0 then k ⟨Y7 (ckO (List.take (cpL N s).length ([] ++ cpL N s))), [], []⟩
            else bif (Ent.vec false 99 (true && (cpL N s).isEmpty) ([] ++ cpL N s)).nil then k ⟨Y7 0, [], []⟩
            else bif Jj (0 + (List.take (cpL N s).length ([] ++ cpL N s)).length) 32 && true then k ⟨.tup [.ro 99 false false (List.take (0 + (List.take (cpL N s).length ([] ++ cpL N s)).length) (List.take (cpL N s).length ([] ++ cpL N s))), .sc (.int .i64 0)], [], []⟩ else none
          else none
        else bif (cpR N s).e != 0 then k ⟨Y7 (cpR N s).e, [], []⟩
        else bif (Ent.vec false 99 (true && (cpL N s).isEmpty) ([] ++ cpL N s)).nil then k ⟨Y7 0, [], []⟩
            else bif Jj (0 + (List.take (cpL N s).length ([] ++ cpL N s)).length) 32 && true then k ⟨.tup [.ro 99 false false (List.take (0 + (List.take (cpL N s).length ([] ++ cpL N s)).length) (List.take (cpL N s).length ([] ++ cpL N s))), .sc (.int .i64 0)], [], []⟩ else none
      else bif (cpR N s).e == 0 then
          bif cOk (List.take (cpL N s).length ([] ++ cpL N s)) then
            bif ckO (List.take (cpL N s).length ([] ++ cpL N s)) != 0 then k ⟨Y7 (ckO (List.take (cpL N s).length ([] ++ cpL N s))), [], []⟩
            else bif (Ent.vec false 99 (true && (cpL N s).isEmpty) ([] ++ cpL N s)).nil then k ⟨Y7 0, [], []⟩
            else bif Jj (0 + (List.take (cpL N s).length ([] ++ cpL N s)).length) 32 && true then k ⟨.tup [.ro 99 false false (List.take (0 + (List.take (cpL N s).length ([] ++ cpL N s)).length) (List.take (cpL N s).length ([] ++ cpL N s))), .sc (.int .i64 0)], [], []⟩ else none
          else none
        else bif (cpR N s).e != 0 then k ⟨Y7 (cpR N s).e, [], []⟩
        else bif (Ent.vec false 99 (true && (cpL N s).isEmpty) ([] ++ cpL N s)).nil then k ⟨Y7 0, [], []⟩
            else bif Jj (0 + (List.take (cpL N s).length ([] ++ cpL N s)).length) 32 && true then k ⟨.tup [.ro 99 false false (List.take (0 + (List.take (cpL N s).length ([] ++ cpL N s)).length) (List.take (cpL N s).length ([] ++ cpL N s))), .sc (.int .i64 0)], [], []⟩ else none) = k ⟨opP b, [], []⟩ := by
    intro N s h1 h2 h3
    have hco : cOk (cpL N s) = true := JhT (by omega) s
    have hnl : (Ent.vec false 99 (cpL N s).isEmpty (cpL N s)).nil = (cpL N s).isEmpty := by simp [Ent.nil]
    have hlen : (cpL N s).length ≤ 40 := by rw [Z2]; omega
    have hz9 : decide (zi (cpR N s).b.length > 0) = decide ((cpR N s).b.length > 0) := by apply decide_eq_decide.2; simp only [zi]; omega
    simp only [List.nil_append, List.take_length, Bool.true_and, Nat.zero_add, hco, hnl, hz9, cond_true]
    cases he : ((cpR N s).e == 0) with
    | false =>
      rw [he, cond_false] at h3
      rw [Jdn h3 he]
      simp only [cond_false]
      exact Jb (by rw [bne, he]; rfl)
    | true =>
      rw [he, cond_true] at h3
      cases h9 : decide ((cpR N s).b.length > 0) with
      | true =>
        rw [h9, cond_true] at h3
        rw [Jdn h3 (by decide)]
        rfl
      | false =>
        rw [h9, cond_false] at h3
        simp only [cond_true, cond_false]
        cases hc : (ckO (cpL N s) == 0) with
        | false =>
          rw [Jdn h3 hc]
          exact Jb (by rw [bne, hc]; rfl)
        | true =>
          have hc' : ckO (cpL N s) = 0 := by simpa using hc
          rw [hc'] at h3
          rw [JrD h3, h1, h2]
          refine (JL (by rw [bne, hc]; rfl)).trans ?_
          cases hl : cpL N s with
          | nil => rfl
          | cons p ps =>
            rw [hl] at hlen
            refine (JL rfl).trans ((Jb (by simp [Jj] at hlen ⊢; omega)).trans rfl)
  unfold JrC
  refine (Jb hz).trans ((Jb (by rw [hb]; cases z <;> rfl)).trans ?_)
  have h0 : 0 ≤ JA 1 ⟨b, 0⟩ := by rw [WU]; exact (XD (s := ⟨b, 0⟩) hb (n := 1) (by omega)).1
  cases h4 : decide (JA 1 ⟨b, 0⟩ > 40) with
  | true =>
    have hN0 : opN b = 0 := by unfold opN; rw [h4]; rfl
    have hS0 : opS b = JbN 4 (Ja 1 ⟨b, 0⟩) := by unfold opS; rw [h4]; rfl
    rw [cond_true]
    cases he : ((Ja 1 ⟨b, 0⟩).e == 0) with
    | true =>
      rw [cond_true]
      have hs : opS b = ⟨(Ja 1 ⟨b, 0⟩).b, 4⟩ := by rw [hS0]; unfold JbN; rw [he]; rfl
      exact key 0 ⟨(Ja 1 ⟨b, 0⟩).b, 4⟩ _ hN0 hs fun _ _ _ h => fin 0 _ hN0 hs h
    | false =>
      rw [cond_false]
      have hs : opS b = ⟨(Ja 1 ⟨b, 0⟩).b, (Ja 1 ⟨b, 0⟩).e⟩ := by rw [hS0]; unfold JbN; rw [he]; rfl
      exact key 0 ⟨(Ja 1 ⟨b, 0⟩).b, (Ja 1 ⟨b, 0⟩).e⟩ _ hN0 hs fun _ _ _ h => fin 0 _ hN0 hs h
  | false =>
    have hN0 : opN b = (JA 1 ⟨b, 0⟩).toNat := by unfold opN; rw [h4]; rfl
    have hS0 : opS b = Ja 1 ⟨b, 0⟩ := by unfold opS; rw [h4]; rfl
    rw [cond_false]
    have q := fun K hK => key (JA 1 ⟨b, 0⟩).toNat (Ja 1 ⟨b, 0⟩) K hN0 hS0 hK
    rw [Int.toNat_of_nonneg h0] at q
    exact q _ fun _ _ _ h => fin _ _ hN0 hS0 h
noncomputable def Jdo : List PV → List Ent → (Res → Option Res) → Option Res
  | [.ro 5 z f b], [], k => bif slB z b && byB b then k ⟨opP b, [], []⟩ else none
  | _, _, _ => none
noncomputable def Jpi : Sig := { own := [], run := Jdo }
theorem JrE : Ji tau Try.prog 143 Jpi := Ji.mk' fun xs es k res hl hr => by
  change Jdo xs es k = some res at hr
  unfold Jdo at hr
  split at hr
  · rename_i z f b
    obtain ⟨hc, hr⟩ := JI hr
    rw [Bool.and_eq_true] at hc
    have hg := (Jm9 z f b hc.1 hc.2 k).trans hr
    exact Qo Jr JhR Js Jpg Jph (JhS (Z1 50)) [.ro, .ro] 0 0 (JvV 50) hl rfl ((Jyu 50 z f b k).trans hg)
  · cases hr
/-! The document's. -/
noncomputable def JvX : Fns := F0
theorem Jna : Jz tau Try.prog JvX := JH
def JhU : An := (.seq .leaf (.seq .leaf .leaf))
noncomputable def JvY (f : Nat) (n : Int) (most : Int) (k : Res → Option Res) : Option Res :=
  bif decide (n ≥ 0) then
    k (Res.mk (PV.sc (Value.bool (decide (n ≤ most)))) [] [])
  else k (Res.mk (PV.sc (Value.bool false)) [] [])
theorem Jyv (f : Nat) (n : Int) (most : Int) (k : Res → Option Res) : JR tau JvX Try.f163 (Try.f163.body.get!) JhU [.ro] 0 [.sc (.int .i64 n), .sc (.int .i64 most)] [] k = JvY f n most k := by kernel_rfl
theorem JvZ (f : Nat) : Jg (Try.f163.body.get!) JhU = [] := by kernel_rfl
theorem Jv0 (f : Nat) : ∀ q ∈ Jg (Try.f163.body.get!) JhU, q.Ok tau Try.prog 0 := by
  rw [JvZ f]; intro q hq; cases hq
theorem Jpj : Try.prog.funcs[163]? = some Try.f163 := by kernel_rfl
theorem Jpk : Try.f163.body = some (Try.f163.body.get!) := by kernel_rfl
theorem Jpl : Enters Try.prog 163 := enters_of Jpj (by kernel_rfl) Jpk
noncomputable def Jgj : List PV → List Ent → (Res → Option Res) → Option Res
  | [.sc (.int .i64 n), .sc (.int .i64 most)], [], k => JvY 0 n most k
  | _, _, _ => none
noncomputable def JrF : Sig := { own := [], run := Jgj }
theorem Jpm : Ji tau Try.prog 163 JrF := J3 Jr Jna Js Jpj Jpk JhU [.ro] 0 [] Jgj (Jv0 0) fun xs es k res hr => by
  unfold Jgj at hr
  split at hr
  · exact ⟨rfl, 0, (Jyv 0 _ _  _).trans hr⟩
  · cases hr
noncomputable def Jv1 : Fns := JG 163 JrF (F0)
theorem Jnb : Jz tau Try.prog Jv1 := (JH).add Jpm Jpl
def JhV : An := (.seq .leaf (.seq .leaf .leaf))
noncomputable def Jv2 (f : Nat) (a_D : Int) (a_U : Int) (k : Res → Option Res) : Option Res :=
  bif decide (a_D ≥ 0) then
    bif decide (a_D ≤ 2) then
      bif decide (a_U ≥ 0) then
        k (Res.mk (PV.sc (Value.bool (decide (a_U ≤ 7)))) [] [])
      else k (Res.mk (PV.sc (Value.bool false)) [] [])
    else k (Res.mk (PV.sc (Value.bool false)) [] [])
  else k (Res.mk (PV.sc (Value.bool false)) [] [])
theorem Jyw (f : Nat) (a_D : Int) (a_U : Int) (k : Res → Option Res) : JR tau Jv1 Try.f162 (Try.f162.body.get!) JhV [.ro] 0 [.st 45 [.sc (.int .i64 a_D), .sc (.int .i64 a_U)]] [] k = Jv2 f a_D a_U k := by kernel_rfl
theorem Jv3 (f : Nat) : Jg (Try.f162.body.get!) JhV = [] := by kernel_rfl
theorem Jv4 (f : Nat) : ∀ q ∈ Jg (Try.f162.body.get!) JhV, q.Ok tau Try.prog 0 := by
  rw [Jv3 f]; intro q hq; cases hq
theorem Jpn : Try.prog.funcs[162]? = some Try.f162 := by kernel_rfl
theorem Jpo : Try.f162.body = some (Try.f162.body.get!) := by kernel_rfl
theorem Jv5 : Enters Try.prog 162 := enters_of Jpn (by kernel_rfl) Jpo
noncomputable def Jgk : List PV → List Ent → (Res → Option Res) → Option Res
  | [.st 45 [.sc (.int .i64 a_D), .sc (.int .i64 a_U)]], [], k => Jv2 0 a_D a_U k
  | _, _, _ => none
noncomputable def Jv6 : Sig := { own := [], run := Jgk }
theorem Jv7 : Ji tau Try.prog 162 Jv6 := J3 Jr Jnb Js Jpn Jpo JhV [.ro] 0 [] Jgk (Jv4 0) fun xs es k res hr => by
  unfold Jgk at hr
  split at hr
  · exact ⟨rfl, 0, (Jyw 0 _ _  _).trans hr⟩
  · cases hr
noncomputable def Jv8 : Fns := JG 163 JrF (JG 162 Jv6 (JG 160 Jkx (F0)))
theorem Jnc : Jz tau Try.prog Jv8 := (((JH).add Jky Jo6).add Jv7 Jv5).add Jpm Jpl
def JhW : An := (.seq .leaf (.seq (.seq .leaf (.cond (.seq .leaf .leaf) .leaf)) (.seq (.seq .leaf (.block none (.seq .leaf (.cond (.seq (.seq .leaf (.seq .leaf (.cond (.seq .leaf .leaf) .leaf))) (.seq .leaf (.cond (.seq .leaf .leaf) .leaf))) (.seq (.seq .leaf (.cond .leaf .leaf)) (.cond (.seq .leaf (.cond (.seq .leaf .leaf) .leaf)) (.seq .leaf .leaf))))))) (.seq .leaf .leaf))))
noncomputable def Jnd (f : Nat) (d_Author_D : Int) (d_Author_U : Int) (d_Id : Int) (d_Version : Int) (d_Hash : List PV) (d_Kind : Int) (d_Op_z : Bool) (d_Op_f : Bool) (d_Op : List PV) (d_Who_D : Int) (d_Who_U : Int) (k : Res → Option Res) : Option Res := bif decide (d_Author_D ≥ 0) then bif decide (d_Author_D ≤ 2) then bif decide (d_Author_U ≥ 0) then bif !decide (d_Author_U ≤ 7) then k (Res.mk (.sc (.int .i64 1)) [] []) else bif decide (d_Id ≥ 0) then bif !decide (d_Id ≤ 1073741824) then k (Res.mk (.sc (.int .i64 1)) [] []) else bif decide (d_Version ≥ 0) then bif !decide (d_Version ≤ 1048576) then k (Res.mk (.sc (.int .i64 1)) [] []) else bif d_Kind == 1 then bif cOk d_Op then bif ckO d_Op != 0 then k (Res.mk (.sc (.int .i64 (ckO d_Op))) [] []) else bif !(d_Who_D == 0 && (d_Who_U == 0 && true)) then k (Res.mk (.sc (.int .i64 1)) [] []) else k (Res.mk (.sc (.int .i64 0)) [] []) else none else bif d_Kind == 2 then bif d_Kind == 2 then bif decide (zi d_Op.length > 0) then k (Res.mk (.sc (.int .i64 1)) [] []) else bif decide (d_Who_D ≥ 0) then bif decide (d_Who_D ≤ 2) then bif decide (d_Who_U ≥ 0) then bif !decide (d_Who_U ≤ 7) then k (Res.mk (.sc (.int .i64 1)) [] []) else k (Res.mk (.sc (.int .i64 0)) [] []) else k (Res.mk (.sc (.int .i64 1)) [] []) else k (Res.mk (.sc (.int .i64 1)) [] []) else k (Res.mk (.sc (.int .i64 1)) [] []) else k (Res.mk (.sc (.int .i64 3)) [] []) else bif d_Kind == 3 then bif decide (zi d_Op.length > 0) then k (Res.mk (.sc (.int .i64 1)) [] []) else bif decide (d_Who_D ≥ 0) then bif decide (d_Who_D ≤ 2) then bif decide (d_Who_U ≥ 0) then bif !decide (d_Who_U ≤ 7) then k (Res.mk (.sc (.int .i64 1)) [] []) else k (Res.mk (.sc (.int .i64 0)) [] []) else k (Res.mk (.sc (.int .i64 1)) [] []) else k (Res.mk (.sc (.int .i64 1)) [] []) else k (Res.mk (.sc (.int .i64 1)) [] []) else k (Res.mk (.sc (.int .i64 3)) [] []) else k (Res.mk (.sc (.int .i64 1)) [] []) else k (Res.mk (.sc (.int .i64 1)) [] []) else k (Res.mk (.sc (.int .i64 1)) [] []) else k (Res.mk (.sc (.int .i64 1)) [] []) else k (Res.mk (.sc (.int .i64 1)) [] [])
theorem Jyx (f : Nat) (d_Author_D : Int) (d_Author_U : Int) (d_Id : Int) (d_Version : Int) (d_Hash : List PV) (d_Kind : Int) (d_Op_z : Bool) (d_Op_f : Bool) (d_Op : List PV) (d_Who_D : Int) (d_Who_U : Int) (k : Res → Option Res) : JR tau Jv8 Try.f144 (Try.f144.body.get!) JhW [.ro] 0 [.st 73 [.st 45 [.sc (.int .i64 d_Author_D), .sc (.int .i64 d_Author_U)], .sc (.int .i64 d_Id), .sc (.int .i64 d_Version), .ar 37 d_Hash, .sc (.int .i64 d_Kind), .ro 99 d_Op_z d_Op_f d_Op, .st 45 [.sc (.int .i64 d_Who_D), .sc (.int .i64 d_Who_U)]]] [] k = Jnd f d_Author_D d_Author_U d_Id d_Version d_Hash d_Kind d_Op_z d_Op_f d_Op d_Who_D d_Who_U k := by kernel_rfl
theorem Jv9 (f : Nat) : Jg (Try.f144.body.get!) JhW = [] := by kernel_rfl
theorem Jwa (f : Nat) : ∀ q ∈ Jg (Try.f144.body.get!) JhW, q.Ok tau Try.prog 0 := by
  rw [Jv9 f]; intro q hq; cases hq
theorem Jpp : Try.prog.funcs[144]? = some Try.f144 := by kernel_rfl
theorem Jpq : Try.f144.body = some (Try.f144.body.get!) := by kernel_rfl
theorem Jwb : Enters Try.prog 144 := enters_of Jpp (by kernel_rfl) Jpq
noncomputable def Jgl : List PV → List Ent → (Res → Option Res) → Option Res
  | [.st 73 [.st 45 [.sc (.int .i64 d_Author_D), .sc (.int .i64 d_Author_U)], .sc (.int .i64 d_Id), .sc (.int .i64 d_Version), .ar 37 d_Hash, .sc (.int .i64 d_Kind), .ro 99 d_Op_z d_Op_f d_Op, .st 45 [.sc (.int .i64 d_Who_D), .sc (.int .i64 d_Who_U)]]], [], k => Jnd 0 d_Author_D d_Author_U d_Id d_Version d_Hash d_Kind d_Op_z d_Op_f d_Op d_Who_D d_Who_U k
  | _, _, _ => none
noncomputable def Jyy : Sig := { own := [], run := Jgl }
theorem Jwc : Ji tau Try.prog 144 Jyy := J3 Jr Jnc Js Jpp Jpq JhW [.ro] 0 [] Jgl (Jwa 0) fun xs es k res hr => by
  unfold Jgl at hr
  split at hr
  · exact ⟨rfl, 0, (Jyx 0 _ _ _ _ _ _ _ _ _ _ _  _).trans hr⟩
  · cases hr


noncomputable def F92 : Fns := F0
def Jyz : An := (.seq .leaf (.seq .leaf .leaf))
noncomputable def g92 (f : Nat) (n : Int) (top : Int) (k : Res → Option Res) : Option Res := bif decide (n ≥ 0) then k (Res.mk (.sc (.bool (decide (n ≤ top)))) [] []) else k (Res.mk (.sc (.bool false)) [] [])
theorem e92 (f : Nat) (n : Int) (top : Int) (k : Res → Option Res) : JR tau F92 Try.f92 (Try.f92.body.get!) Jyz [.ro] 0 [.sc (.int .i64 n), .sc (.int .i64 top)] [] k = g92 f n top k := by kernel_rfl

-- FN ref16.domain | ref16.Wave | ref16.number | ref8.User
def inZ (x m : Int) : Bool := decide (x ≥ 0) && decide (x ≤ m)

-- FN delta.Check | ref8.Check
noncomputable def JkM (d : DV) : Int :=
  bif inZ d.ad 2 && (inZ d.au 7 && (inZ d.id 1073741824 && inZ d.ve 1048576)) then
    (bif d.kd == 1 then (bif ckO d.o == 0 then (bif d.wd == 0 && d.wu == 0 then 0 else 1) else ckO d.o)
    else bif d.kd == 2 || d.kd == 3 then (bif d.o.isEmpty && (inZ d.wd 2 && inZ d.wu 7) then 0 else 1)
    else 3)
  else 1
noncomputable def dCk : DV → Int := hid JkM
theorem Jdp (d : DV) : dCk d = JkM d := by rw [dCk, hid_eq]
theorem Jdq (x m : Int) : inZ x m = (decide (x ≥ 0) && decide (x ≤ m)) := rfl
theorem JkN (l : List PV) : decide (zi l.length > 0) = !l.isEmpty := by
  cases l with
  | nil => rfl
  | cons p ps => exact decide_eq_true (by simp only [zi, List.length_cons]; omega)
theorem Jne (ad au id1 ve : Int) (h : List PV) (kd : Int) (oz of : Bool) (o : List PV) (wd wu : Int) (hc : cOk o = true) (k : Res → Option Res) : Jnd 0 ad au id1 ve h kd oz of o wd wu k = k ⟨.sc (.int .i64 (dCk ⟨ad, au, id1, ve, h, kd, o, wd, wu⟩)), [], []⟩ := by
  rw [Jdp]
  unfold Jnd JkM
  simp only [hc, Jdq, JkN, cond_true, bne]
  have h2 : (kd == 2) = true → (kd == 1) = false := fun h => by have : kd = 2 := by simpa using h
                                                                rw [this]; decide
  generalize o.isEmpty = e0
  generalize (kd == 1) = d1 at *
  generalize (kd == 2) = d2 at *
  generalize (kd == 3) = d3
  generalize (wd == 0) = w0
  generalize (wu == 0) = w1
  generalize hck : ckO o = ck
  cases decide (ad ≥ 0)
  · rfl
  cases decide (ad ≤ 2)
  · rfl
  cases decide (au ≥ 0)
  · rfl
  cases decide (au ≤ 7)
  · rfl
  cases decide (id1 ≥ 0)
  · rfl
  cases decide (id1 ≤ 1073741824)
  · rfl
  cases decide (ve ≥ 0)
  · rfl
  cases decide (ve ≤ 1048576)
  · rfl
  cases d1
  · cases d2
    · cases d3
      · rfl
      · cases e0 <;> cases decide (wd ≥ 0) <;> cases decide (wd ≤ 2) <;> cases decide (wu ≥ 0) <;> cases decide (wu ≤ 7) <;> rfl
    · cases e0 <;> cases decide (wd ≥ 0) <;> cases decide (wd ≤ 2) <;> cases decide (wu ≥ 0) <;> cases decide (wu ≤ 7) <;> rfl
  · cases ck == 0 <;> cases w0 <;> cases w1 <;> rfl
noncomputable def Jdr : List PV → List Ent → (Res → Option Res) → Option Res
  | [.st 73 [.st 45 [.sc (.int .i64 ad), .sc (.int .i64 au)], .sc (.int .i64 id1), .sc (.int .i64 ve), .ar 37 h, .sc (.int .i64 kd), .ro 99 oz of o, .st 45 [.sc (.int .i64 wd), .sc (.int .i64 wu)]]], [], k => bif cOk o then k ⟨.sc (.int .i64 (dCk ⟨ad, au, id1, ve, h, kd, o, wd, wu⟩)), [], []⟩ else none
  | _, _, _ => none
noncomputable def Jpr : Sig := { own := [], run := Jdr }
theorem JrG : Ji tau Try.prog 144 Jpr := Jwc.of fun xs es k res hr => by
  change Jdr xs es k = some res at hr
  unfold Jdr at hr
  split at hr
  · rename_i ad au id1 ve h kd oz of o wd wu
    obtain ⟨hc, hr⟩ := JI hr
    exact (Jne ad au id1 ve h kd oz of o wd wu hc k).trans hr
  · cases hr
end Go.Proofs.Ytcklhipdldpkhaa.Rx
