/- What the functions of this law compute, and their plain laws. Conditions: none. -/
import Derived.Test.YtcklhipdldpkhaaSignOwnP2
namespace Go.Proofs.Ytcklhipdldpkhaa.Rx
open Go
set_option linter.unusedVariables false
set_option linter.unusedSimpArgs false
set_option maxRecDepth 100000
set_option maxHeartbeats 0
noncomputable def apI : List PV → Int → List PV := hid fun b n => b ++ pu .u8 (J4 n)
noncomputable def apY : List PV → Int → List PV := hid fun b n => b ++ pu .u8 [IntKind.u8.wrap n]
noncomputable def apT : List PV → ByteArray → List PV := hid fun b s => b ++ pu .u8 (Qf s)
noncomputable def okZ : Bool → List PV → Bool := hid slB
noncomputable def okL : Nat → List PV → Bool := hid fun m l => Nat.beq m l.length && Nat.ble l.length 1000000000
theorem Y7 (b : List PV) (n : Int) : apI b n = b ++ pu .u8 (J4 n) := by rw [apI, hid_eq]
theorem Z7 (b : List PV) (n : Int) : apY b n = b ++ pu .u8 [IntKind.u8.wrap n] := by rw [apY, hid_eq]
theorem Xh (b : List PV) (s : ByteArray) : apT b s = b ++ pu .u8 (Qf s) := by rw [apT, hid_eq]
theorem Y8 (z : Bool) (b : List PV) : okZ z b = slB z b := by rw [okZ, hid_eq]
theorem Jdv (m : Nat) (l : List PV) : okL m l = (Nat.beq m l.length && Nat.ble l.length 1000000000) := by rw [okL, hid_eq]
noncomputable def JgD : List PV → List Ent → (Res → Option Res) → Option Res
  | [.ro 5 z f b, .sc (.int .i64 n)], [], k => bif okZ z b then k ⟨.ro 5 false false (apI b n), [], []⟩ else none
  | _, _, _ => none
noncomputable def Jwz : Sig := { own := [], run := JgD }
theorem JwA : Jh tau Try.prog 97 Jwz := fun xs es k res hl hr => JvT xs es k res hl (by
  change JgD xs es k = some res at hr
  show Jdp xs es k = some res
  unfold JgD at hr
  split at hr
  · rw [Y8, Y7] at hr; exact hr
  · cases hr)
noncomputable def JgE : List PV → List Ent → (Res → Option Res) → Option Res
  | [.ro 5 z f b, .sc (.int .i64 n)], [], k => bif okZ z b then k ⟨.ow 5 16 [] 0 (apY b n).length none, [], [.vec false 5 false (apY b n)]⟩ else none
  | _, _, _ => none
noncomputable def Jsj : Sig := { own := [], run := JgE }
theorem JpO : Jh tau Try.prog 96 Jsj := fun xs es k res hl hr => Jwx xs es k res hl (by
  change JgE xs es k = some res at hr
  show Jdt xs es k = some res
  unfold JgE at hr
  split at hr
  · rename_i z f b n
    rw [Y8, Z7, show (b ++ pu .u8 [IntKind.u8.wrap n]).length = b.length + 1 by simp] at hr; exact hr
  · cases hr)
noncomputable def JgF : List PV → List Ent → (Res → Option Res) → Option Res
  | [.ro 5 z f b, .sc (.string s)], [], k => bif okZ z b && Nat.ble s.size 65535 then k ⟨.ow 5 16 [] 0 (apT b s).length none, [], [.vec false 5 false (apT b s)]⟩ else none
  | _, _, _ => none
noncomputable def Jnz : Sig := { own := [], run := JgF }
theorem JkY : Jh tau Try.prog 98 Jnz := fun xs es k res hl hr => Jwy xs es k res hl (by
  change JgF xs es k = some res at hr
  show Jdu xs es k = some res
  unfold JgF at hr
  split at hr
  · rename_i z f b s
    rw [Y8, Xh, show (b ++ pu .u8 (Qf s)).length = b.length + (s.size + 2) by simp] at hr; exact hr
  · cases hr)
noncomputable def Jdw : List PV → List Ent → (Res → Option Res) → Option Res
  | [.ro 5 true true [], .sc (.int .i64 n)], [], k => k ⟨.ow 5 16 [] 0 (apY [] n).length none, [], [.vec false 5 false (apY [] n)]⟩
  | [.ow 5 0 [] 0 m none, .sc (.int .i64 n)], [.vec false 5 nl l], k => bif okL m l then k ⟨.ow 5 16 [] 0 (apY l n).length none, [.dead], [.vec false 5 false (apY l n)]⟩ else none
  | _, _, _ => none
noncomputable def JkZ : Sig := { own := [true], run := Jdw }
theorem Jk0 : Jh tau Try.prog 110 JkZ := fun xs es k res hl hr => Jr1 xs es k res hl (by
  change Jdw xs es k = some res at hr
  show VI xs es k = some res
  unfold Jdw at hr
  split at hr
  · rw [Z7] at hr; exact hr
  · rename_i m n nl l
    rw [Jdv, Z7] at hr
    obtain ⟨hc, hr⟩ := JH hr
    have hm : m = l.length := by rw [Bool.and_eq_true, Nat.beq_eq] at hc; exact hc.1
    have h2 : VI [.ow 5 0 [] 0 m none, .sc (.int .i64 n)] [.vec false 5 nl l] k = k ⟨.ow 5 16 [] 0 (m + 1) none, [.dead], [.vec false 5 false (l ++ pu .u8 [IntKind.u8.wrap n])]⟩ := Ja hc
    rw [h2, ← hr, hm]; simp
  · cases hr)
noncomputable def Jdx : List PV → List Ent → (Res → Option Res) → Option Res
  | [.ow 5 0 [] 0 m none, .sc (.int .i64 n)], [.vec false 5 nl l], k => bif okL m l then k ⟨.ow 5 16 [] 0 (apI l n).length none, [.dead], [.vec false 5 false (apI l n)]⟩ else none
  | _, _, _ => none
noncomputable def JpP : Sig := { own := [true], run := Jdx }
theorem Jk1 : Jh tau Try.prog 108 JpP := fun xs es k res hl hr => JkQ xs es k res hl (by
  change Jdx xs es k = some res at hr
  show VJ xs es k = some res
  unfold Jdx at hr
  split at hr
  · rename_i m n nl l
    rw [Jdv, Y7] at hr
    obtain ⟨hc, hr⟩ := JH hr
    have hm : m = l.length := by rw [Bool.and_eq_true, Nat.beq_eq] at hc; exact hc.1
    have h2 : VJ [.ow 5 0 [] 0 m none, .sc (.int .i64 n)] [.vec false 5 nl l] k = k ⟨.ow 5 16 [] 0 (m + 8) none, [.dead], [.vec false 5 false (l ++ pu .u8 (J4 n))]⟩ := Ja hc
    rw [h2, ← hr, hm]; simp
  · cases hr)
noncomputable def Jdy : List PV → List Ent → (Res → Option Res) → Option Res
  | [.ow 5 0 [] 0 m none, .sc (.string s)], [.vec false 5 nl l], k => bif okL m l && Nat.ble s.size 65535 then k ⟨.ow 5 16 [] 0 (apT l s).length none, [.dead], [.vec false 5 false (apT l s)]⟩ else none
  | _, _, _ => none
noncomputable def JpQ : Sig := { own := [true], run := Jdy }
theorem Jk2 : Jh tau Try.prog 109 JpQ := fun xs es k res hl hr => Jr2 xs es k res hl (by
  change Jdy xs es k = some res at hr
  show VK xs es k = some res
  unfold Jdy at hr
  split at hr
  · rename_i m s nl l
    rw [Jdv, Xh] at hr
    obtain ⟨hc, hr⟩ := JH hr
    have hm : m = l.length := by simp only [Bool.and_eq_true, Nat.beq_eq] at hc; exact hc.1.1
    have h2 : VK [.ow 5 0 [] 0 m none, .sc (.string s)] [.vec false 5 nl l] k = k ⟨.ow 5 16 [] 0 (m + (s.size + 2)) none, [.dead], [.vec false 5 false (l ++ pu .u8 (Qf s))]⟩ := Ja hc
    rw [h2, ← hr, hm]; simp
  · cases hr)
noncomputable def JwB : Fns := JG 131 JkD (F0)
theorem JnA : Jx tau Try.prog JwB := (JE).add JkE JkC
def JnB : Nm := [(0, .any), (1, .any), (5, .own), (6, .any)]
def Jsk : An := (.seq .leaf (.seq .leaf (.seq .leaf (.seq .leaf (.seq (.seq .leaf (.seq .leaf (.cond .leaf .leaf))) (.seq .leaf .leaf))))))
def Jii : An := (.seq .leaf (.scope JnB Jsk))
noncomputable def Jk3 (f : Nat) (b_z : Bool) (b_f : Bool) (b : List PV) (n : Int) (k : Res → Option Res) : Option Res :=
  bif b_z then
    k (Res.mk (PV.ow 5 16 [] 0 8 none) []
      [Ent.vec false 5 false
          [PV.sc (Value.int IntKind.u8 (IntKind.u8.wrap (Jw IntKind.u64 (IntKind.u64.wrap n) (IntKind.i64.wrap (8 * 0))))),
            PV.sc (Value.int IntKind.u8 (IntKind.u8.wrap (Jw IntKind.u64 (IntKind.u64.wrap n) (IntKind.i64.wrap (8 * IntKind.i64.wrap (0 + 1)))))),
            PV.sc (Value.int IntKind.u8 (IntKind.u8.wrap (Jw IntKind.u64 (IntKind.u64.wrap n) (IntKind.i64.wrap (8 * IntKind.i64.wrap (IntKind.i64.wrap (0 + 1) + 1)))))),
            PV.sc (Value.int IntKind.u8 (IntKind.u8.wrap (Jw IntKind.u64 (IntKind.u64.wrap n) (IntKind.i64.wrap (8 * IntKind.i64.wrap (IntKind.i64.wrap (IntKind.i64.wrap (0 + 1) + 1) + 1)))))),
            PV.sc
              (Value.int IntKind.u8
                (IntKind.u8.wrap (Jw IntKind.u64 (IntKind.u64.wrap n) (IntKind.i64.wrap (8 * IntKind.i64.wrap (IntKind.i64.wrap (IntKind.i64.wrap (IntKind.i64.wrap (0 + 1) + 1) + 1) + 1)))))),
            PV.sc
              (Value.int IntKind.u8
                (IntKind.u8.wrap
                  (Jw IntKind.u64 (IntKind.u64.wrap n)
                    (IntKind.i64.wrap (8 * IntKind.i64.wrap (IntKind.i64.wrap (IntKind.i64.wrap (IntKind.i64.wrap (IntKind.i64.wrap (0 + 1) + 1) + 1) + 1) + 1)))))),
            PV.sc
              (Value.int IntKind.u8
                (IntKind.u8.wrap
                  (Jw IntKind.u64 (IntKind.u64.wrap n)
                    (IntKind.i64.wrap (8 * IntKind.i64.wrap (IntKind.i64.wrap (IntKind.i64.wrap (IntKind.i64.wrap (IntKind.i64.wrap (IntKind.i64.wrap (0 + 1) + 1) + 1) + 1) + 1) + 1)))))),
            PV.sc
              (Value.int IntKind.u8
                (IntKind.u8.wrap
                  (Jw IntKind.u64 (IntKind.u64.wrap n)
                    (IntKind.i64.wrap
                      (8 * IntKind.i64.wrap (IntKind.i64.wrap (IntKind.i64.wrap (IntKind.i64.wrap (IntKind.i64.wrap (IntKind.i64.wrap (IntKind.i64.wrap (0 + 1) + 1) + 1) + 1) + 1) + 1) + 1))))))]])
  else bif Jj (0 + b.length) 1 && true then
    bif Jj (0 + b.length + 1) 1 && true then
      bif Jj (0 + b.length + 1 + 1) 1 && true then
        bif Jj (0 + b.length + 1 + 1 + 1) 1 && true then
          bif Jj (0 + b.length + 1 + 1 + 1 + 1) 1 && true then
            bif Jj (0 + b.length + 1 + 1 + 1 + 1 + 1) 1 && true then
              bif Jj (0 + b.length + 1 + 1 + 1 + 1 + 1 + 1) 1 && true then
                bif Jj (0 + b.length + 1 + 1 + 1 + 1 + 1 + 1 + 1) 1 && true then
                  bif Jj (0 + b.length + 1 + 1 + 1 + 1 + 1 + 1 + 1 + 1) 1 && true then
                    bif Jj
                        (0 +
                          (List.take (0 + b.length + 1 + 1 + 1 + 1 + 1 + 1 + 1 + 1)
                              (List.take (0 + b.length + 1 + 1 + 1 + 1 + 1 + 1 + 1)
                                  (List.take (0 + b.length + 1 + 1 + 1 + 1 + 1 + 1)
                                      (List.take (0 + b.length + 1 + 1 + 1 + 1 + 1)
                                          (List.take (0 + b.length + 1 + 1 + 1 + 1)
                                              (List.take (0 + b.length + 1 + 1 + 1)
                                                  (List.take (0 + b.length + 1 + 1)
                                                      (List.take (0 + b.length + 1)
                                                          (List.take (0 + b.length) b ++
                                                            [PV.sc (Value.int IntKind.u8 (IntKind.u8.wrap (Jw IntKind.u64 (IntKind.u64.wrap n) (IntKind.i64.wrap (8 * 0)))))]) ++
                                                        [PV.sc (Value.int IntKind.u8 (IntKind.u8.wrap (Jw IntKind.u64 (IntKind.u64.wrap n) (IntKind.i64.wrap (8 * IntKind.i64.wrap (0 + 1))))))]) ++
                                                    [PV.sc
                                                        (Value.int IntKind.u8
                                                          (IntKind.u8.wrap (Jw IntKind.u64 (IntKind.u64.wrap n) (IntKind.i64.wrap (8 * IntKind.i64.wrap (IntKind.i64.wrap (0 + 1) + 1))))))]) ++
                                                [PV.sc
                                                    (Value.int IntKind.u8
                                                      (IntKind.u8.wrap
                                                        (Jw IntKind.u64 (IntKind.u64.wrap n) (IntKind.i64.wrap (8 * IntKind.i64.wrap (IntKind.i64.wrap (IntKind.i64.wrap (0 + 1) + 1) + 1))))))]) ++
                                            [PV.sc
                                                (Value.int IntKind.u8
                                                  (IntKind.u8.wrap
                                                    (Jw IntKind.u64 (IntKind.u64.wrap n)
                                                      (IntKind.i64.wrap (8 * IntKind.i64.wrap (IntKind.i64.wrap (IntKind.i64.wrap (IntKind.i64.wrap (0 + 1) + 1) + 1) + 1))))))]) ++
                                        [PV.sc
                                            (Value.int IntKind.u8
                                              (IntKind.u8.wrap
                                                (Jw IntKind.u64 (IntKind.u64.wrap n)
                                                  (IntKind.i64.wrap (8 * IntKind.i64.wrap (IntKind.i64.wrap (IntKind.i64.wrap (IntKind.i64.wrap (IntKind.i64.wrap (0 + 1) + 1) + 1) + 1) + 1))))))]) ++
                                    [PV.sc
                                        (Value.int IntKind.u8
                                          (IntKind.u8.wrap
                                            (Jw IntKind.u64 (IntKind.u64.wrap n)
                                              (IntKind.i64.wrap
                                                (8 *
                                                  IntKind.i64.wrap (IntKind.i64.wrap (IntKind.i64.wrap (IntKind.i64.wrap (IntKind.i64.wrap (IntKind.i64.wrap (0 + 1) + 1) + 1) + 1) + 1) + 1))))))]) ++
                                [PV.sc
                                    (Value.int IntKind.u8
                                      (IntKind.u8.wrap
                                        (Jw IntKind.u64 (IntKind.u64.wrap n)
                                          (IntKind.i64.wrap
                                            (8 *
                                              IntKind.i64.wrap
                                                (IntKind.i64.wrap (IntKind.i64.wrap (IntKind.i64.wrap (IntKind.i64.wrap (IntKind.i64.wrap (IntKind.i64.wrap (0 + 1) + 1) + 1) + 1) + 1) + 1) +
                                                  1))))))])).length)
                        1 &&
                      true then
                      k (Res.mk
                        (PV.ow 5 16 [] 0
                          (0 +
                            (List.take (0 + b.length + 1 + 1 + 1 + 1 + 1 + 1 + 1 + 1)
                                (List.take (0 + b.length + 1 + 1 + 1 + 1 + 1 + 1 + 1)
                                    (List.take (0 + b.length + 1 + 1 + 1 + 1 + 1 + 1)
                                        (List.take (0 + b.length + 1 + 1 + 1 + 1 + 1)
                                            (List.take (0 + b.length + 1 + 1 + 1 + 1)
                                                (List.take (0 + b.length + 1 + 1 + 1)
                                                    (List.take (0 + b.length + 1 + 1)
                                                        (List.take (0 + b.length + 1)
                                                            (List.take (0 + b.length) b ++
                                                              [PV.sc (Value.int IntKind.u8 (IntKind.u8.wrap (Jw IntKind.u64 (IntKind.u64.wrap n) (IntKind.i64.wrap (8 * 0)))))]) ++
                                                          [PV.sc (Value.int IntKind.u8 (IntKind.u8.wrap (Jw IntKind.u64 (IntKind.u64.wrap n) (IntKind.i64.wrap (8 * IntKind.i64.wrap (0 + 1))))))]) ++
                                                      [PV.sc
                                                          (Value.int IntKind.u8
                                                            (IntKind.u8.wrap (Jw IntKind.u64 (IntKind.u64.wrap n) (IntKind.i64.wrap (8 * IntKind.i64.wrap (IntKind.i64.wrap (0 + 1) + 1))))))]) ++
                                                  [PV.sc
                                                      (Value.int IntKind.u8
                                                        (IntKind.u8.wrap
                                                          (Jw IntKind.u64 (IntKind.u64.wrap n) (IntKind.i64.wrap (8 * IntKind.i64.wrap (IntKind.i64.wrap (IntKind.i64.wrap (0 + 1) + 1) + 1))))))]) ++
                                              [PV.sc
                                                  (Value.int IntKind.u8
                                                    (IntKind.u8.wrap
                                                      (Jw IntKind.u64 (IntKind.u64.wrap n)
                                                        (IntKind.i64.wrap (8 * IntKind.i64.wrap (IntKind.i64.wrap (IntKind.i64.wrap (IntKind.i64.wrap (0 + 1) + 1) + 1) + 1))))))]) ++
                                          [PV.sc
                                              (Value.int IntKind.u8
                                                (IntKind.u8.wrap
                                                  (Jw IntKind.u64 (IntKind.u64.wrap n)
                                                    (IntKind.i64.wrap
                                                      (8 * IntKind.i64.wrap (IntKind.i64.wrap (IntKind.i64.wrap (IntKind.i64.wrap (IntKind.i64.wrap (0 + 1) + 1) + 1) + 1) + 1))))))]) ++
                                      [PV.sc
                                          (Value.int IntKind.u8
                                            (IntKind.u8.wrap
                                              (Jw IntKind.u64 (IntKind.u64.wrap n)
                                                (IntKind.i64.wrap
                                                  (8 *
                                                    IntKind.i64.wrap
                                                      (IntKind.i64.wrap (IntKind.i64.wrap (IntKind.i64.wrap (IntKind.i64.wrap (IntKind.i64.wrap (0 + 1) + 1) + 1) + 1) + 1) + 1))))))]) ++
                                  [PV.sc
                                      (Value.int IntKind.u8
                                        (IntKind.u8.wrap
                                          (Jw IntKind.u64 (IntKind.u64.wrap n)
                                            (IntKind.i64.wrap
                                              (8 *
                                                IntKind.i64.wrap
                                                  (IntKind.i64.wrap (IntKind.i64.wrap (IntKind.i64.wrap (IntKind.i64.wrap (IntKind.i64.wrap (IntKind.i64.wrap (0 + 1) + 1) + 1) + 1) + 1) + 1) +
                                                    1))))))])).length)
                          none)
                        []
                        [Ent.vec false 5 false
                            (List.take (0 + b.length + 1 + 1 + 1 + 1 + 1 + 1 + 1 + 1)
                              (List.take (0 + b.length + 1 + 1 + 1 + 1 + 1 + 1 + 1)
                                  (List.take (0 + b.length + 1 + 1 + 1 + 1 + 1 + 1)
                                      (List.take (0 + b.length + 1 + 1 + 1 + 1 + 1)
                                          (List.take (0 + b.length + 1 + 1 + 1 + 1)
                                              (List.take (0 + b.length + 1 + 1 + 1)
                                                  (List.take (0 + b.length + 1 + 1)
                                                      (List.take (0 + b.length + 1)
                                                          (List.take (0 + b.length) b ++
                                                            [PV.sc (Value.int IntKind.u8 (IntKind.u8.wrap (Jw IntKind.u64 (IntKind.u64.wrap n) (IntKind.i64.wrap (8 * 0)))))]) ++
                                                        [PV.sc (Value.int IntKind.u8 (IntKind.u8.wrap (Jw IntKind.u64 (IntKind.u64.wrap n) (IntKind.i64.wrap (8 * IntKind.i64.wrap (0 + 1))))))]) ++
                                                    [PV.sc
                                                        (Value.int IntKind.u8
                                                          (IntKind.u8.wrap (Jw IntKind.u64 (IntKind.u64.wrap n) (IntKind.i64.wrap (8 * IntKind.i64.wrap (IntKind.i64.wrap (0 + 1) + 1))))))]) ++
                                                [PV.sc
                                                    (Value.int IntKind.u8
                                                      (IntKind.u8.wrap
                                                        (Jw IntKind.u64 (IntKind.u64.wrap n) (IntKind.i64.wrap (8 * IntKind.i64.wrap (IntKind.i64.wrap (IntKind.i64.wrap (0 + 1) + 1) + 1))))))]) ++
                                            [PV.sc
                                                (Value.int IntKind.u8
                                                  (IntKind.u8.wrap
                                                    (Jw IntKind.u64 (IntKind.u64.wrap n)
                                                      (IntKind.i64.wrap (8 * IntKind.i64.wrap (IntKind.i64.wrap (IntKind.i64.wrap (IntKind.i64.wrap (0 + 1) + 1) + 1) + 1))))))]) ++
                                        [PV.sc
                                            (Value.int IntKind.u8
                                              (IntKind.u8.wrap
                                                (Jw IntKind.u64 (IntKind.u64.wrap n)
                                                  (IntKind.i64.wrap (8 * IntKind.i64.wrap (IntKind.i64.wrap (IntKind.i64.wrap (IntKind.i64.wrap (IntKind.i64.wrap (0 + 1) + 1) + 1) + 1) + 1))))))]) ++
                                    [PV.sc
                                        (Value.int IntKind.u8
                                          (IntKind.u8.wrap
                                            (Jw IntKind.u64 (IntKind.u64.wrap n)
                                              (IntKind.i64.wrap
                                                (8 *
                                                  IntKind.i64.wrap (IntKind.i64.wrap (IntKind.i64.wrap (IntKind.i64.wrap (IntKind.i64.wrap (IntKind.i64.wrap (0 + 1) + 1) + 1) + 1) + 1) + 1))))))]) ++
                                [PV.sc
                                    (Value.int IntKind.u8
                                      (IntKind.u8.wrap
                                        (Jw IntKind.u64 (IntKind.u64.wrap n)
                                          (IntKind.i64.wrap
                                            (8 *
                                              IntKind.i64.wrap
                                                (IntKind.i64.wrap (IntKind.i64.wrap (IntKind.i64.wrap (IntKind.i64.wrap (IntKind.i64.wrap (IntKind.i64.wrap (0 + 1) + 1) + 1) + 1) + 1) + 1) +
                                                  1))))))]))])
                    else none
                  else none
                else none
              else none
            else none
          else none
        else none
      else none
    else none
  else none
theorem JzM (f : Nat) (b_z : Bool) (b_f : Bool) (b : List PV) (n : Int) (k : Res → Option Res) : JM tau JwB Try.f97 (Try.f97.body.get!) Jii [] 12 [.ro 5 b_z b_f b, .sc (.int .i64 n)] [] k = Jk3 f b_z b_f b n k := by kernel_rfl
theorem JwC (f : Nat) : Jg (Try.f97.body.get!) Jii = [] := by kernel_rfl
theorem JwD (f : Nat) : ∀ q ∈ Jg (Try.f97.body.get!) Jii, q.Ok tau Try.prog 0 := by
  rw [JwC f]; intro q hq; cases hq
theorem JwE : Try.prog.funcs[97]? = some Try.f97 := by kernel_rfl
theorem JwF : Try.f97.body = some (Try.f97.body.get!) := by kernel_rfl
noncomputable def JwG : Fns := F0
theorem JnC : Jx tau Try.prog JwG := JE
def Jij : An := (.seq .leaf (.seq (.seq .leaf (.cond .leaf .leaf)) (.seq .leaf .leaf)))
noncomputable def Jsl (f : Nat) (s : ByteArray) (k : Res → Option Res) : Option Res :=
  bif decide (zi s.size > 65535) then
    bif decide (65535 ≤ s.size) && true then
      bif Jj (2 + (Jm (s.extract 0 65535)).length) 1 && true then
        k (Res.mk (PV.ow 5 16 [] 0 (2 + (Jm (s.extract 0 65535)).length) none) []
          [Ent.vec false 5 false
              (PV.sc (Value.int IntKind.u8 (IntKind.u8.wrap (zi (s.extract 0 65535).size))) ::
                PV.sc (Value.int IntKind.u8 (IntKind.u8.wrap (Jw IntKind.i64 (zi (s.extract 0 65535).size) 8))) ::
                  id (Jm (s.extract 0 65535)))])
      else none
    else none
  else bif Jj (2 + (Jm s).length) 1 && true then
    k (Res.mk (PV.ow 5 16 [] 0 (2 + (Jm s).length) none) []
      [Ent.vec false 5 false
          (PV.sc (Value.int IntKind.u8 (IntKind.u8.wrap (zi s.size))) ::
            PV.sc (Value.int IntKind.u8 (IntKind.u8.wrap (Jw IntKind.i64 (zi s.size) 8))) ::
              id (Jm s))])
  else none
theorem JzN (f : Nat) (s : ByteArray) (k : Res → Option Res) : JM tau JwG Try.f109 (Try.f109.body.get!) Jij [] 0 [.ro 5 true true [], .sc (.string s)] [] k = Jsl f s k := by kernel_rfl
theorem JwH (f : Nat) : Jg (Try.f109.body.get!) Jij = [] := by kernel_rfl
theorem JwI (f : Nat) : ∀ q ∈ Jg (Try.f109.body.get!) Jij, q.Ok tau Try.prog 0 := by
  rw [JwH f]; intro q hq; cases hq
theorem JpR : Try.prog.funcs[109]? = some Try.f109 := by kernel_rfl
theorem JpS : Try.f109.body = some (Try.f109.body.get!) := by kernel_rfl
theorem JwJ : Enters Try.prog 109 := enters_of JpR (by kernel_rfl) JpS
noncomputable def JgG : List PV → List Ent → (Res → Option Res) → Option Res
  | [.ro 5 z f b, .sc (.int .i64 n)], [], k => bif okZ z b then k ⟨.ow 5 16 [] 0 (apI b n).length none, [], [.vec false 5 false (apI b n)]⟩ else none
  | _, _, _ => none
noncomputable def Jsm : Sig := { own := [], run := JgG }
theorem Jk4 (f : Bool) (n : Int) (k : Res → Option Res) : Jk3 0 true f [] n k = k ⟨.ow 5 16 [] 0 8 none, [], [.vec false 5 false (pu .u8 (J4 n))]⟩ := by
  rw [Wa]; kernel_rfl
theorem Jsn (f : Bool) (b : List PV) (hb : b.length ≤ 1000000000) (n : Int) (k : Res → Option Res) : Jk3 0 false f b n k = k ⟨.ow 5 16 [] 0 (b.length + 8) none, [], [.vec false 5 false (b ++ pu .u8 (J4 n))]⟩ := by
  rw [Wa]
  unfold Jk3
  refine (JA rfl).trans ?_
  repeat rw [List.take_of_length_le (by simp <;> omega)]
  repeat (refine (Ja (by simp [Jj]; omega)).trans ?_)
  simp only [List.nil_append, List.append_assoc, List.length_append, List.length_cons, List.length_nil, Nat.zero_add]
  rfl
theorem JpT : Jh tau Try.prog 97 Jsm := Jh.mk' fun xs es k res hl hr => by
  change JgG xs es k = some res at hr
  unfold JgG at hr
  split at hr
  · rename_i z f b n
    obtain ⟨hc, hr2⟩ := JH hr
    clear hr
    rw [Y8] at hc
    obtain ⟨h1, h2⟩ := Q8.1 hc
    rw [Y7] at hr2
    have hg : Jk3 0 z f b n k = some res := by
      cases z with
      | true => obtain rfl := h1 rfl; rw [Jk4]; simpa using hr2
      | false => rw [Jsn f b h2]; simpa using hr2
    exact Ql Jq JnA Jr JwE JwF Jii [] 0 12 (JwD 0) hl rfl ((JzM 0 z f b n k).trans hg)
  · cases hr
noncomputable def Jdz : List PV → List Ent → (Res → Option Res) → Option Res
  | [.ro 5 true true [], .sc (.int .i64 n)], [], k => k ⟨.ow 5 16 [] 0 (apI [] n).length none, [], [.vec false 5 false (apI [] n)]⟩
  | [.ow 5 0 [] 0 m none, .sc (.int .i64 n)], [.vec false 5 nl l], k => bif okL m l then k ⟨.ow 5 16 [] 0 (apI l n).length none, [.dead], [.vec false 5 false (apI l n)]⟩ else none
  | _, _, _ => none
noncomputable def JpU : Sig := { own := [true], run := Jdz }
theorem Jso : Jh tau Try.prog 108 JpU := fun xs es k res hl hr => by
  change Jdz xs es k = some res at hr
  unfold Jdz at hr
  split at hr
  · rename_i n
    refine JkQ _ _ k res hl ?_
    rw [Y7] at hr
    show k ⟨.ow 5 16 [] 0 8 none, [], [.vec false 5 false (pu .u8 (J4 n))]⟩ = some res
    simpa using hr
  · rename_i m n nl l
    exact Jk1 _ _ k res hl hr
  · cases hr
noncomputable def JdA : List PV → List Ent → (Res → Option Res) → Option Res
  | [.ro 5 true true [], .sc (.string s)], [], k => bif Nat.ble s.size 65535 then k ⟨.ow 5 16 [] 0 (apT [] s).length none, [], [.vec false 5 false (apT [] s)]⟩ else none
  | [.ow 5 0 [] 0 m none, .sc (.string s)], [.vec false 5 nl l], k => bif okL m l && Nat.ble s.size 65535 then k ⟨.ow 5 16 [] 0 (apT l s).length none, [.dead], [.vec false 5 false (apT l s)]⟩ else none
  | _, _, _ => none
noncomputable def JpV : Sig := { own := [true], run := JdA }
theorem Jsp : Jh tau Try.prog 109 JpV := Jh.mk' fun xs es k res hl hr => by
  change JdA xs es k = some res at hr
  unfold JdA at hr
  split at hr
  · rename_i s
    obtain ⟨hc, hr⟩ := JH hr
    rw [Nat.ble_eq] at hc
    have hob : (Jm s).length = s.size := by rw [Q6]; simp
    have hg : Jsl 0 s k = some res := by
      unfold Jsl
      rw [JA (by simp only [zi, decide_eq_false_iff_not]; omega), Ja (by simp [Jj, hob]; omega), hob]
      rw [Xh, QY, XW] at hr
      simp only [List.nil_append, JO, List.length_append, JI, ZY, List.length_cons, List.length_nil, ← Q6] at hr
      rw [← hr, hob]
      simp only [id, Jaj, Jf5, List.cons_append, List.nil_append, Nat.zero_add, Nat.reduceAdd]
    exact Ql Jq JnC Jr JpR JpS Jij [] 0 0 (JwI 0) hl rfl ((JzN 0 s k).trans hg)
  · rename_i m s nl l
    exact Jk2 _ _ k res hl hr
  · cases hr
def JbH : Nat := 34
noncomputable def Jk5 : Fns := JG 98 Jnz (JG 97 Jwz (JG 96 Jsj (F0)))
theorem Jik : Jx tau Try.prog Jk5 := (((JE).add JpO JvD).add JwA JrN).add JkY JrI
noncomputable def X9 : Code := Qs (Try.f114.body.get!) [1, 0]
def Wx : Nm := [(0, .any), (3, .own), (4, .any)]
def W8 : Nm := [(2, .any)]
def Gu : An := (.seq .leaf (.seq .leaf (.seq .leaf (.seq (.seq .leaf (.cond (.seq .leaf (.seq .leaf .leaf)) .leaf)) (.seq .leaf .leaf)))))
def Jil (r0 : Jtv) : An := (.seq .leaf (.ssum Wx JbH (Gu) r0))
noncomputable def Y9 (f : Nat) (rc : Bool → Bool → List PV → Nat → Int → List PV → Option Res) (k0 : Nat → List PV → Option Res) (v0 : Bool) (v1 : Bool) (v2 : List PV) (v3 : Nat) (v4 : Int) (v5 : List PV) : Option Res := bif decide (v4 < zi v2.length) then bif decide (0 ≤ v4) && decide (v4 < zi v2.length) && (PV.isSt 99 #[Field.mk "Kind" 3 0 false "" "" 0, Field.mk "N" 3 1 false "" "" 8, Field.mk "S" 9 2 false "" "" 16].size (v2.getD v4.toNat PV.top) && (PV.isInt IntKind.i64 (PV.child 0 (v2.getD v4.toNat PV.top)) && (PV.isInt IntKind.i64 (PV.child (0 + 1) (v2.getD v4.toNat PV.top)) && ((PV.child (0 + 1 + 1) (v2.getD v4.toNat PV.top)).isStr && true)))) && true then bif okZ false (List.take v3 v5) then bif decide (0 ≤ v4) && decide (v4 < zi v2.length) && (PV.isSt 99 #[Field.mk "Kind" 3 0 false "" "" 0, Field.mk "N" 3 1 false "" "" 8, Field.mk "S" 9 2 false "" "" 16].size (v2.getD v4.toNat PV.top) && (PV.isInt IntKind.i64 (PV.child 0 (v2.getD v4.toNat PV.top)) && (PV.isInt IntKind.i64 (PV.child (0 + 1) (v2.getD v4.toNat PV.top)) && ((PV.child (0 + 1 + 1) (v2.getD v4.toNat PV.top)).isStr && true)))) && true then bif okZ false (List.take (apY (List.take v3 v5) (PV.child 0 (v2.getD v4.toNat PV.top)).int).length (apY (List.take v3 v5) (PV.child 0 (v2.getD v4.toNat PV.top)).int)) then bif decide (0 ≤ v4) && decide (v4 < zi v2.length) && (PV.isSt 99 #[Field.mk "Kind" 3 0 false "" "" 0, Field.mk "N" 3 1 false "" "" 8, Field.mk "S" 9 2 false "" "" 16].size (v2.getD v4.toNat PV.top) && (PV.isInt IntKind.i64 (PV.child 0 (v2.getD v4.toNat PV.top)) && (PV.isInt IntKind.i64 (PV.child (0 + 1) (v2.getD v4.toNat PV.top)) && ((PV.child (0 + 1 + 1) (v2.getD v4.toNat PV.top)).isStr && true)))) && true then bif okZ false (apI (List.take (apY (List.take v3 v5) (PV.child 0 (v2.getD v4.toNat PV.top)).int).length (apY (List.take v3 v5) (PV.child 0 (v2.getD v4.toNat PV.top)).int)) (PV.child (0 + 1) (v2.getD v4.toNat PV.top)).int) && (PV.child (0 + 1 + 1) (v2.getD v4.toNat PV.top)).str.size.ble 65535 then rc v0 v1 v2 ((apT (apI (List.take (apY (List.take v3 v5) (PV.child 0 (v2.getD v4.toNat PV.top)).int).length (apY (List.take v3 v5) (PV.child 0 (v2.getD v4.toNat PV.top)).int)) (PV.child (0 + 1) (v2.getD v4.toNat PV.top)).int) (PV.child (0 + 1 + 1) (v2.getD v4.toNat PV.top)).str).length) (IntKind.i64.wrap (v4 + 1)) (apT (apI (List.take (apY (List.take v3 v5) (PV.child 0 (v2.getD v4.toNat PV.top)).int).length (apY (List.take v3 v5) (PV.child 0 (v2.getD v4.toNat PV.top)).int)) (PV.child (0 + 1) (v2.getD v4.toNat PV.top)).int) (PV.child (0 + 1 + 1) (v2.getD v4.toNat PV.top)).str) else none else none else none else none else none else none else k0 v3 v5
noncomputable def Ya (f : Nat) (k0 : Nat → List PV → Option Res) : Nat → Bool → Bool → List PV → Nat → Int → List PV → Option Res
  | 0, _, _, _, _, _, _ => none
  | n + 1, v0, v1, v2, v3, v4, v5 => Y9 f (Ya f k0 n) k0 v0 v1 v2 v3 v4 v5
theorem Jk6 (f : Nat) (k : Kont) (n : Nat) (v0 : Bool) (v1 : Bool) (v2 : List PV) (v3 : Nat) (v4 : Int) (v5 : List PV) : QG tau 0 Wx (hasLabel X9) (fun l s k => J5 tau Jk5 0 0 X9 (Gu ) l s k) (n + 1) 0 (Jc Wx JbH [.ro 99 v0 v1 v2, .ow 5 560 [] 0 v3 none, .sc (.int .i64 v4)] [(560, .vec false 5 false v5)]) (Jv tau 0 W8 k) = Y9 f (fun v0 v1 v2 v3 v4 v5 => QG tau 0 Wx (hasLabel X9) (fun l s k => J5 tau Jk5 0 0 X9 (Gu ) l s k) n 0 (Jc Wx JbH [.ro 99 v0 v1 v2, .ow 5 560 [] 0 v3 none, .sc (.int .i64 v4)] [(560, .vec false 5 false v5)]) (Jv tau 0 W8 k)) (fun x0 x1 => k Ex.ret (Jc W8 JbH [.ow 5 560 [] 0 x0 none] [(560, .vec false 5 false x1)])) v0 v1 v2 v3 v4 v5 := by kernel_rfl
theorem Jfa (f : Nat) (k : Kont) : ∀ (n : Nat) (v0 : Bool) (v1 : Bool) (v2 : List PV) (v3 : Nat) (v4 : Int) (v5 : List PV), QG tau 0 Wx (hasLabel X9) (fun l s k => J5 tau Jk5 0 0 X9 (Gu ) l s k) n 0 (Jc Wx JbH [.ro 99 v0 v1 v2, .ow 5 560 [] 0 v3 none, .sc (.int .i64 v4)] [(560, .vec false 5 false v5)]) (Jv tau 0 W8 k) = Ya f (fun x0 x1 => k Ex.ret (Jc W8 JbH [.ow 5 560 [] 0 x0 none] [(560, .vec false 5 false x1)])) n v0 v1 v2 v3 v4 v5 | 0, _, _, _, _, _, _ => rfl | n + 1, v0, v1, v2, v3, v4, v5 => (Jk6 f k n v0 v1 v2 v3 v4 v5).trans (congrArg (fun r => Y9 f r (fun x0 x1 => k Ex.ret (Jc W8 JbH [.ow 5 560 [] 0 x0 none] [(560, .vec false 5 false x1)])) v0 v1 v2 v3 v4 v5) (by funext v0 v1 v2 v3 v4 v5; exact Jfa f k n v0 v1 v2 v3 v4 v5))
noncomputable def Z8 (f : Nat) : Nat → List PV → List (Nat × Ent) → Kont → Option Res
  | 0, [.ro 99 v0 v1 v2, .ow 5 560 [] 0 v3 none,
  PV.sc
    (Value.int IntKind.i64
      v4)], [(560, .vec false 5 false v5)], k => Ya f (fun x0 x1 => k Ex.ret (Jc W8 JbH [.ow 5 560 [] 0 x0 none] [(560, .vec false 5 false x1)])) f v0 v1 v2 v3 v4 v5
  | _, _, _, _ => none
theorem JnD (f : Nat) : Jg X9 Gu = [] := by kernel_rfl
theorem Jsq (f : Nat) : (Item.s X9 Wx JbH (Z8 f)).Ok tau Try.prog 0 := JaX Jq Jik Jr (x := Gu) (nm2 := W8) (Jp _ _ (by rw [JnD f]; intro q hq; cases hq)) fun l vs hp k res hr => by
  unfold Z8 at hr
  split at hr
  · exact ⟨f, 0, (Jfa f _ f _ _ _ _ _ _ ).trans hr⟩
  · cases hr
noncomputable def Jsr (f : Nat) (o_z : Bool) (o_f : Bool) (o : List PV) (k : Res → Option Res) : Option Res := bif okZ true [] then bif decide (0 < zi o.length) then bif decide (0 < zi o.length) && (PV.isSt 99 #[Field.mk "Kind" 3 0 false "" "" 0, Field.mk "N" 3 1 false "" "" 8, Field.mk "S" 9 2 false "" "" 16].size (o.getD (Int.toNat 0) PV.top) && (PV.isInt IntKind.i64 (PV.child 0 (o.getD 0 PV.top)) && (PV.isInt IntKind.i64 (PV.child (0 + 1) (o.getD 0 PV.top)) && ((PV.child (0 + 1 + 1) (o.getD 0 PV.top)).isStr && true)))) && true then bif okZ false (List.take (apY [] (zi o.length)).length (apY [] (zi o.length))) then bif decide (0 < zi o.length) && (PV.isSt 99 #[Field.mk "Kind" 3 0 false "" "" 0, Field.mk "N" 3 1 false "" "" 8, Field.mk "S" 9 2 false "" "" 16].size (o.getD (Int.toNat 0) PV.top) && (PV.isInt IntKind.i64 (PV.child 0 (o.getD 0 PV.top)) && (PV.isInt IntKind.i64 (PV.child (0 + 1) (o.getD 0 PV.top)) && ((PV.child (0 + 1 + 1) (o.getD 0 PV.top)).isStr && true)))) && true then bif okZ false (List.take (apY (List.take (apY [] (zi o.length)).length (apY [] (zi o.length))) (PV.child 0 (o.getD 0 PV.top)).int).length (apY (List.take (apY [] (zi o.length)).length (apY [] (zi o.length))) (PV.child 0 (o.getD 0 PV.top)).int)) then bif decide (0 < zi o.length) && (PV.isSt 99 #[Field.mk "Kind" 3 0 false "" "" 0, Field.mk "N" 3 1 false "" "" 8, Field.mk "S" 9 2 false "" "" 16].size (o.getD (Int.toNat 0) PV.top) && (PV.isInt IntKind.i64 (PV.child 0 (o.getD 0 PV.top)) && (PV.isInt IntKind.i64 (PV.child (0 + 1) (o.getD 0 PV.top)) && ((PV.child (0 + 1 + 1) (o.getD 0 PV.top)).isStr && true)))) && true then bif okZ false (apI (List.take (apY (List.take (apY [] (zi o.length)).length (apY [] (zi o.length))) (PV.child 0 (o.getD 0 PV.top)).int).length (apY (List.take (apY [] (zi o.length)).length (apY [] (zi o.length))) (PV.child 0 (o.getD 0 PV.top)).int)) (PV.child (0 + 1) (o.getD 0 PV.top)).int) && (PV.child (0 + 1 + 1) (o.getD 0 PV.top)).str.size.ble 65535 then Ya f (fun x0_0 x1_0 => k (Res.mk (.ro 5 false false (List.take x0_0 x1_0)) [] [])) f o_z o_f o ((apT (apI (List.take (apY (List.take (apY [] (zi o.length)).length (apY [] (zi o.length))) (PV.child 0 (o.getD 0 PV.top)).int).length (apY (List.take (apY [] (zi o.length)).length (apY [] (zi o.length))) (PV.child 0 (o.getD 0 PV.top)).int)) (PV.child (0 + 1) (o.getD 0 PV.top)).int) (PV.child (0 + 1 + 1) (o.getD 0 PV.top)).str).length) (IntKind.i64.wrap (0 + 1)) (apT (apI (List.take (apY (List.take (apY [] (zi o.length)).length (apY [] (zi o.length))) (PV.child 0 (o.getD 0 PV.top)).int).length (apY (List.take (apY [] (zi o.length)).length (apY [] (zi o.length))) (PV.child 0 (o.getD 0 PV.top)).int)) (PV.child (0 + 1) (o.getD 0 PV.top)).int) (PV.child (0 + 1 + 1) (o.getD 0 PV.top)).str) else none else none else none else none else none else none else k (Res.mk (.ro 5 false false (List.take (apY [] (zi o.length)).length (apY [] (zi o.length)))) [] []) else none
theorem JzO (f : Nat) (o_z : Bool) (o_f : Bool) (o : List PV) (k : Res → Option Res) : JM tau Jk5 Try.f114 (Try.f114.body.get!) (Jil (Z8 f)) [.ro] 0 [.ro 99 o_z o_f o] [] k = Jsr f o_z o_f o k := by kernel_rfl
theorem JwK (f : Nat) : Jg (Try.f114.body.get!) (Jil (Z8 f)) = [.s X9 Wx JbH (Z8 f)] := by kernel_rfl
theorem JwL (f : Nat) : ∀ q ∈ Jg (Try.f114.body.get!) (Jil (Z8 f)), q.Ok tau Try.prog 0 := by
  rw [JwK f]; simp only [List.forall_mem_cons, List.not_mem_nil, false_implies, implies_true, and_true]; exact Jsq f
theorem JpW : Try.prog.funcs[114]? = some Try.f114 := by kernel_rfl
theorem JpX : Try.f114.body = some (Try.f114.body.get!) := by kernel_rfl
theorem JpY : Enters Try.prog 114 := enters_of JpW (by kernel_rfl) JpX
def JbI : Nat := 34
noncomputable def Jk7 : Fns := JG 110 JkZ (JG 109 JpQ (JG 108 JpP (F0)))
theorem Jim : Jx tau Try.prog Jk7 := (((JE).add Jk1 JpB).add Jk2 JrZ).add Jk0 Jpx
noncomputable def Gv : Code := Qs (Try.f111.body.get!) [1, 1, 0, 1, 0, 0]
def Wy : Nm := [(0, .any), (3, .own), (4, .any)]
def W9 : Nm := [(3, .any)]
def Jbj : An := (.seq (.seq .leaf (.cond .leaf .leaf)) (.seq (.block none .leaf) .leaf))
def Jin (r0 : QZ) : An := (.seq .leaf (.seq .leaf (.seq (.seq .leaf (.block none (.sum Wy JbI r0))) (.seq .leaf .leaf))))
noncomputable def Za (f : Nat) (rc : Bool → Bool → List PV → Nat → Int → List PV → Option Res) (k0 : Nat → List PV → Option Res) (v0 : Bool) (v1 : Bool) (v2 : List PV) (v3 : Nat) (v4 : Int) (v5 : List PV) : Option Res := bif decide (v4 < zi v2.length) then bif decide (0 ≤ v4) && decide (v4 < zi v2.length) && (PV.isSt 99 #[Field.mk "Kind" 3 0 false "" "" 0, Field.mk "N" 3 1 false "" "" 8, Field.mk "S" 9 2 false "" "" 16].size (v2.getD v4.toNat PV.top) && (PV.isInt IntKind.i64 (PV.child 0 (v2.getD v4.toNat PV.top)) && (PV.isInt IntKind.i64 (PV.child (0 + 1) (v2.getD v4.toNat PV.top)) && ((PV.child (0 + 1 + 1) (v2.getD v4.toNat PV.top)).isStr && true)))) && true then bif okL v3 v5 then bif decide (0 ≤ v4) && decide (v4 < zi v2.length) && (PV.isSt 99 #[Field.mk "Kind" 3 0 false "" "" 0, Field.mk "N" 3 1 false "" "" 8, Field.mk "S" 9 2 false "" "" 16].size (v2.getD v4.toNat PV.top) && (PV.isInt IntKind.i64 (PV.child 0 (v2.getD v4.toNat PV.top)) && (PV.isInt IntKind.i64 (PV.child (0 + 1) (v2.getD v4.toNat PV.top)) && ((PV.child (0 + 1 + 1) (v2.getD v4.toNat PV.top)).isStr && true)))) && true then bif okL (apY v5 (PV.child 0 (v2.getD v4.toNat PV.top)).int).length (apY v5 (PV.child 0 (v2.getD v4.toNat PV.top)).int) then bif decide (0 ≤ v4) && decide (v4 < zi v2.length) && (PV.isSt 99 #[Field.mk "Kind" 3 0 false "" "" 0, Field.mk "N" 3 1 false "" "" 8, Field.mk "S" 9 2 false "" "" 16].size (v2.getD v4.toNat PV.top) && (PV.isInt IntKind.i64 (PV.child 0 (v2.getD v4.toNat PV.top)) && (PV.isInt IntKind.i64 (PV.child (0 + 1) (v2.getD v4.toNat PV.top)) && ((PV.child (0 + 1 + 1) (v2.getD v4.toNat PV.top)).isStr && true)))) && true then bif okL (apI (apY v5 (PV.child 0 (v2.getD v4.toNat PV.top)).int) (PV.child (0 + 1) (v2.getD v4.toNat PV.top)).int).length (apI (apY v5 (PV.child 0 (v2.getD v4.toNat PV.top)).int) (PV.child (0 + 1) (v2.getD v4.toNat PV.top)).int) && (PV.child (0 + 1 + 1) (v2.getD v4.toNat PV.top)).str.size.ble 65535 then rc v0 v1 v2 ((apT (apI (apY v5 (PV.child 0 (v2.getD v4.toNat PV.top)).int) (PV.child (0 + 1) (v2.getD v4.toNat PV.top)).int) (PV.child (0 + 1 + 1) (v2.getD v4.toNat PV.top)).str).length) (IntKind.i64.wrap (v4 + 1)) (apT (apI (apY v5 (PV.child 0 (v2.getD v4.toNat PV.top)).int) (PV.child (0 + 1) (v2.getD v4.toNat PV.top)).int) (PV.child (0 + 1 + 1) (v2.getD v4.toNat PV.top)).str) else none else none else none else none else none else none else k0 v3 v5
noncomputable def Yb (f : Nat) (k0 : Nat → List PV → Option Res) : Nat → Bool → Bool → List PV → Nat → Int → List PV → Option Res
  | 0, _, _, _, _, _, _ => none
  | n + 1, v0, v1, v2, v3, v4, v5 => Za f (Yb f k0 n) k0 v0 v1 v2 v3 v4 v5
theorem Jk8 (f : Nat) (k : Kont) (n : Nat) (v0 : Bool) (v1 : Bool) (v2 : List PV) (v3 : Nat) (v4 : Int) (v5 : List PV) : Jo tau 0 Wy (fun s k => ev tau Jk7 0 0 Gv (Jbj ) s k) (n + 1) (Jc Wy JbI [.ro 99 v0 v1 v2, .ow 5 560 [] 0 v3 none, .sc (.int .i64 v4)] [(560, .vec false 5 false v5)]) (Jv tau 0 W9 k) = Za f (fun v0 v1 v2 v3 v4 v5 => Jo tau 0 Wy (fun s k => ev tau Jk7 0 0 Gv (Jbj ) s k) n (Jc Wy JbI [.ro 99 v0 v1 v2, .ow 5 560 [] 0 v3 none, .sc (.int .i64 v4)] [(560, .vec false 5 false v5)]) (Jv tau 0 W9 k)) (fun x0 x1 => k (Ex.exit 0) (Jc W9 JbI [.ow 5 560 [] 0 x0 none] [(560, .vec false 5 false x1)])) v0 v1 v2 v3 v4 v5 := by kernel_rfl
theorem Jfb (f : Nat) (k : Kont) : ∀ (n : Nat) (v0 : Bool) (v1 : Bool) (v2 : List PV) (v3 : Nat) (v4 : Int) (v5 : List PV), Jo tau 0 Wy (fun s k => ev tau Jk7 0 0 Gv (Jbj ) s k) n (Jc Wy JbI [.ro 99 v0 v1 v2, .ow 5 560 [] 0 v3 none, .sc (.int .i64 v4)] [(560, .vec false 5 false v5)]) (Jv tau 0 W9 k) = Yb f (fun x0 x1 => k (Ex.exit 0) (Jc W9 JbI [.ow 5 560 [] 0 x0 none] [(560, .vec false 5 false x1)])) n v0 v1 v2 v3 v4 v5 | 0, _, _, _, _, _, _ => rfl | n + 1, v0, v1, v2, v3, v4, v5 => (Jk8 f k n v0 v1 v2 v3 v4 v5).trans (congrArg (fun r => Za f r (fun x0 x1 => k (Ex.exit 0) (Jc W9 JbI [.ow 5 560 [] 0 x0 none] [(560, .vec false 5 false x1)])) v0 v1 v2 v3 v4 v5) (by funext v0 v1 v2 v3 v4 v5; exact Jfb f k n v0 v1 v2 v3 v4 v5))
noncomputable def Z9 (f : Nat) : List PV → List (Nat × Ent) → Kont → Option Res
  | [.ro 99 v0 v1 v2, .ow 5 560 [] 0 v3 none,
  PV.sc
    (Value.int IntKind.i64
      v4)], [(560, .vec false 5 false v5)], k => Yb f (fun x0 x1 => k (Ex.exit 0) (Jc W9 JbI [.ow 5 560 [] 0 x0 none] [(560, .vec false 5 false x1)])) f v0 v1 v2 v3 v4 v5
  | _, _, _ => none
theorem JnE (f : Nat) : Jg Gv Jbj = [] := by kernel_rfl
theorem Jss (f : Nat) : (Item.l Gv Wy JbI (Z9 f)).Ok tau Try.prog 0 := JJ Jq Jim Jr (x := Jbj) (nm2 := W9) (Jp _ _ (by rw [JnE f]; intro q hq; cases hq)) fun vs hp k res hr => by
  unfold Z9 at hr
  split at hr
  · exact ⟨f, 0, (Jfb f _ f _ _ _ _ _ _ ).trans hr⟩
  · cases hr
noncomputable def Jst (f : Nat) (o_z : Bool) (o_f : Bool) (o : List PV) (k : Res → Option Res) : Option Res := Yb f (fun x0_0 x1_0 => k (Res.mk (.ow 5 16 [] 0 x0_0 none) [] [.vec false 5 false x1_0])) f o_z o_f o ((apY [] (zi o.length)).length) (0) (apY [] (zi o.length))
theorem JzP (f : Nat) (o_z : Bool) (o_f : Bool) (o : List PV) (k : Res → Option Res) : JM tau Jk7 Try.f111 (Try.f111.body.get!) (Jin (Z9 f)) [] 0 [.ro 99 o_z o_f o] [] k = Jst f o_z o_f o k := by kernel_rfl
theorem JwM (f : Nat) : Jg (Try.f111.body.get!) (Jin (Z9 f)) = [.l Gv Wy JbI (Z9 f)] := by kernel_rfl
theorem JwN (f : Nat) : ∀ q ∈ Jg (Try.f111.body.get!) (Jin (Z9 f)), q.Ok tau Try.prog 0 := by
  rw [JwM f]; simp only [List.forall_mem_cons, List.not_mem_nil, false_implies, implies_true, and_true]; exact Jss f
theorem JpZ : Try.prog.funcs[111]? = some Try.f111 := by kernel_rfl
theorem Jp0 : Try.f111.body = some (Try.f111.body.get!) := by kernel_rfl
theorem JwO : Enters Try.prog 111 := enters_of JpZ (by kernel_rfl) Jp0
noncomputable def JwP : Fns := F0
theorem JnF : Jx tau Try.prog JwP := JE
def Jio : An := (.seq .leaf (.seq (.seq .leaf (.block none (.seq (.seq .leaf (.cond .leaf .leaf)) (.cond (.seq .leaf (.cond (.seq .leaf .leaf) .leaf)) (.seq .leaf (.cond (.seq .leaf (.cond (.seq .leaf .leaf) .leaf)) (.seq .leaf .leaf))))))) (.seq (.seq .leaf (.cond (.seq .leaf .leaf) .leaf)) (.seq .leaf .leaf))))
noncomputable def JnG (f : Nat) (c_Kind : Int) (c_N : Int) (c_S : ByteArray) (k : Res → Option Res) : Option Res :=
  bif c_Kind == 1 then
    bif c_Kind == 1 then
      bif decide (c_N < 1) then
        k (Res.mk (PV.sc (Value.int IntKind.i64 1)) [] [])
      else bif decide (c_N > 120) then
        k (Res.mk (PV.sc (Value.int IntKind.i64 1)) [] [])
      else bif !G7 c_S (ByteArray.mk (Array.mk [])) then
        k (Res.mk (PV.sc (Value.int IntKind.i64 1)) [] [])
      else bif decide (zi c_S.size > 120) then
        k (Res.mk (PV.sc (Value.int IntKind.i64 5)) [] [])
      else k (Res.mk (PV.sc (Value.int IntKind.i64 0)) [] [])
    else bif c_Kind == 2 then
      bif c_N != 0 then
        k (Res.mk (PV.sc (Value.int IntKind.i64 1)) [] [])
      else bif G7 c_S (ByteArray.mk (Array.mk [])) then
        k (Res.mk (PV.sc (Value.int IntKind.i64 1)) [] [])
      else bif decide (zi c_S.size > 120) then
        k (Res.mk (PV.sc (Value.int IntKind.i64 5)) [] [])
      else k (Res.mk (PV.sc (Value.int IntKind.i64 0)) [] [])
    else k (Res.mk (PV.sc (Value.int IntKind.i64 3)) [] [])
  else bif c_Kind == 3 then
    bif decide (c_N < 1) then
      k (Res.mk (PV.sc (Value.int IntKind.i64 1)) [] [])
    else bif decide (c_N > 120) then
      k (Res.mk (PV.sc (Value.int IntKind.i64 1)) [] [])
    else bif !G7 c_S (ByteArray.mk (Array.mk [])) then
      k (Res.mk (PV.sc (Value.int IntKind.i64 1)) [] [])
    else bif decide (zi c_S.size > 120) then
      k (Res.mk (PV.sc (Value.int IntKind.i64 5)) [] [])
    else k (Res.mk (PV.sc (Value.int IntKind.i64 0)) [] [])
  else bif c_Kind == 2 then
    bif c_N != 0 then
      k (Res.mk (PV.sc (Value.int IntKind.i64 1)) [] [])
    else bif G7 c_S (ByteArray.mk (Array.mk [])) then
      k (Res.mk (PV.sc (Value.int IntKind.i64 1)) [] [])
    else bif decide (zi c_S.size > 120) then
      k (Res.mk (PV.sc (Value.int IntKind.i64 5)) [] [])
    else k (Res.mk (PV.sc (Value.int IntKind.i64 0)) [] [])
  else k (Res.mk (PV.sc (Value.int IntKind.i64 3)) [] [])
theorem JzQ (f : Nat) (c_Kind : Int) (c_N : Int) (c_S : ByteArray) (k : Res → Option Res) : JM tau JwP Try.f167 (Try.f167.body.get!) Jio [.ro] 0 [.st 99 [.sc (.int .i64 c_Kind), .sc (.int .i64 c_N), .sc (.string c_S)]] [] k = JnG f c_Kind c_N c_S k := by kernel_rfl
theorem JwQ (f : Nat) : Jg (Try.f167.body.get!) Jio = [] := by kernel_rfl
theorem JwR (f : Nat) : ∀ q ∈ Jg (Try.f167.body.get!) Jio, q.Ok tau Try.prog 0 := by
  rw [JwQ f]; intro q hq; cases hq
theorem Jp1 : Try.prog.funcs[167]? = some Try.f167 := by kernel_rfl
theorem Jp2 : Try.f167.body = some (Try.f167.body.get!) := by kernel_rfl
theorem JwS : Enters Try.prog 167 := enters_of Jp1 (by kernel_rfl) Jp2
noncomputable def JgH : List PV → List Ent → (Res → Option Res) → Option Res
  | [.st 99 [.sc (.int .i64 c_Kind), .sc (.int .i64 c_N), .sc (.string c_S)]], [], k => JnG 0 c_Kind c_N c_S k
  | _, _, _ => none
noncomputable def JzR : Sig := { own := [], run := JgH }
theorem JwT : Jh tau Try.prog 167 JzR := JY Jq JnF Jr Jp1 Jp2 Jio [.ro] 0 [] JgH (JwR 0) fun xs es k res hr => by
  unfold JgH at hr
  split at hr
  · exact ⟨rfl, 0, (JzQ 0 _ _ _  _).trans hr⟩
  · cases hr

-- FN op.check | ref4.check
structure CV where
  (kd n : Int) (s : ByteArray)
def JgI (c : CV) : Int :=
  bif c.kd == 1 || c.kd == 3 then (bif decide (c.n < 1) || (decide (c.n > 120) || !(c.s.size == 0)) then 1 else 0)
  else bif c.kd == 2 then (bif !(c.n == 0) || c.s.size == 0 then 1 else bif decide (zi c.s.size > 120) then 5 else 0) else 3
noncomputable def ckC : CV → Int := hid JgI
theorem Jbk (c : CV) : ckC c = JgI c := by rw [ckC, hid_eq]
theorem Jk9 (s : ByteArray) : G7 s (ByteArray.mk (Array.mk [])) = (s.size == 0) := by
  rw [Jmj]
  cases h : (s.size == 0) with
  | true =>
    have hs : s.size = 0 := by simpa using h
    refine decide_eq_true (ByteArray.ext (Array.eq_empty_of_size_eq_zero hs))
  | false =>
    refine decide_eq_false fun he => ?_
    rw [he] at h
    exact absurd h (by decide)
theorem JnH (kd n : Int) (s : ByteArray) (k : Res → Option Res) : JnG 0 kd n s k = k ⟨.sc (.int .i64 (ckC ⟨kd, n, s⟩)), [], []⟩ := by
  rw [Jbk]
  unfold JnG JgI
  simp only [Jk9, bne]
  have hcomb : (s.size == 0) = true → decide (zi s.size > 120) = false := fun h => by
    have : s.size = 0 := by simpa using h
    rw [this]; decide
  generalize (s.size == 0) = e0 at *
  generalize decide (zi s.size > 120) = e1 at *
  generalize decide (n < 1) = a
  generalize decide (n > 120) = b
  generalize (n == 0) = c
  generalize (kd == 1) = d1
  generalize (kd == 2) = d2
  generalize (kd == 3) = d3
  cases d1 <;> cases d3 <;> cases d2 <;> cases e0 <;> cases e1 <;> cases a <;> cases b <;> cases c <;> first | rfl | exact absurd (hcomb rfl) (by decide)
noncomputable def JdB : List PV → List Ent → (Res → Option Res) → Option Res
  | [.st 99 [.sc (.int .i64 kd), .sc (.int .i64 n), .sc (.string s)]], [], k => k ⟨.sc (.int .i64 (ckC ⟨kd, n, s⟩)), [], []⟩
  | _, _, _ => none
noncomputable def Jp3 : Sig := { own := [], run := JdB }
theorem Jsu : Jh tau Try.prog 167 Jp3 := JwT.of fun xs es k res hr => by
  change JdB xs es k = some res at hr
  unfold JdB at hr
  split at hr
  · rename_i kd n s
    exact (JnH kd n s k).trans hr
  · cases hr
def VV : Nat := 21
noncomputable def Jla : Fns := JG 167 Jp3 (F0)
theorem Jip : Jx tau Try.prog Jla := (JE).add Jsu JwS
noncomputable def Gw : Code := Qs (Try.f160.body.get!) [1, 1, 0, 1, 0, 0]
def Wz : Nm := [(9, .any), (10, .any), (11, .any)]
def QH : Nm := [(2, .any)]
def Jbl : An := (.seq .leaf (.seq (.cond .leaf .leaf) (.seq (.block none (.seq .leaf (.seq .leaf (.seq .leaf (.cond (.seq .leaf .leaf) .leaf))))) .leaf)))
def Jiq (r0 : QZ) : An := (.seq .leaf (.seq (.seq .leaf (.cond (.seq .leaf .leaf) .leaf)) (.seq (.seq .leaf (.block none (.sum Wz VV r0))) (.seq .leaf .leaf))))
noncomputable def Zb (f : Nat) (rc : Bool → Bool → List PV → Int → Int → Option Res) (k0 : Int → Option Res) (k1 : Option Res) (v0 : Bool) (v1 : Bool) (v2 : List PV) (v3 : Int) (v4 : Int) : Option Res :=
  bif decide (v4 < v3) then
    bif decide (0 ≤ v4) && decide (v4 < zi v2.length) &&
        (PV.isSt 99 #[Field.mk "Kind" 3 0 false "" "" 0, Field.mk "N" 3 1 false "" "" 8, Field.mk "S" 9 2 false "" "" 16].size (v2.getD v4.toNat PV.top) &&
          (PV.isInt IntKind.i64 (PV.child 0 (v2.getD v4.toNat PV.top)) &&
            (PV.isInt IntKind.i64 (PV.child (0 + 1) (v2.getD v4.toNat PV.top)) && ((PV.child (0 + 1 + 1) (v2.getD v4.toNat PV.top)).isStr && true)))) &&
      true then
      bif ckC (CV.mk (PV.child 0 (v2.getD v4.toNat PV.top)).int (PV.child (0 + 1) (v2.getD v4.toNat PV.top)).int (PV.child (0 + 1 + 1) (v2.getD v4.toNat PV.top)).str) != 0 then
        k0 (ckC (CV.mk (PV.child 0 (v2.getD v4.toNat PV.top)).int (PV.child (0 + 1) (v2.getD v4.toNat PV.top)).int (PV.child (0 + 1 + 1) (v2.getD v4.toNat PV.top)).str))
      else rc v0 v1 v2 v3 (IntKind.i64.wrap (v4 + 1))
    else none
  else k1
noncomputable def Yc (f : Nat) (k0 : Int → Option Res) (k1 : Option Res) : Nat → Bool → Bool → List PV → Int → Int → Option Res
  | 0, _, _, _, _, _ => none
  | n + 1, v0, v1, v2, v3, v4 => Zb f (Yc f k0 k1 n) k0 k1 v0 v1 v2 v3 v4
theorem Jlb (f : Nat) (k : Kont) (n : Nat) (v0 : Bool) (v1 : Bool) (v2 : List
  PV) (v3 : Int) (v4 : Int) : Jo tau 0 Wz (fun s k => ev tau Jla 0 0 Gw (Jbl ) s k) (n + 1) (Jc Wz VV [PV.ro 99 v0 v1 v2, PV.sc (Value.int IntKind.i64 v3),
  PV.sc
    (Value.int IntKind.i64
      v4)] []) (Jv tau 0 QH k) = Zb f (fun v0 v1 v2 v3 v4 => Jo tau 0 Wz (fun s k => ev tau Jla 0 0 Gw (Jbl ) s k) n (Jc Wz VV [PV.ro 99 v0 v1 v2,
  PV.sc (Value.int IntKind.i64 v3),
  PV.sc
    (Value.int IntKind.i64
      v4)] []) (Jv tau 0 QH k)) (fun x0 => k Ex.ret (Jc QH VV [PV.sc (Value.int IntKind.i64 x0)] [])) (k (Ex.exit 0) (Jc QH VV [PV.top] [])) v0 v1 v2 v3 v4 := by kernel_rfl
theorem Jfc (f : Nat) (k : Kont) : ∀ (n : Nat) (v0 : Bool) (v1 : Bool) (v2 : List
  PV) (v3 : Int) (v4 : Int), Jo tau 0 Wz (fun s k => ev tau Jla 0 0 Gw (Jbl ) s k) n (Jc Wz VV [PV.ro 99 v0 v1 v2, PV.sc (Value.int IntKind.i64 v3),
  PV.sc
    (Value.int IntKind.i64
      v4)] []) (Jv tau 0 QH k) = Yc f (fun x0 => k Ex.ret (Jc QH VV [PV.sc (Value.int IntKind.i64 x0)] [])) (k (Ex.exit 0) (Jc QH VV [PV.top] [])) n v0 v1 v2 v3 v4
  | 0, _, _, _, _, _ => rfl
  | n + 1, v0, v1, v2, v3, v4 => (Jlb f k n v0 v1 v2 v3 v4).trans (congrArg (fun r => Zb f r (fun x0 => k Ex.ret (Jc QH VV [PV.sc
    (Value.int IntKind.i64 x0)] [])) (k (Ex.exit 0) (Jc QH VV [PV.top] [])) v0 v1 v2 v3 v4) (by funext v0 v1 v2 v3 v4; exact Jfc f k n v0 v1 v2 v3 v4))
noncomputable def Va (f : Nat) : List PV → List (Nat × Ent) → Kont → Option Res
  | [PV.ro 99 v0 v1 v2, PV.sc (Value.int IntKind.i64 v3),
  PV.sc
    (Value.int IntKind.i64 v4)], [], k => Yc f (fun x0 => k Ex.ret (Jc QH VV [PV.sc (Value.int IntKind.i64 x0)] [])) (k (Ex.exit 0) (Jc QH VV [PV.top] [])) f v0 v1 v2 v3 v4
  | _, _, _ => none
theorem JnI (f : Nat) : Jg Gw Jbl = [] := by kernel_rfl
theorem Jsv (f : Nat) : (Item.l Gw Wz VV (Va f)).Ok tau Try.prog 0 := JJ Jq Jip Jr (x := Jbl) (nm2 := QH) (Jp _ _ (by rw [JnI f]; intro q hq; cases hq)) fun vs hp k res hr => by
  unfold Va at hr
  split at hr
  · exact ⟨f, 0, (Jfc f _ f _ _ _ _ _ ).trans hr⟩
  · cases hr
noncomputable def Jsw (f : Nat) (o_z : Bool) (o_f : Bool) (o : List PV) (k : Res → Option Res) : Option Res :=
  bif decide (zi o.length > 40) then
    k (Res.mk (PV.sc (Value.int IntKind.i64 4)) [] [])
  else Yc f (fun x0_0 =>
    k (Res.mk (PV.sc (Value.int IntKind.i64 x0_0)) [] [])) (k (Res.mk (PV.sc (Value.int IntKind.i64 0)) [] [])) f o_z o_f o (zi o.length) (0)
theorem JzS (f : Nat) (o_z : Bool) (o_f : Bool) (o : List PV) (k : Res → Option Res) : JM tau Jla Try.f160 (Try.f160.body.get!) (Jiq (Va f)) [.ro] 0 [.ro 99 o_z o_f o] [] k = Jsw f o_z o_f o k := by kernel_rfl
theorem JwU (f : Nat) : Jg (Try.f160.body.get!) (Jiq (Va f)) = [.l Gw Wz VV (Va f)] := by kernel_rfl
theorem JwV (f : Nat) : ∀ q ∈ Jg (Try.f160.body.get!) (Jiq (Va f)), q.Ok tau Try.prog 0 := by
  rw [JwU f]; simp only [List.forall_mem_cons, List.not_mem_nil, false_implies, implies_true, and_true]; exact Jsv f
theorem Jp4 : Try.prog.funcs[160]? = some Try.f160 := by kernel_rfl
theorem Jp5 : Try.f160.body = some (Try.f160.body.get!) := by kernel_rfl
theorem Jp6 : Enters Try.prog 160 := enters_of Jp4 (by kernel_rfl) Jp5

def N99 : Nat := 20
noncomputable def F99 : Fns := F0
theorem Jlc : Jx tau Try.prog F99 := JE
noncomputable def Jcy : Code := Qs (Try.f99.body.get!) [1, 0, 1, 0, 0]
def Yd : Nm := [(0, .any), (3, .any)]
def Wl : Nm := [(0, .any), (2, .any)]
def Jfd : An := (.seq (.seq .leaf (.cond .leaf .leaf)) (.seq (.block none (.seq .leaf (.cond (.seq .leaf .leaf) .leaf))) .leaf))
def JnJ (r0 : QZ) : An := (.seq .leaf (.seq (.seq .leaf (.block none (.sum Yd N99 r0))) (.seq .leaf .leaf)))
noncomputable def VW (f : Nat) (rc : Bool → Bool → List PV → Int → Option Res) (k0 : Bool → Bool → List PV → Bool → Option Res) (k1 : Bool → Bool → List PV → Option Res) (v0 : Bool) (v1 : Bool) (v2 : List PV) (v3 : Int) : Option Res := bif decide (v3 < zi v2.length) then bif decide (0 ≤ v3) && decide (v3 < zi v2.length) && (PV.isSt 99 #[Field.mk "Kind" 3 0 false "" "" 0, Field.mk "N" 3 1 false "" "" 8, Field.mk "S" 9 2 false "" "" 16].size (v2.getD v3.toNat PV.top) && (PV.isInt IntKind.i64 (PV.child 0 (v2.getD v3.toNat PV.top)) && (PV.isInt IntKind.i64 (PV.child (0 + 1) (v2.getD v3.toNat PV.top)) && ((PV.child (0 + 1 + 1) (v2.getD v3.toNat PV.top)).isStr && true)))) && true then bif decide (zi (PV.child (0 + 1 + 1) (v2.getD v3.toNat PV.top)).str.size > 150) then k0 v0 v1 v2 false else rc v0 v1 v2 (IntKind.i64.wrap (v3 + 1)) else none else k1 v0 v1 v2
noncomputable def Vb (f : Nat) (k0 : Bool → Bool → List PV → Bool → Option Res) (k1 : Bool → Bool → List PV → Option Res) : Nat → Bool → Bool → List PV → Int → Option Res
  | 0, _, _, _, _ => none
  | n + 1, v0, v1, v2, v3 => VW f (Vb f k0 k1 n) k0 k1 v0 v1 v2 v3
theorem JnK (f : Nat) (k : Kont) (n : Nat) (v0 : Bool) (v1 : Bool) (v2 : List PV) (v3 : Int) : Jo tau 0 Yd (fun s k => ev tau F99 0 0 Jcy (Jfd ) s k) (n + 1) (Jc Yd N99 [.ro 99 v0 v1 v2, .sc (.int .i64 v3)] []) (Jv tau 0 Wl k) = VW f (fun v0 v1 v2 v3 => Jo tau 0 Yd (fun s k => ev tau F99 0 0 Jcy (Jfd ) s k) n (Jc Yd N99 [.ro 99 v0 v1 v2, .sc (.int .i64 v3)] []) (Jv tau 0 Wl k)) (fun x0 x1 x2 x3 => k Ex.ret (Jc Wl N99 [.ro 99 x0 x1 x2, .sc (.bool x3)] [])) (fun x0 x1 x2 => k (Ex.exit 0) (Jc Wl N99 [.ro 99 x0 x1 x2, PV.top] [])) v0 v1 v2 v3 := by kernel_rfl
theorem Jir (f : Nat) (k : Kont) : ∀ (n : Nat) (v0 : Bool) (v1 : Bool) (v2 : List PV) (v3 : Int), Jo tau 0 Yd (fun s k => ev tau F99 0 0 Jcy (Jfd ) s k) n (Jc Yd N99 [.ro 99 v0 v1 v2, .sc (.int .i64 v3)] []) (Jv tau 0 Wl k) = Vb f (fun x0 x1 x2 x3 => k Ex.ret (Jc Wl N99 [.ro 99 x0 x1 x2, .sc (.bool x3)] [])) (fun x0 x1 x2 => k (Ex.exit 0) (Jc Wl N99 [.ro 99 x0 x1 x2, PV.top] [])) n v0 v1 v2 v3 | 0, _, _, _, _ => rfl | n + 1, v0, v1, v2, v3 => (JnK f k n v0 v1 v2 v3).trans (congrArg (fun r => VW f r (fun x0 x1 x2 x3 => k Ex.ret (Jc Wl N99 [.ro 99 x0 x1 x2, .sc (.bool x3)] [])) (fun x0 x1 x2 => k (Ex.exit 0) (Jc Wl N99 [.ro 99 x0 x1 x2, PV.top] [])) v0 v1 v2 v3) (by funext v0 v1 v2 v3; exact Jir f k n v0 v1 v2 v3))
noncomputable def Jbm (f : Nat) : List PV → List (Nat × Ent) → Kont → Option Res
  | [.ro 99 v0 v1 v2,
  PV.sc
    (Value.int IntKind.i64
      v3)], [], k => Vb f (fun x0 x1 x2 x3 => k Ex.ret (Jc Wl N99 [.ro 99 x0 x1 x2,
  .sc (.bool x3)] [])) (fun x0 x1 x2 => k (Ex.exit 0) (Jc Wl N99 [.ro 99 x0 x1 x2, PV.top] [])) f v0 v1 v2 v3
  | _, _, _ => none
theorem Jsx (f : Nat) : Jg Jcy Jfd = [] := by kernel_rfl
theorem JwW (f : Nat) : (Item.l Jcy Yd N99 (Jbm f)).Ok tau Try.prog 0 := JJ Jq Jlc Jr (x := Jfd) (nm2 := Wl) (Jp _ _ (by rw [Jsx f]; intro q hq; cases hq)) fun vs hp k res hr => by
  unfold Jbm at hr
  split at hr
  · exact ⟨f, 0, (Jir f _ f _ _ _ _ ).trans hr⟩
  · cases hr
noncomputable def g99 (f : Nat) (o_z : Bool) (o_f : Bool) (o : List PV) (k : Res → Option Res) : Option Res := Vb f (fun x0_0 x1_0 x2_0 x3_0 => k (Res.mk (.sc (.bool x3_0)) [] [])) (fun x0_1 x1_1 x2_1 => k (Res.mk (.sc (.bool (decide (zi x2_1.length ≤ 50)))) [] [])) f o_z o_f o (0)
theorem e99 (f : Nat) (o_z : Bool) (o_f : Bool) (o : List PV) (k : Res → Option Res) : JM tau F99 Try.f99 (Try.f99.body.get!) (JnJ (Jbm f)) [.ro] 0 [.ro 99 o_z o_f o] [] k = g99 f o_z o_f o k := by kernel_rfl
theorem JzT (f : Nat) : Jg (Try.f99.body.get!) (JnJ (Jbm f)) = [.l Jcy Yd N99 (Jbm f)] := by kernel_rfl
theorem JzU (f : Nat) : ∀ q ∈ Jg (Try.f99.body.get!) (JnJ (Jbm f)), q.Ok tau Try.prog 0 := by
  rw [JzT f]; simp only [List.forall_mem_cons, List.not_mem_nil, false_implies, implies_true, and_true]; exact JwW f
theorem JwX : Try.prog.funcs[99]? = some Try.f99 := by kernel_rfl
theorem JwY : Try.f99.body = some (Try.f99.body.get!) := by kernel_rfl
theorem JzV : Enters Try.prog 99 := enters_of JwX (by kernel_rfl) JwY
-- FN op.Check | ref4.Check | law4.Few
def isCp : PV → Bool
  | .st t [.sc (.int .i64 _), .sc (.int .i64 _), .sc (.string _)] => t == 99
  | _ => false
theorem VX {p : PV} : isCp p = true ↔ ∃ kd n s, p = .st 99 [.sc (.int .i64 kd), .sc (.int .i64 n), .sc (.string s)] := by
  constructor
  · intro h
    unfold isCp at h
    split at h
    · rename_i t kd n s
      obtain rfl : t = 99 := by simpa using h
      exact ⟨kd, n, s, rfl⟩
    · cases h
  · rintro ⟨kd, n, s, rfl⟩; rfl
def cv (p : PV) : CV := ⟨(p.child 0).int, (p.child 1).int, (p.child 2).str⟩
theorem Xv {p : PV} (h : isCp p = true) : (PV.isSt 99 #[Field.mk "Kind" 3 0 false "" "" 0, Field.mk "N" 3 1 false "" "" 8, Field.mk "S" 9 2 false "" "" 16].size p && (PV.isInt IntKind.i64 (PV.child 0 p) && (PV.isInt IntKind.i64 (PV.child (0 + 1) p) && ((PV.child (0 + 1 + 1) p).isStr && true)))) = true := by
  obtain ⟨kd, n, s, rfl⟩ := VX.1 h
  simp [PV.isSt, PV.child, PV.isInt, PV.isStr]
theorem Xw {l : List PV} (h : l.all isCp = true) {i : Nat} (hi : i < l.length) : isCp (l.getD i .top) = true := by
  rw [List.getD_eq_getElem?_getD, List.getElem?_eq_getElem hi]
  exact List.all_eq_true.1 h _ (List.getElem_mem hi)
noncomputable def ckL : List PV → Int
  | [] => 0
  | p :: r => bif ckC (cv p) == 0 then ckL r else ckC (cv p)
noncomputable def Jld (l : List PV) : Int := bif decide (zi l.length > 40) then 4 else ckL l
noncomputable def ckO : List PV → Int := hid Jld
theorem JdC (l : List PV) : ckO l = Jld l := by rw [ckO, hid_eq]
noncomputable def cOk : List PV → Bool := hid fun l => l.all isCp && Nat.ble l.length 9223372036854775807
theorem VY {l : List PV} : cOk l = true ↔ l.all isCp = true ∧ l.length ≤ 9223372036854775807 := by
  rw [cOk, hid_eq, Bool.and_eq_true, Nat.ble_eq]
theorem Xx {l : List PV} {i : Nat} (h : i < l.length) : l.drop i = l.getD i .top :: l.drop (i + 1) := by
  rw [List.drop_eq_getElem_cons h]; simp [List.getD_eq_getElem?_getD, h]
theorem Jle (l : List PV) (h1 : l.all isCp = true) (h2 : l.length ≤ 40) (f : Nat) (k0 : Int → Option Res) (k1 : Option Res) (z fl : Bool) : ∀ (d i n : Nat), i + d = l.length → d < n →
    Yc f k0 k1 n z fl l (zi l.length) (i : Int) = bif ckL (l.drop i) == 0 then k1 else k0 (ckL (l.drop i))
  | 0, i, n + 1, hi, hn => by
      rw [List.drop_of_length_le (by omega)]
      simp only [Yc, Zb]
      exact JA (by simp [zi]; omega)
  | d + 1, i, n + 1, hi, hn => by
      have g1 : ((i : Int)).toNat = i := by omega
      have w1 : IntKind.i64.wrap ((i : Int) + 1) = ((i + 1 : Nat) : Int) := by rw [wrap_i64 (by omega) (by omega)]; omega
      have hro : (decide (0 ≤ (i : Int)) && decide ((i : Int) < zi l.length) && (PV.isSt 99 #[Field.mk "Kind" 3 0 false "" "" 0, Field.mk "N" 3 1 false "" "" 8, Field.mk "S" 9 2 false "" "" 16].size (l.getD i PV.top) && (PV.isInt IntKind.i64 (PV.child 0 (l.getD i PV.top)) && (PV.isInt IntKind.i64 (PV.child (0 + 1) (l.getD i PV.top)) && ((PV.child (0 + 1 + 1) (l.getD i PV.top)).isStr && true)))) && true) = true := by
        have hq : (PV.isSt 99 #[Field.mk "Kind" 3 0 false "" "" 0, Field.mk "N" 3 1 false "" "" 8, Field.mk "S" 9 2 false "" "" 16].size (l.getD i PV.top) && (PV.isInt IntKind.i64 (PV.child 0 (l.getD i PV.top)) && (PV.isInt IntKind.i64 (PV.child (0 + 1) (l.getD i PV.top)) && ((PV.child (0 + 1 + 1) (l.getD i PV.top)).isStr && true)))) = true := Xv (Xw h1 (by omega))
        rw [hq]; simp [zi]; omega
      have hd := Xx (l := l) (i := i) (by omega)
      have hs : CV.mk (PV.child 0 (l.getD i PV.top)).int (PV.child (0 + 1) (l.getD i PV.top)).int (PV.child (0 + 1 + 1) (l.getD i PV.top)).str = cv (l.getD i .top) := rfl
      simp only [Yc, Zb, g1, w1, hs]
      refine (Ja (by simp [zi]; omega)).trans ((Ja hro).trans ?_)
      rw [hd]
      cases hc : (ckC (cv (l.getD i .top)) == 0) with
      | true =>
        refine (JA (by simp only [bne, hc]; rfl)).trans ?_
        rw [Jle l h1 h2 f k0 k1 z fl d (i + 1) n (by omega) (by omega)]
        simp only [ckL, hc, cond_true]
      | false =>
        refine (Ja (by simp only [bne, hc]; rfl)).trans ?_
        simp only [ckL, hc, cond_false]
noncomputable def JdD : List PV → List Ent → (Res → Option Res) → Option Res
  | [.ro 99 z f l], [], k => bif cOk l then k ⟨.sc (.int .i64 (ckO l)), [], []⟩ else none
  | _, _, _ => none
noncomputable def Jlf : Sig := { own := [], run := JdD }
theorem JnL (z f : Bool) (l : List PV) (h : cOk l = true) (k : Res → Option Res) : Jsw 50 z f l k = k ⟨.sc (.int .i64 (ckO l)), [], []⟩ := by
  obtain ⟨h1, h2⟩ := VY.1 h
  rw [JdC]
  unfold Jsw Jld
  cases hc : decide (zi l.length > 40) with
  | true => rfl
  | false =>
    have hl : l.length ≤ 40 := by simp only [zi, decide_eq_false_iff_not] at hc; omega
    rw [cond_false, cond_false]
    refine (Jle l h1 hl 50 _ _ z f l.length 0 50 (by omega) (by omega)).trans ?_
    rw [List.drop_zero]
    cases h0 : (ckL l == 0) with
    | true =>
      have : ckL l = 0 := by simpa using h0
      rw [this]; rfl
    | false => rfl
theorem Jlg : Jh tau Try.prog 160 Jlf := Jh.mk' fun xs es k res hl hr => by
  change JdD xs es k = some res at hr
  unfold JdD at hr
  split at hr
  · rename_i z f l
    obtain ⟨hc, hr⟩ := JH hr
    exact Ql Jq Jip Jr Jp4 Jp5 (Jiq (Va 50)) [.ro] 0 0 (JwV 50) hl rfl ((JzS 50 z f l k).trans ((JnL z f l hc k).trans hr))
  · cases hr
noncomputable def JgJ : List PV → Bool := hid fun l => l.all (fun p => decide ((cv p).s.size ≤ 150)) && decide (l.length ≤ 50)
theorem JnM (l : List PV) : JgJ l = (l.all (fun p => decide ((cv p).s.size ≤ 150)) && decide (l.length ≤ 50)) := by rw [JgJ, hid_eq]
theorem Jp7 (l : List PV) (h1 : l.all isCp = true) (h2 : l.length ≤ 9223372036854775807) (f : Nat) (k0 : Bool → Bool → List PV → Bool → Option Res) (k1 : Bool → Bool → List PV → Option Res) (z fl : Bool) : ∀ (d i n : Nat), i + d = l.length → d < n →
    Vb f k0 k1 n z fl l (i : Int) = bif (l.drop i).all (fun p => decide ((cv p).s.size ≤ 150)) then k1 z fl l else k0 z fl l false
  | 0, i, n + 1, hi, hn => by
      rw [List.drop_of_length_le (by omega)]
      simp only [Vb, VW]
      exact JA (by simp [zi]; omega)
  | d + 1, i, n + 1, hi, hn => by
      have g1 : ((i : Int)).toNat = i := by omega
      have w1 : IntKind.i64.wrap ((i : Int) + 1) = ((i + 1 : Nat) : Int) := by rw [wrap_i64 (by omega) (by omega)]; omega
      have hro : (decide (0 ≤ (i : Int)) && decide ((i : Int) < zi l.length) && (PV.isSt 99 #[Field.mk "Kind" 3 0 false "" "" 0, Field.mk "N" 3 1 false "" "" 8, Field.mk "S" 9 2 false "" "" 16].size (l.getD i PV.top) && (PV.isInt IntKind.i64 (PV.child 0 (l.getD i PV.top)) && (PV.isInt IntKind.i64 (PV.child (0 + 1) (l.getD i PV.top)) && ((PV.child (0 + 1 + 1) (l.getD i PV.top)).isStr && true)))) && true) = true := by
        have hq : (PV.isSt 99 #[Field.mk "Kind" 3 0 false "" "" 0, Field.mk "N" 3 1 false "" "" 8, Field.mk "S" 9 2 false "" "" 16].size (l.getD i PV.top) && (PV.isInt IntKind.i64 (PV.child 0 (l.getD i PV.top)) && (PV.isInt IntKind.i64 (PV.child (0 + 1) (l.getD i PV.top)) && ((PV.child (0 + 1 + 1) (l.getD i PV.top)).isStr && true)))) = true := Xv (Xw h1 (by omega))
        rw [hq]; simp [zi]; omega
      have hd := Xx (l := l) (i := i) (by omega)
      have hs : (PV.child (0 + 1 + 1) (l.getD i PV.top)).str = (cv (l.getD i .top)).s := rfl
      simp only [Vb, VW, g1, w1, hs]
      refine (Ja (by simp [zi]; omega)).trans ((Ja hro).trans ?_)
      rw [hd, List.all_cons]
      by_cases hc : (cv (l.getD i .top)).s.size ≤ 150
      · refine (JA (by simp only [zi, decide_eq_false_iff_not]; omega)).trans ?_
        rw [decide_eq_true hc, Bool.true_and]
        exact Jp7 l h1 h2 f k0 k1 z fl d (i + 1) n (by omega) (by omega)
      · refine (Ja (by simp only [zi, decide_eq_true_eq]; omega)).trans ?_
        rw [decide_eq_false hc]; rfl
noncomputable def JgK : List PV → List Ent → (Res → Option Res) → Option Res
  | [.ro 99 z f l], [], k => bif cOk l then k ⟨.sc (.bool (JgJ l)), [], []⟩ else none
  | _, _, _ => none
noncomputable def JwZ : Sig := { own := [], run := JgK }
theorem Jsy (z f : Bool) (l : List PV) (h : cOk l = true) (k : Res → Option Res) : g99 (l.length + 2) z f l k = k ⟨.sc (.bool (JgJ l)), [], []⟩ := by
  obtain ⟨h1, h2⟩ := VY.1 h
  unfold g99
  refine (Jp7 l h1 h2 (l.length + 2) _ _ z f l.length 0 (l.length + 2) (by omega) (by omega)).trans ?_
  rw [List.drop_zero, JnM]
  have e : decide (zi l.length ≤ 50) = decide (l.length ≤ 50) := by apply decide_eq_decide.2; simp only [zi]; omega
  rw [e]
  cases l.all (fun p => decide ((cv p).s.size ≤ 150)) <;> rfl
theorem Jw0 : Jh tau Try.prog 99 JwZ := Jh.mk' fun xs es k res hl hr => by
  change JgK xs es k = some res at hr
  unfold JgK at hr
  split at hr
  · rename_i z f l
    obtain ⟨hc, hr⟩ := JH hr
    exact Ql Jq Jlc Jr JwX JwY (JnJ (Jbm (l.length + 2))) [.ro] 0 0 (JzU (l.length + 2)) hl rfl ((e99 (l.length + 2) z f l k).trans ((Jsy z f l hc k).trans hr))
  · cases hr
-- FN delta.OpBytes | ref8.OpBytes
noncomputable def Zc (c : CV) : List Int := [IntKind.u8.wrap c.kd] ++ (J4 c.n ++ Qf c.s)
noncomputable def J9 (l : List PV) : List Int := l.flatMap fun p => Zc (cv p)
noncomputable def Jjl (l : List PV) : List Int := [IntKind.u8.wrap (zi l.length)] ++ J9 l
noncomputable def opB : List PV → List Int := hid Jjl
theorem Gx (l : List PV) : opB l = Jjl l := by rw [opB, hid_eq]
theorem WA (c : CV) : (Zc c).length = c.s.size + 11 := by simp [Zc]; omega
theorem Jlh (c : CV) : ∀ x ∈ Zc c, 0 ≤ x ∧ x < 256 := by
  intro x hx
  simp only [Zc, List.mem_append, List.mem_singleton] at hx
  rcases hx with rfl | h | h
  · exact Zu _
  · exact XX _ x h
  · exact JeZ _ x h
theorem Jsz (l : List PV) : ∀ x ∈ opB l, 0 ≤ x ∧ x < 256 := by
  intro x hx
  rw [Gx] at hx
  rcases List.mem_append.1 hx with h | h
  · rw [List.mem_singleton.1 h]; exact Zu _
  · obtain ⟨p, _, h⟩ := List.mem_flatMap.1 h
    exact Jlh _ x h
noncomputable def cBy : List PV → Bool := hid fun l => l.all isCp && (l.all (fun p => decide ((cv p).s.size ≤ 65535)) && decide (l.length ≤ 1000))
theorem Zy {l : List PV} : cBy l = true ↔ l.all isCp = true ∧ (∀ p ∈ l, (cv p).s.size ≤ 65535) ∧ l.length ≤ 1000 := by
  rw [cBy, hid_eq]; simp only [Bool.and_eq_true, List.all_eq_true, decide_eq_true_eq]
theorem Jbn (m : Nat) : ∀ l : List PV, (∀ p ∈ l, (cv p).s.size ≤ m) → (J9 l).length ≤ l.length * (m + 11)
  | [], _ => by simp [J9]
  | p :: l, h => by
      have h1 := h p List.mem_cons_self
      have h2 := Jbn m l fun x hx => h x (List.mem_cons_of_mem _ hx)
      simp only [J9, List.flatMap_cons, List.length_append, WA, List.length_cons, Nat.add_mul] at h2 ⊢
      omega
theorem JdE (L : List PV) (p : PV) : apT (apI (apY L (PV.child 0 p).int) (PV.child (0 + 1) p).int) (PV.child (0 + 1 + 1) p).str = L ++ pu .u8 (Zc (cv p)) := by
  rw [Xh, Y7, Z7]
  show _ = L ++ pu .u8 ([IntKind.u8.wrap (PV.child 0 p).int] ++ (J4 (PV.child (0 + 1) p).int ++ Qf (PV.child (0 + 1 + 1) p).str))
  simp only [JO, List.append_assoc]
theorem Wb (L : List PV) (n : Int) : (apY L n).length = L.length + 1 := by rw [Z7]; simp
theorem Zz (L : List PV) (n : Int) : (apI L n).length = L.length + 8 := by rw [Y7]; simp
theorem Xi {l : List PV} (h : l.length ≤ 1000000000) : okL l.length l = true := by
  rw [Jdv, Bool.and_eq_true, Nat.beq_eq, Nat.ble_eq]; exact ⟨rfl, h⟩
theorem QM {l : List PV} (h : l.length ≤ 1000000000) : okZ false l = true := by rw [Y8]; exact Q8.2 ⟨fun h => (by cases h), h⟩
theorem Jli (l : List PV) (h1 : l.all isCp = true) (h3 : ∀ p ∈ l, (cv p).s.size ≤ 65535) (h2 : l.length ≤ 1000) (f : Nat) (k0 : Nat → List PV → Option Res) (z fl : Bool) : ∀ (d i n : Nat) (L : List PV), i + d = l.length → d < n → L.length ≤ 1 + i * 65546 →
    Ya f k0 n z fl l L.length (i : Int) L = k0 (L ++ pu .u8 (J9 (l.drop i))).length (L ++ pu .u8 (J9 (l.drop i)))
  | 0, i, n + 1, L, hi, hn, hL => by
      rw [List.drop_of_length_le (by omega)]
      simp only [Ya, Y9, J9, List.flatMap_nil, Jf5, List.append_nil]
      exact JA (by simp [zi]; omega)
  | d + 1, i, n + 1, L, hi, hn, hL => by
      have g1 : ((i : Int)).toNat = i := by omega
      have w1 : IntKind.i64.wrap ((i : Int) + 1) = ((i + 1 : Nat) : Int) := by rw [wrap_i64 (by omega) (by omega)]; omega
      have hro : (decide (0 ≤ (i : Int)) && decide ((i : Int) < zi l.length) && (PV.isSt 99 #[Field.mk "Kind" 3 0 false "" "" 0, Field.mk "N" 3 1 false "" "" 8, Field.mk "S" 9 2 false "" "" 16].size (l.getD i PV.top) && (PV.isInt IntKind.i64 (PV.child 0 (l.getD i PV.top)) && (PV.isInt IntKind.i64 (PV.child (0 + 1) (l.getD i PV.top)) && ((PV.child (0 + 1 + 1) (l.getD i PV.top)).isStr && true)))) && true) = true := by
        have hq : (PV.isSt 99 #[Field.mk "Kind" 3 0 false "" "" 0, Field.mk "N" 3 1 false "" "" 8, Field.mk "S" 9 2 false "" "" 16].size (l.getD i PV.top) && (PV.isInt IntKind.i64 (PV.child 0 (l.getD i PV.top)) && (PV.isInt IntKind.i64 (PV.child (0 + 1) (l.getD i PV.top)) && ((PV.child (0 + 1 + 1) (l.getD i PV.top)).isStr && true)))) = true := Xv (Xw h1 (by omega))
        rw [hq]; simp [zi]; omega
      have hd := Xx (l := l) (i := i) (by omega)
      have hmem : l.getD i .top ∈ l := by rw [List.getD_eq_getElem?_getD, List.getElem?_eq_getElem (by omega)]; exact List.getElem_mem (by omega)
      have hsz := h3 _ hmem
      have hs2 : (PV.child (0 + 1 + 1) (l.getD i PV.top)).str.size.ble 65535 = true := Nat.ble_eq.symm ▸ hsz
      have hi2 : i * 65546 ≤ 999 * 65546 := Nat.mul_le_mul_right _ (by omega)
      simp only [Ya, Y9, g1, w1, List.take_length]
      refine (Ja (by simp [zi]; omega)).trans ((Ja hro).trans ((Ja (QM (by omega))).trans ((Ja hro).trans ((Ja (QM (by rw [Wb]; omega))).trans ((Ja hro).trans ((Ja (by rw [QM (by rw [Zz, Wb]; omega), hs2]; rfl)).trans ?_))))))
      rw [JdE]
      refine (Jli l h1 h3 h2 f k0 z fl d (i + 1) n _ (by omega) (by omega) (by rw [List.length_append, JI, WA]; omega)).trans ?_
      rw [hd]
      simp only [J9, List.flatMap_cons, JO, List.append_assoc]
theorem Jlj (l : List PV) (h1 : l.all isCp = true) (h3 : ∀ p ∈ l, (cv p).s.size ≤ 65535) (h2 : l.length ≤ 1000) (f : Nat) (k0 : Nat → List PV → Option Res) (z fl : Bool) : ∀ (d i n : Nat) (L : List PV), i + d = l.length → d < n → L.length ≤ 1 + i * 65546 →
    Yb f k0 n z fl l L.length (i : Int) L = k0 (L ++ pu .u8 (J9 (l.drop i))).length (L ++ pu .u8 (J9 (l.drop i)))
  | 0, i, n + 1, L, hi, hn, hL => by
      rw [List.drop_of_length_le (by omega)]
      simp only [Yb, Za, J9, List.flatMap_nil, Jf5, List.append_nil]
      exact JA (by simp [zi]; omega)
  | d + 1, i, n + 1, L, hi, hn, hL => by
      have g1 : ((i : Int)).toNat = i := by omega
      have w1 : IntKind.i64.wrap ((i : Int) + 1) = ((i + 1 : Nat) : Int) := by rw [wrap_i64 (by omega) (by omega)]; omega
      have hro : (decide (0 ≤ (i : Int)) && decide ((i : Int) < zi l.length) && (PV.isSt 99 #[Field.mk "Kind" 3 0 false "" "" 0, Field.mk "N" 3 1 false "" "" 8, Field.mk "S" 9 2 false "" "" 16].size (l.getD i PV.top) && (PV.isInt IntKind.i64 (PV.child 0 (l.getD i PV.top)) && (PV.isInt IntKind.i64 (PV.child (0 + 1) (l.getD i PV.top)) && ((PV.child (0 + 1 + 1) (l.getD i PV.top)).isStr && true)))) && true) = true := by
        have hq : (PV.isSt 99 #[Field.mk "Kind" 3 0 false "" "" 0, Field.mk "N" 3 1 false "" "" 8, Field.mk "S" 9 2 false "" "" 16].size (l.getD i PV.top) && (PV.isInt IntKind.i64 (PV.child 0 (l.getD i PV.top)) && (PV.isInt IntKind.i64 (PV.child (0 + 1) (l.getD i PV.top)) && ((PV.child (0 + 1 + 1) (l.getD i PV.top)).isStr && true)))) = true := Xv (Xw h1 (by omega))
        rw [hq]; simp [zi]; omega
      have hd := Xx (l := l) (i := i) (by omega)
      have hmem : l.getD i .top ∈ l := by rw [List.getD_eq_getElem?_getD, List.getElem?_eq_getElem (by omega)]; exact List.getElem_mem (by omega)
      have hsz := h3 _ hmem
      have hs2 : (PV.child (0 + 1 + 1) (l.getD i PV.top)).str.size.ble 65535 = true := Nat.ble_eq.symm ▸ hsz
      have hi2 : i * 65546 ≤ 999 * 65546 := Nat.mul_le_mul_right _ (by omega)
      simp only [Yb, Za, g1, w1, List.take_length]
      refine (Ja (by simp [zi]; omega)).trans ((Ja hro).trans ((Ja (Xi (by omega))).trans ((Ja hro).trans ((Ja (Xi (by rw [Wb]; omega))).trans ((Ja hro).trans ((Ja (by rw [Xi (by rw [Zz, Wb]; omega), hs2]; rfl)).trans ?_))))))
      rw [JdE]
      refine (Jlj l h1 h3 h2 f k0 z fl d (i + 1) n _ (by omega) (by omega) (by rw [List.length_append, JI, WA]; omega)).trans ?_
      rw [hd]
      simp only [J9, List.flatMap_cons, JO, List.append_assoc]
theorem Jfe {l : List PV} : apY [] (zi l.length) = pu .u8 [IntKind.u8.wrap (zi l.length)] := by rw [Z7]; rfl
noncomputable def JdF : List PV → List Ent → (Res → Option Res) → Option Res
  | [.ro 99 z f l], [], k => bif cBy l then k ⟨.ro 5 false false (pu .u8 (opB l)), [], []⟩ else none
  | _, _, _ => none
noncomputable def Jlk : Sig := { own := [], run := JdF }
theorem JnN (z f : Bool) (l : List PV) (h : cBy l = true) (k : Res → Option Res) : Jsr 1010 z f l k = k ⟨.ro 5 false false (pu .u8 (opB l)), [], []⟩ := by
  obtain ⟨h1, h3, h2⟩ := Zy.1 h
  have hY := Jfe (l := l)
  rw [Gx]
  unfold Jsr
  simp only [List.take_length]
  refine (Ja (by rw [Y8]; rfl)).trans ?_
  cases l with
  | nil => exact (JA (by simp [zi])).trans (by rw [hY]; rfl)
  | cons p r =>
    have hq : (PV.isSt 99 #[Field.mk "Kind" 3 0 false "" "" 0, Field.mk "N" 3 1 false "" "" 8, Field.mk "S" 9 2 false "" "" 16].size ((p :: r).getD 0 PV.top) && (PV.isInt IntKind.i64 (PV.child 0 ((p :: r).getD 0 PV.top)) && (PV.isInt IntKind.i64 (PV.child (0 + 1) ((p :: r).getD 0 PV.top)) && ((PV.child (0 + 1 + 1) ((p :: r).getD 0 PV.top)).isStr && true)))) = true := by
      have := Xv (Xw h1 (i := 0) (by simp))
      exact this
    have hro : (decide (0 < zi (p :: r).length) && (PV.isSt 99 #[Field.mk "Kind" 3 0 false "" "" 0, Field.mk "N" 3 1 false "" "" 8, Field.mk "S" 9 2 false "" "" 16].size ((p :: r).getD 0 PV.top) && (PV.isInt IntKind.i64 (PV.child 0 ((p :: r).getD 0 PV.top)) && (PV.isInt IntKind.i64 (PV.child (0 + 1) ((p :: r).getD 0 PV.top)) && ((PV.child (0 + 1 + 1) ((p :: r).getD 0 PV.top)).isStr && true)))) && true) = true := by
      rw [hq]; simp [zi]
    have hsz := h3 p List.mem_cons_self
    have hs2 : (PV.child (0 + 1 + 1) ((p :: r).getD 0 PV.top)).str.size.ble 65535 = true := Nat.ble_eq.symm ▸ hsz
    have l1 : (apY [] (zi (p :: r).length)).length = 1 := by rw [Wb]; rfl
    refine (Ja (by simp [zi])).trans ((Ja hro).trans ((Ja (QM (by rw [l1]; decide))).trans ((Ja hro).trans ((Ja (QM (by rw [Wb, l1]; decide))).trans ((Ja hro).trans ((Ja (by rw [QM (by rw [Zz, Wb, l1]; decide), hs2]; rfl)).trans ?_))))))
    rw [JdE]
    have w1 : IntKind.i64.wrap (0 + 1) = ((1 : Nat) : Int) := by decide
    rw [w1]
    refine (Jli (p :: r) h1 h3 h2 1010 _ z f r.length 1 1010 _ (by simp; omega) (by simp at h2; omega) (by rw [List.length_append, JI, WA, l1]; have : (cv ((p :: r).getD 0 PV.top)).s.size ≤ 65535 := hsz; omega)).trans ?_
    rw [List.take_length, hY]
    simp only [Jjl, J9, List.flatMap_cons, JO, List.append_assoc, List.drop_succ_cons, List.drop_zero, List.getD_cons_zero]
theorem Jll : Jh tau Try.prog 114 Jlk := Jh.mk' fun xs es k res hl hr => by
  change JdF xs es k = some res at hr
  unfold JdF at hr
  split at hr
  · rename_i z f l
    obtain ⟨hc, hr⟩ := JH hr
    exact Ql Jq Jik Jr JpW JpX (Jil (Z8 1010)) [.ro] 0 0 (JwL 1010) hl rfl ((JzO 1010 z f l k).trans ((JnN z f l hc k).trans hr))
  · cases hr
noncomputable def JdG : List PV → List Ent → (Res → Option Res) → Option Res
  | [.ro 99 z f l], [], k => bif cBy l then k ⟨.ow 5 16 [] 0 (opB l).length none, [], [.vec false 5 false (pu .u8 (opB l))]⟩ else none
  | _, _, _ => none
noncomputable def Jp8 : Sig := { own := [], run := JdG }
theorem JnO (z f : Bool) (l : List PV) (h : cBy l = true) (k : Res → Option Res) : Jst 1010 z f l k = k ⟨.ow 5 16 [] 0 (opB l).length none, [], [.vec false 5 false (pu .u8 (opB l))]⟩ := by
  obtain ⟨h1, h3, h2⟩ := Zy.1 h
  have hY := Jfe (l := l)
  rw [Gx]
  unfold Jst
  refine (Jlj l h1 h3 h2 1010 _ z f l.length 0 1010 _ (by omega) (by omega) (by rw [Wb]; simp)).trans ?_
  rw [List.drop_zero, hY, ← JO]
  rw [show [IntKind.u8.wrap (zi l.length)] ++ J9 l = Jjl l from rfl, JI]
theorem JsA : Jh tau Try.prog 111 Jp8 := Jh.mk' fun xs es k res hl hr => by
  change JdG xs es k = some res at hr
  unfold JdG at hr
  split at hr
  · rename_i z f l
    obtain ⟨hc, hr⟩ := JH hr
    exact Ql Jq Jim Jr JpZ Jp0 (Jin (Z9 1010)) [] 0 0 (JwN 1010) hl rfl ((JzP 1010 z f l k).trans ((JnO z f l hc k).trans hr))
  · cases hr
noncomputable def Jw1 : Fns := JG 114 Jlk (JG 98 Jnz (JG 97 Jsm (JG 96 Jsj (F0))))
theorem JnP : Jx tau Try.prog Jw1 := ((((JE).add JpO JvD).add JpT JrN).add JkY JrI).add Jll JpY
def JnQ : Nm := [(1, .any), (3, .any), (16, .any), (17, .any), (18, .any)]
def JsB : An := (.seq .leaf (.seq (.cond .leaf .leaf) (.seq (.block none (.seq .leaf .leaf)) .leaf)))
def Jis : An := (.seq .leaf (.seq .leaf (.seq (.seq .leaf (.block none (.loop JnQ JsB))) (.seq .leaf (.seq .leaf .leaf)))))
noncomputable def JsC (f : Nat) (d_Author_D : Int) (d_Author_U : Int) (d_Id : Int) (d_Version : Int) (d_Hash : List PV) (d_Kind : Int) (d_Op_z : Bool) (d_Op_f : Bool) (d_Op : List PV) (d_Who_D : Int) (d_Who_U : Int) (k : Res → Option Res) : Option Res := bif okZ true [] then bif okZ false (List.take (apI [] d_Author_D).length (apI [] d_Author_D)) then bif okZ false (List.take (apI (List.take (apI [] d_Author_D).length (apI [] d_Author_D)) d_Author_U).length (apI (List.take (apI [] d_Author_D).length (apI [] d_Author_D)) d_Author_U)) then bif okZ false (List.take (apI (List.take (apI (List.take (apI [] d_Author_D).length (apI [] d_Author_D)) d_Author_U).length (apI (List.take (apI [] d_Author_D).length (apI [] d_Author_D)) d_Author_U)) d_Id).length (apI (List.take (apI (List.take (apI [] d_Author_D).length (apI [] d_Author_D)) d_Author_U).length (apI (List.take (apI [] d_Author_D).length (apI [] d_Author_D)) d_Author_U)) d_Id)) then bif Jj ((apI (List.take (apI (List.take (apI (List.take (apI [] d_Author_D).length (apI [] d_Author_D)) d_Author_U).length (apI (List.take (apI [] d_Author_D).length (apI [] d_Author_D)) d_Author_U)) d_Id).length (apI (List.take (apI (List.take (apI [] d_Author_D).length (apI [] d_Author_D)) d_Author_U).length (apI (List.take (apI [] d_Author_D).length (apI [] d_Author_D)) d_Author_U)) d_Id)) d_Version).length + (List.take 32 d_Hash).length) 1 && true then bif okZ false (List.take ((apI (List.take (apI (List.take (apI (List.take (apI [] d_Author_D).length (apI [] d_Author_D)) d_Author_U).length (apI (List.take (apI [] d_Author_D).length (apI [] d_Author_D)) d_Author_U)) d_Id).length (apI (List.take (apI (List.take (apI [] d_Author_D).length (apI [] d_Author_D)) d_Author_U).length (apI (List.take (apI [] d_Author_D).length (apI [] d_Author_D)) d_Author_U)) d_Id)) d_Version).length + (List.take 32 d_Hash).length) (List.take (apI (List.take (apI (List.take (apI (List.take (apI [] d_Author_D).length (apI [] d_Author_D)) d_Author_U).length (apI (List.take (apI [] d_Author_D).length (apI [] d_Author_D)) d_Author_U)) d_Id).length (apI (List.take (apI (List.take (apI [] d_Author_D).length (apI [] d_Author_D)) d_Author_U).length (apI (List.take (apI [] d_Author_D).length (apI [] d_Author_D)) d_Author_U)) d_Id)) d_Version).length (apI (List.take (apI (List.take (apI (List.take (apI [] d_Author_D).length (apI [] d_Author_D)) d_Author_U).length (apI (List.take (apI [] d_Author_D).length (apI [] d_Author_D)) d_Author_U)) d_Id).length (apI (List.take (apI (List.take (apI [] d_Author_D).length (apI [] d_Author_D)) d_Author_U).length (apI (List.take (apI [] d_Author_D).length (apI [] d_Author_D)) d_Author_U)) d_Id)) d_Version) ++ List.take 32 d_Hash)) then bif cBy d_Op then bif Je IntKind.u8 (pu IntKind.u8 (opB d_Op)) && true then bif okZ false (List.take (apY (List.take ((apI (List.take (apI (List.take (apI (List.take (apI [] d_Author_D).length (apI [] d_Author_D)) d_Author_U).length (apI (List.take (apI [] d_Author_D).length (apI [] d_Author_D)) d_Author_U)) d_Id).length (apI (List.take (apI (List.take (apI [] d_Author_D).length (apI [] d_Author_D)) d_Author_U).length (apI (List.take (apI [] d_Author_D).length (apI [] d_Author_D)) d_Author_U)) d_Id)) d_Version).length + (List.take 32 d_Hash).length) (List.take (apI (List.take (apI (List.take (apI (List.take (apI [] d_Author_D).length (apI [] d_Author_D)) d_Author_U).length (apI (List.take (apI [] d_Author_D).length (apI [] d_Author_D)) d_Author_U)) d_Id).length (apI (List.take (apI (List.take (apI [] d_Author_D).length (apI [] d_Author_D)) d_Author_U).length (apI (List.take (apI [] d_Author_D).length (apI [] d_Author_D)) d_Author_U)) d_Id)) d_Version).length (apI (List.take (apI (List.take (apI (List.take (apI [] d_Author_D).length (apI [] d_Author_D)) d_Author_U).length (apI (List.take (apI [] d_Author_D).length (apI [] d_Author_D)) d_Author_U)) d_Id).length (apI (List.take (apI (List.take (apI [] d_Author_D).length (apI [] d_Author_D)) d_Author_U).length (apI (List.take (apI [] d_Author_D).length (apI [] d_Author_D)) d_Author_U)) d_Id)) d_Version) ++ List.take 32 d_Hash)) d_Kind).length (apY (List.take ((apI (List.take (apI (List.take (apI (List.take (apI [] d_Author_D).length (apI [] d_Author_D)) d_Author_U).length (apI (List.take (apI [] d_Author_D).length (apI [] d_Author_D)) d_Author_U)) d_Id).length (apI (List.take (apI (List.take (apI [] d_Author_D).length (apI [] d_Author_D)) d_Author_U).length (apI (List.take (apI [] d_Author_D).length (apI [] d_Author_D)) d_Author_U)) d_Id)) d_Version).length + (List.take 32 d_Hash).length) (List.take (apI (List.take (apI (List.take (apI (List.take (apI [] d_Author_D).length (apI [] d_Author_D)) d_Author_U).length (apI (List.take (apI [] d_Author_D).length (apI [] d_Author_D)) d_Author_U)) d_Id).length (apI (List.take (apI (List.take (apI [] d_Author_D).length (apI [] d_Author_D)) d_Author_U).length (apI (List.take (apI [] d_Author_D).length (apI [] d_Author_D)) d_Author_U)) d_Id)) d_Version).length (apI (List.take (apI (List.take (apI (List.take (apI [] d_Author_D).length (apI [] d_Author_D)) d_Author_U).length (apI (List.take (apI [] d_Author_D).length (apI [] d_Author_D)) d_Author_U)) d_Id).length (apI (List.take (apI (List.take (apI [] d_Author_D).length (apI [] d_Author_D)) d_Author_U).length (apI (List.take (apI [] d_Author_D).length (apI [] d_Author_D)) d_Author_U)) d_Id)) d_Version) ++ List.take 32 d_Hash)) d_Kind)) && (ByteArray.mk (Array.mk (Jn (false, pu IntKind.u8 (opB d_Op)).snd))).size.ble 65535 then bif okZ false (List.take (apT (List.take (apY (List.take ((apI (List.take (apI (List.take (apI (List.take (apI [] d_Author_D).length (apI [] d_Author_D)) d_Author_U).length (apI (List.take (apI [] d_Author_D).length (apI [] d_Author_D)) d_Author_U)) d_Id).length (apI (List.take (apI (List.take (apI [] d_Author_D).length (apI [] d_Author_D)) d_Author_U).length (apI (List.take (apI [] d_Author_D).length (apI [] d_Author_D)) d_Author_U)) d_Id)) d_Version).length + (List.take 32 d_Hash).length) (List.take (apI (List.take (apI (List.take (apI (List.take (apI [] d_Author_D).length (apI [] d_Author_D)) d_Author_U).length (apI (List.take (apI [] d_Author_D).length (apI [] d_Author_D)) d_Author_U)) d_Id).length (apI (List.take (apI (List.take (apI [] d_Author_D).length (apI [] d_Author_D)) d_Author_U).length (apI (List.take (apI [] d_Author_D).length (apI [] d_Author_D)) d_Author_U)) d_Id)) d_Version).length (apI (List.take (apI (List.take (apI (List.take (apI [] d_Author_D).length (apI [] d_Author_D)) d_Author_U).length (apI (List.take (apI [] d_Author_D).length (apI [] d_Author_D)) d_Author_U)) d_Id).length (apI (List.take (apI (List.take (apI [] d_Author_D).length (apI [] d_Author_D)) d_Author_U).length (apI (List.take (apI [] d_Author_D).length (apI [] d_Author_D)) d_Author_U)) d_Id)) d_Version) ++ List.take 32 d_Hash)) d_Kind).length (apY (List.take ((apI (List.take (apI (List.take (apI (List.take (apI [] d_Author_D).length (apI [] d_Author_D)) d_Author_U).length (apI (List.take (apI [] d_Author_D).length (apI [] d_Author_D)) d_Author_U)) d_Id).length (apI (List.take (apI (List.take (apI [] d_Author_D).length (apI [] d_Author_D)) d_Author_U).length (apI (List.take (apI [] d_Author_D).length (apI [] d_Author_D)) d_Author_U)) d_Id)) d_Version).length + (List.take 32 d_Hash).length) (List.take (apI (List.take (apI (List.take (apI (List.take (apI [] d_Author_D).length (apI [] d_Author_D)) d_Author_U).length (apI (List.take (apI [] d_Author_D).length (apI [] d_Author_D)) d_Author_U)) d_Id).length (apI (List.take (apI (List.take (apI [] d_Author_D).length (apI [] d_Author_D)) d_Author_U).length (apI (List.take (apI [] d_Author_D).length (apI [] d_Author_D)) d_Author_U)) d_Id)) d_Version).length (apI (List.take (apI (List.take (apI (List.take (apI [] d_Author_D).length (apI [] d_Author_D)) d_Author_U).length (apI (List.take (apI [] d_Author_D).length (apI [] d_Author_D)) d_Author_U)) d_Id).length (apI (List.take (apI (List.take (apI [] d_Author_D).length (apI [] d_Author_D)) d_Author_U).length (apI (List.take (apI [] d_Author_D).length (apI [] d_Author_D)) d_Author_U)) d_Id)) d_Version) ++ List.take 32 d_Hash)) d_Kind)) (ByteArray.mk (Array.mk (Jn (false, pu IntKind.u8 (opB d_Op)).snd)))).length (apT (List.take (apY (List.take ((apI (List.take (apI (List.take (apI (List.take (apI [] d_Author_D).length (apI [] d_Author_D)) d_Author_U).length (apI (List.take (apI [] d_Author_D).length (apI [] d_Author_D)) d_Author_U)) d_Id).length (apI (List.take (apI (List.take (apI [] d_Author_D).length (apI [] d_Author_D)) d_Author_U).length (apI (List.take (apI [] d_Author_D).length (apI [] d_Author_D)) d_Author_U)) d_Id)) d_Version).length + (List.take 32 d_Hash).length) (List.take (apI (List.take (apI (List.take (apI (List.take (apI [] d_Author_D).length (apI [] d_Author_D)) d_Author_U).length (apI (List.take (apI [] d_Author_D).length (apI [] d_Author_D)) d_Author_U)) d_Id).length (apI (List.take (apI (List.take (apI [] d_Author_D).length (apI [] d_Author_D)) d_Author_U).length (apI (List.take (apI [] d_Author_D).length (apI [] d_Author_D)) d_Author_U)) d_Id)) d_Version).length (apI (List.take (apI (List.take (apI (List.take (apI [] d_Author_D).length (apI [] d_Author_D)) d_Author_U).length (apI (List.take (apI [] d_Author_D).length (apI [] d_Author_D)) d_Author_U)) d_Id).length (apI (List.take (apI (List.take (apI [] d_Author_D).length (apI [] d_Author_D)) d_Author_U).length (apI (List.take (apI [] d_Author_D).length (apI [] d_Author_D)) d_Author_U)) d_Id)) d_Version) ++ List.take 32 d_Hash)) d_Kind).length (apY (List.take ((apI (List.take (apI (List.take (apI (List.take (apI [] d_Author_D).length (apI [] d_Author_D)) d_Author_U).length (apI (List.take (apI [] d_Author_D).length (apI [] d_Author_D)) d_Author_U)) d_Id).length (apI (List.take (apI (List.take (apI [] d_Author_D).length (apI [] d_Author_D)) d_Author_U).length (apI (List.take (apI [] d_Author_D).length (apI [] d_Author_D)) d_Author_U)) d_Id)) d_Version).length + (List.take 32 d_Hash).length) (List.take (apI (List.take (apI (List.take (apI (List.take (apI [] d_Author_D).length (apI [] d_Author_D)) d_Author_U).length (apI (List.take (apI [] d_Author_D).length (apI [] d_Author_D)) d_Author_U)) d_Id).length (apI (List.take (apI (List.take (apI [] d_Author_D).length (apI [] d_Author_D)) d_Author_U).length (apI (List.take (apI [] d_Author_D).length (apI [] d_Author_D)) d_Author_U)) d_Id)) d_Version).length (apI (List.take (apI (List.take (apI (List.take (apI [] d_Author_D).length (apI [] d_Author_D)) d_Author_U).length (apI (List.take (apI [] d_Author_D).length (apI [] d_Author_D)) d_Author_U)) d_Id).length (apI (List.take (apI (List.take (apI [] d_Author_D).length (apI [] d_Author_D)) d_Author_U).length (apI (List.take (apI [] d_Author_D).length (apI [] d_Author_D)) d_Author_U)) d_Id)) d_Version) ++ List.take 32 d_Hash)) d_Kind)) (ByteArray.mk (Array.mk (Jn (false, pu IntKind.u8 (opB d_Op)).snd))))) then bif okZ false (List.take (apI (List.take (apT (List.take (apY (List.take ((apI (List.take (apI (List.take (apI (List.take (apI [] d_Author_D).length (apI [] d_Author_D)) d_Author_U).length (apI (List.take (apI [] d_Author_D).length (apI [] d_Author_D)) d_Author_U)) d_Id).length (apI (List.take (apI (List.take (apI [] d_Author_D).length (apI [] d_Author_D)) d_Author_U).length (apI (List.take (apI [] d_Author_D).length (apI [] d_Author_D)) d_Author_U)) d_Id)) d_Version).length + (List.take 32 d_Hash).length) (List.take (apI (List.take (apI (List.take (apI (List.take (apI [] d_Author_D).length (apI [] d_Author_D)) d_Author_U).length (apI (List.take (apI [] d_Author_D).length (apI [] d_Author_D)) d_Author_U)) d_Id).length (apI (List.take (apI (List.take (apI [] d_Author_D).length (apI [] d_Author_D)) d_Author_U).length (apI (List.take (apI [] d_Author_D).length (apI [] d_Author_D)) d_Author_U)) d_Id)) d_Version).length (apI (List.take (apI (List.take (apI (List.take (apI [] d_Author_D).length (apI [] d_Author_D)) d_Author_U).length (apI (List.take (apI [] d_Author_D).length (apI [] d_Author_D)) d_Author_U)) d_Id).length (apI (List.take (apI (List.take (apI [] d_Author_D).length (apI [] d_Author_D)) d_Author_U).length (apI (List.take (apI [] d_Author_D).length (apI [] d_Author_D)) d_Author_U)) d_Id)) d_Version) ++ List.take 32 d_Hash)) d_Kind).length (apY (List.take ((apI (List.take (apI (List.take (apI (List.take (apI [] d_Author_D).length (apI [] d_Author_D)) d_Author_U).length (apI (List.take (apI [] d_Author_D).length (apI [] d_Author_D)) d_Author_U)) d_Id).length (apI (List.take (apI (List.take (apI [] d_Author_D).length (apI [] d_Author_D)) d_Author_U).length (apI (List.take (apI [] d_Author_D).length (apI [] d_Author_D)) d_Author_U)) d_Id)) d_Version).length + (List.take 32 d_Hash).length) (List.take (apI (List.take (apI (List.take (apI (List.take (apI [] d_Author_D).length (apI [] d_Author_D)) d_Author_U).length (apI (List.take (apI [] d_Author_D).length (apI [] d_Author_D)) d_Author_U)) d_Id).length (apI (List.take (apI (List.take (apI [] d_Author_D).length (apI [] d_Author_D)) d_Author_U).length (apI (List.take (apI [] d_Author_D).length (apI [] d_Author_D)) d_Author_U)) d_Id)) d_Version).length (apI (List.take (apI (List.take (apI (List.take (apI [] d_Author_D).length (apI [] d_Author_D)) d_Author_U).length (apI (List.take (apI [] d_Author_D).length (apI [] d_Author_D)) d_Author_U)) d_Id).length (apI (List.take (apI (List.take (apI [] d_Author_D).length (apI [] d_Author_D)) d_Author_U).length (apI (List.take (apI [] d_Author_D).length (apI [] d_Author_D)) d_Author_U)) d_Id)) d_Version) ++ List.take 32 d_Hash)) d_Kind)) (ByteArray.mk (Array.mk (Jn (false, pu IntKind.u8 (opB d_Op)).snd)))).length (apT (List.take (apY (List.take ((apI (List.take (apI (List.take (apI (List.take (apI [] d_Author_D).length (apI [] d_Author_D)) d_Author_U).length (apI (List.take (apI [] d_Author_D).length (apI [] d_Author_D)) d_Author_U)) d_Id).length (apI (List.take (apI (List.take (apI [] d_Author_D).length (apI [] d_Author_D)) d_Author_U).length (apI (List.take (apI [] d_Author_D).length (apI [] d_Author_D)) d_Author_U)) d_Id)) d_Version).length + (List.take 32 d_Hash).length) (List.take (apI (List.take (apI (List.take (apI (List.take (apI [] d_Author_D).length (apI [] d_Author_D)) d_Author_U).length (apI (List.take (apI [] d_Author_D).length (apI [] d_Author_D)) d_Author_U)) d_Id).length (apI (List.take (apI (List.take (apI [] d_Author_D).length (apI [] d_Author_D)) d_Author_U).length (apI (List.take (apI [] d_Author_D).length (apI [] d_Author_D)) d_Author_U)) d_Id)) d_Version).length (apI (List.take (apI (List.take (apI (List.take (apI [] d_Author_D).length (apI [] d_Author_D)) d_Author_U).length (apI (List.take (apI [] d_Author_D).length (apI [] d_Author_D)) d_Author_U)) d_Id).length (apI (List.take (apI (List.take (apI [] d_Author_D).length (apI [] d_Author_D)) d_Author_U).length (apI (List.take (apI [] d_Author_D).length (apI [] d_Author_D)) d_Author_U)) d_Id)) d_Version) ++ List.take 32 d_Hash)) d_Kind).length (apY (List.take ((apI (List.take (apI (List.take (apI (List.take (apI [] d_Author_D).length (apI [] d_Author_D)) d_Author_U).length (apI (List.take (apI [] d_Author_D).length (apI [] d_Author_D)) d_Author_U)) d_Id).length (apI (List.take (apI (List.take (apI [] d_Author_D).length (apI [] d_Author_D)) d_Author_U).length (apI (List.take (apI [] d_Author_D).length (apI [] d_Author_D)) d_Author_U)) d_Id)) d_Version).length + (List.take 32 d_Hash).length) (List.take (apI (List.take (apI (List.take (apI (List.take (apI [] d_Author_D).length (apI [] d_Author_D)) d_Author_U).length (apI (List.take (apI [] d_Author_D).length (apI [] d_Author_D)) d_Author_U)) d_Id).length (apI (List.take (apI (List.take (apI [] d_Author_D).length (apI [] d_Author_D)) d_Author_U).length (apI (List.take (apI [] d_Author_D).length (apI [] d_Author_D)) d_Author_U)) d_Id)) d_Version).length (apI (List.take (apI (List.take (apI (List.take (apI [] d_Author_D).length (apI [] d_Author_D)) d_Author_U).length (apI (List.take (apI [] d_Author_D).length (apI [] d_Author_D)) d_Author_U)) d_Id).length (apI (List.take (apI (List.take (apI [] d_Author_D).length (apI [] d_Author_D)) d_Author_U).length (apI (List.take (apI [] d_Author_D).length (apI [] d_Author_D)) d_Author_U)) d_Id)) d_Version) ++ List.take 32 d_Hash)) d_Kind)) (ByteArray.mk (Array.mk (Jn (false, pu IntKind.u8 (opB d_Op)).snd))))) d_Who_D).length (apI (List.take (apT (List.take (apY (List.take ((apI (List.take (apI (List.take (apI (List.take (apI [] d_Author_D).length (apI [] d_Author_D)) d_Author_U).length (apI (List.take (apI [] d_Author_D).length (apI [] d_Author_D)) d_Author_U)) d_Id).length (apI (List.take (apI (List.take (apI [] d_Author_D).length (apI [] d_Author_D)) d_Author_U).length (apI (List.take (apI [] d_Author_D).length (apI [] d_Author_D)) d_Author_U)) d_Id)) d_Version).length + (List.take 32 d_Hash).length) (List.take (apI (List.take (apI (List.take (apI (List.take (apI [] d_Author_D).length (apI [] d_Author_D)) d_Author_U).length (apI (List.take (apI [] d_Author_D).length (apI [] d_Author_D)) d_Author_U)) d_Id).length (apI (List.take (apI (List.take (apI [] d_Author_D).length (apI [] d_Author_D)) d_Author_U).length (apI (List.take (apI [] d_Author_D).length (apI [] d_Author_D)) d_Author_U)) d_Id)) d_Version).length (apI (List.take (apI (List.take (apI (List.take (apI [] d_Author_D).length (apI [] d_Author_D)) d_Author_U).length (apI (List.take (apI [] d_Author_D).length (apI [] d_Author_D)) d_Author_U)) d_Id).length (apI (List.take (apI (List.take (apI [] d_Author_D).length (apI [] d_Author_D)) d_Author_U).length (apI (List.take (apI [] d_Author_D).length (apI [] d_Author_D)) d_Author_U)) d_Id)) d_Version) ++ List.take 32 d_Hash)) d_Kind).length (apY (List.take ((apI (List.take (apI (List.take (apI (List.take (apI [] d_Author_D).length (apI [] d_Author_D)) d_Author_U).length (apI (List.take (apI [] d_Author_D).length (apI [] d_Author_D)) d_Author_U)) d_Id).length (apI (List.take (apI (List.take (apI [] d_Author_D).length (apI [] d_Author_D)) d_Author_U).length (apI (List.take (apI [] d_Author_D).length (apI [] d_Author_D)) d_Author_U)) d_Id)) d_Version).length + (List.take 32 d_Hash).length) (List.take (apI (List.take (apI (List.take (apI (List.take (apI [] d_Author_D).length (apI [] d_Author_D)) d_Author_U).length (apI (List.take (apI [] d_Author_D).length (apI [] d_Author_D)) d_Author_U)) d_Id).length (apI (List.take (apI (List.take (apI [] d_Author_D).length (apI [] d_Author_D)) d_Author_U).length (apI (List.take (apI [] d_Author_D).length (apI [] d_Author_D)) d_Author_U)) d_Id)) d_Version).length (apI (List.take (apI (List.take (apI (List.take (apI [] d_Author_D).length (apI [] d_Author_D)) d_Author_U).length (apI (List.take (apI [] d_Author_D).length (apI [] d_Author_D)) d_Author_U)) d_Id).length (apI (List.take (apI (List.take (apI [] d_Author_D).length (apI [] d_Author_D)) d_Author_U).length (apI (List.take (apI [] d_Author_D).length (apI [] d_Author_D)) d_Author_U)) d_Id)) d_Version) ++ List.take 32 d_Hash)) d_Kind)) (ByteArray.mk (Array.mk (Jn (false, pu IntKind.u8 (opB d_Op)).snd)))).length (apT (List.take (apY (List.take ((apI (List.take (apI (List.take (apI (List.take (apI [] d_Author_D).length (apI [] d_Author_D)) d_Author_U).length (apI (List.take (apI [] d_Author_D).length (apI [] d_Author_D)) d_Author_U)) d_Id).length (apI (List.take (apI (List.take (apI [] d_Author_D).length (apI [] d_Author_D)) d_Author_U).length (apI (List.take (apI [] d_Author_D).length (apI [] d_Author_D)) d_Author_U)) d_Id)) d_Version).length + (List.take 32 d_Hash).length) (List.take (apI (List.take (apI (List.take (apI (List.take (apI [] d_Author_D).length (apI [] d_Author_D)) d_Author_U).length (apI (List.take (apI [] d_Author_D).length (apI [] d_Author_D)) d_Author_U)) d_Id).length (apI (List.take (apI (List.take (apI [] d_Author_D).length (apI [] d_Author_D)) d_Author_U).length (apI (List.take (apI [] d_Author_D).length (apI [] d_Author_D)) d_Author_U)) d_Id)) d_Version).length (apI (List.take (apI (List.take (apI (List.take (apI [] d_Author_D).length (apI [] d_Author_D)) d_Author_U).length (apI (List.take (apI [] d_Author_D).length (apI [] d_Author_D)) d_Author_U)) d_Id).length (apI (List.take (apI (List.take (apI [] d_Author_D).length (apI [] d_Author_D)) d_Author_U).length (apI (List.take (apI [] d_Author_D).length (apI [] d_Author_D)) d_Author_U)) d_Id)) d_Version) ++ List.take 32 d_Hash)) d_Kind).length (apY (List.take ((apI (List.take (apI (List.take (apI (List.take (apI [] d_Author_D).length (apI [] d_Author_D)) d_Author_U).length (apI (List.take (apI [] d_Author_D).length (apI [] d_Author_D)) d_Author_U)) d_Id).length (apI (List.take (apI (List.take (apI [] d_Author_D).length (apI [] d_Author_D)) d_Author_U).length (apI (List.take (apI [] d_Author_D).length (apI [] d_Author_D)) d_Author_U)) d_Id)) d_Version).length + (List.take 32 d_Hash).length) (List.take (apI (List.take (apI (List.take (apI (List.take (apI [] d_Author_D).length (apI [] d_Author_D)) d_Author_U).length (apI (List.take (apI [] d_Author_D).length (apI [] d_Author_D)) d_Author_U)) d_Id).length (apI (List.take (apI (List.take (apI [] d_Author_D).length (apI [] d_Author_D)) d_Author_U).length (apI (List.take (apI [] d_Author_D).length (apI [] d_Author_D)) d_Author_U)) d_Id)) d_Version).length (apI (List.take (apI (List.take (apI (List.take (apI [] d_Author_D).length (apI [] d_Author_D)) d_Author_U).length (apI (List.take (apI [] d_Author_D).length (apI [] d_Author_D)) d_Author_U)) d_Id).length (apI (List.take (apI (List.take (apI [] d_Author_D).length (apI [] d_Author_D)) d_Author_U).length (apI (List.take (apI [] d_Author_D).length (apI [] d_Author_D)) d_Author_U)) d_Id)) d_Version) ++ List.take 32 d_Hash)) d_Kind)) (ByteArray.mk (Array.mk (Jn (false, pu IntKind.u8 (opB d_Op)).snd))))) d_Who_D)) then k (Res.mk (.ro 5 false false (List.take (apI (List.take (apI (List.take (apT (List.take (apY (List.take ((apI (List.take (apI (List.take (apI (List.take (apI [] d_Author_D).length (apI [] d_Author_D)) d_Author_U).length (apI (List.take (apI [] d_Author_D).length (apI [] d_Author_D)) d_Author_U)) d_Id).length (apI (List.take (apI (List.take (apI [] d_Author_D).length (apI [] d_Author_D)) d_Author_U).length (apI (List.take (apI [] d_Author_D).length (apI [] d_Author_D)) d_Author_U)) d_Id)) d_Version).length + (List.take 32 d_Hash).length) (List.take (apI (List.take (apI (List.take (apI (List.take (apI [] d_Author_D).length (apI [] d_Author_D)) d_Author_U).length (apI (List.take (apI [] d_Author_D).length (apI [] d_Author_D)) d_Author_U)) d_Id).length (apI (List.take (apI (List.take (apI [] d_Author_D).length (apI [] d_Author_D)) d_Author_U).length (apI (List.take (apI [] d_Author_D).length (apI [] d_Author_D)) d_Author_U)) d_Id)) d_Version).length (apI (List.take (apI (List.take (apI (List.take (apI [] d_Author_D).length (apI [] d_Author_D)) d_Author_U).length (apI (List.take (apI [] d_Author_D).length (apI [] d_Author_D)) d_Author_U)) d_Id).length (apI (List.take (apI (List.take (apI [] d_Author_D).length (apI [] d_Author_D)) d_Author_U).length (apI (List.take (apI [] d_Author_D).length (apI [] d_Author_D)) d_Author_U)) d_Id)) d_Version) ++ List.take 32 d_Hash)) d_Kind).length (apY (List.take ((apI (List.take (apI (List.take (apI (List.take (apI [] d_Author_D).length (apI [] d_Author_D)) d_Author_U).length (apI (List.take (apI [] d_Author_D).length (apI [] d_Author_D)) d_Author_U)) d_Id).length (apI (List.take (apI (List.take (apI [] d_Author_D).length (apI [] d_Author_D)) d_Author_U).length (apI (List.take (apI [] d_Author_D).length (apI [] d_Author_D)) d_Author_U)) d_Id)) d_Version).length + (List.take 32 d_Hash).length) (List.take (apI (List.take (apI (List.take (apI (List.take (apI [] d_Author_D).length (apI [] d_Author_D)) d_Author_U).length (apI (List.take (apI [] d_Author_D).length (apI [] d_Author_D)) d_Author_U)) d_Id).length (apI (List.take (apI (List.take (apI [] d_Author_D).length (apI [] d_Author_D)) d_Author_U).length (apI (List.take (apI [] d_Author_D).length (apI [] d_Author_D)) d_Author_U)) d_Id)) d_Version).length (apI (List.take (apI (List.take (apI (List.take (apI [] d_Author_D).length (apI [] d_Author_D)) d_Author_U).length (apI (List.take (apI [] d_Author_D).length (apI [] d_Author_D)) d_Author_U)) d_Id).length (apI (List.take (apI (List.take (apI [] d_Author_D).length (apI [] d_Author_D)) d_Author_U).length (apI (List.take (apI [] d_Author_D).length (apI [] d_Author_D)) d_Author_U)) d_Id)) d_Version) ++ List.take 32 d_Hash)) d_Kind)) (ByteArray.mk (Array.mk (Jn (false, pu IntKind.u8 (opB d_Op)).snd)))).length (apT (List.take (apY (List.take ((apI (List.take (apI (List.take (apI (List.take (apI [] d_Author_D).length (apI [] d_Author_D)) d_Author_U).length (apI (List.take (apI [] d_Author_D).length (apI [] d_Author_D)) d_Author_U)) d_Id).length (apI (List.take (apI (List.take (apI [] d_Author_D).length (apI [] d_Author_D)) d_Author_U).length (apI (List.take (apI [] d_Author_D).length (apI [] d_Author_D)) d_Author_U)) d_Id)) d_Version).length + (List.take 32 d_Hash).length) (List.take (apI (List.take (apI (List.take (apI (List.take (apI [] d_Author_D).length (apI [] d_Author_D)) d_Author_U).length (apI (List.take (apI [] d_Author_D).length (apI [] d_Author_D)) d_Author_U)) d_Id).length (apI (List.take (apI (List.take (apI [] d_Author_D).length (apI [] d_Author_D)) d_Author_U).length (apI (List.take (apI [] d_Author_D).length (apI [] d_Author_D)) d_Author_U)) d_Id)) d_Version).length (apI (List.take (apI (List.take (apI (List.take (apI [] d_Author_D).length (apI [] d_Author_D)) d_Author_U).length (apI (List.take (apI [] d_Author_D).length (apI [] d_Author_D)) d_Author_U)) d_Id).length (apI (List.take (apI (List.take (apI [] d_Author_D).length (apI [] d_Author_D)) d_Author_U).length (apI (List.take (apI [] d_Author_D).length (apI [] d_Author_D)) d_Author_U)) d_Id)) d_Version) ++ List.take 32 d_Hash)) d_Kind).length (apY (List.take ((apI (List.take (apI (List.take (apI (List.take (apI [] d_Author_D).length (apI [] d_Author_D)) d_Author_U).length (apI (List.take (apI [] d_Author_D).length (apI [] d_Author_D)) d_Author_U)) d_Id).length (apI (List.take (apI (List.take (apI [] d_Author_D).length (apI [] d_Author_D)) d_Author_U).length (apI (List.take (apI [] d_Author_D).length (apI [] d_Author_D)) d_Author_U)) d_Id)) d_Version).length + (List.take 32 d_Hash).length) (List.take (apI (List.take (apI (List.take (apI (List.take (apI [] d_Author_D).length (apI [] d_Author_D)) d_Author_U).length (apI (List.take (apI [] d_Author_D).length (apI [] d_Author_D)) d_Author_U)) d_Id).length (apI (List.take (apI (List.take (apI [] d_Author_D).length (apI [] d_Author_D)) d_Author_U).length (apI (List.take (apI [] d_Author_D).length (apI [] d_Author_D)) d_Author_U)) d_Id)) d_Version).length (apI (List.take (apI (List.take (apI (List.take (apI [] d_Author_D).length (apI [] d_Author_D)) d_Author_U).length (apI (List.take (apI [] d_Author_D).length (apI [] d_Author_D)) d_Author_U)) d_Id).length (apI (List.take (apI (List.take (apI [] d_Author_D).length (apI [] d_Author_D)) d_Author_U).length (apI (List.take (apI [] d_Author_D).length (apI [] d_Author_D)) d_Author_U)) d_Id)) d_Version) ++ List.take 32 d_Hash)) d_Kind)) (ByteArray.mk (Array.mk (Jn (false, pu IntKind.u8 (opB d_Op)).snd))))) d_Who_D).length (apI (List.take (apT (List.take (apY (List.take ((apI (List.take (apI (List.take (apI (List.take (apI [] d_Author_D).length (apI [] d_Author_D)) d_Author_U).length (apI (List.take (apI [] d_Author_D).length (apI [] d_Author_D)) d_Author_U)) d_Id).length (apI (List.take (apI (List.take (apI [] d_Author_D).length (apI [] d_Author_D)) d_Author_U).length (apI (List.take (apI [] d_Author_D).length (apI [] d_Author_D)) d_Author_U)) d_Id)) d_Version).length + (List.take 32 d_Hash).length) (List.take (apI (List.take (apI (List.take (apI (List.take (apI [] d_Author_D).length (apI [] d_Author_D)) d_Author_U).length (apI (List.take (apI [] d_Author_D).length (apI [] d_Author_D)) d_Author_U)) d_Id).length (apI (List.take (apI (List.take (apI [] d_Author_D).length (apI [] d_Author_D)) d_Author_U).length (apI (List.take (apI [] d_Author_D).length (apI [] d_Author_D)) d_Author_U)) d_Id)) d_Version).length (apI (List.take (apI (List.take (apI (List.take (apI [] d_Author_D).length (apI [] d_Author_D)) d_Author_U).length (apI (List.take (apI [] d_Author_D).length (apI [] d_Author_D)) d_Author_U)) d_Id).length (apI (List.take (apI (List.take (apI [] d_Author_D).length (apI [] d_Author_D)) d_Author_U).length (apI (List.take (apI [] d_Author_D).length (apI [] d_Author_D)) d_Author_U)) d_Id)) d_Version) ++ List.take 32 d_Hash)) d_Kind).length (apY (List.take ((apI (List.take (apI (List.take (apI (List.take (apI [] d_Author_D).length (apI [] d_Author_D)) d_Author_U).length (apI (List.take (apI [] d_Author_D).length (apI [] d_Author_D)) d_Author_U)) d_Id).length (apI (List.take (apI (List.take (apI [] d_Author_D).length (apI [] d_Author_D)) d_Author_U).length (apI (List.take (apI [] d_Author_D).length (apI [] d_Author_D)) d_Author_U)) d_Id)) d_Version).length + (List.take 32 d_Hash).length) (List.take (apI (List.take (apI (List.take (apI (List.take (apI [] d_Author_D).length (apI [] d_Author_D)) d_Author_U).length (apI (List.take (apI [] d_Author_D).length (apI [] d_Author_D)) d_Author_U)) d_Id).length (apI (List.take (apI (List.take (apI [] d_Author_D).length (apI [] d_Author_D)) d_Author_U).length (apI (List.take (apI [] d_Author_D).length (apI [] d_Author_D)) d_Author_U)) d_Id)) d_Version).length (apI (List.take (apI (List.take (apI (List.take (apI [] d_Author_D).length (apI [] d_Author_D)) d_Author_U).length (apI (List.take (apI [] d_Author_D).length (apI [] d_Author_D)) d_Author_U)) d_Id).length (apI (List.take (apI (List.take (apI [] d_Author_D).length (apI [] d_Author_D)) d_Author_U).length (apI (List.take (apI [] d_Author_D).length (apI [] d_Author_D)) d_Author_U)) d_Id)) d_Version) ++ List.take 32 d_Hash)) d_Kind)) (ByteArray.mk (Array.mk (Jn (false, pu IntKind.u8 (opB d_Op)).snd)))).length (apT (List.take (apY (List.take ((apI (List.take (apI (List.take (apI (List.take (apI [] d_Author_D).length (apI [] d_Author_D)) d_Author_U).length (apI (List.take (apI [] d_Author_D).length (apI [] d_Author_D)) d_Author_U)) d_Id).length (apI (List.take (apI (List.take (apI [] d_Author_D).length (apI [] d_Author_D)) d_Author_U).length (apI (List.take (apI [] d_Author_D).length (apI [] d_Author_D)) d_Author_U)) d_Id)) d_Version).length + (List.take 32 d_Hash).length) (List.take (apI (List.take (apI (List.take (apI (List.take (apI [] d_Author_D).length (apI [] d_Author_D)) d_Author_U).length (apI (List.take (apI [] d_Author_D).length (apI [] d_Author_D)) d_Author_U)) d_Id).length (apI (List.take (apI (List.take (apI [] d_Author_D).length (apI [] d_Author_D)) d_Author_U).length (apI (List.take (apI [] d_Author_D).length (apI [] d_Author_D)) d_Author_U)) d_Id)) d_Version).length (apI (List.take (apI (List.take (apI (List.take (apI [] d_Author_D).length (apI [] d_Author_D)) d_Author_U).length (apI (List.take (apI [] d_Author_D).length (apI [] d_Author_D)) d_Author_U)) d_Id).length (apI (List.take (apI (List.take (apI [] d_Author_D).length (apI [] d_Author_D)) d_Author_U).length (apI (List.take (apI [] d_Author_D).length (apI [] d_Author_D)) d_Author_U)) d_Id)) d_Version) ++ List.take 32 d_Hash)) d_Kind).length (apY (List.take ((apI (List.take (apI (List.take (apI (List.take (apI [] d_Author_D).length (apI [] d_Author_D)) d_Author_U).length (apI (List.take (apI [] d_Author_D).length (apI [] d_Author_D)) d_Author_U)) d_Id).length (apI (List.take (apI (List.take (apI [] d_Author_D).length (apI [] d_Author_D)) d_Author_U).length (apI (List.take (apI [] d_Author_D).length (apI [] d_Author_D)) d_Author_U)) d_Id)) d_Version).length + (List.take 32 d_Hash).length) (List.take (apI (List.take (apI (List.take (apI (List.take (apI [] d_Author_D).length (apI [] d_Author_D)) d_Author_U).length (apI (List.take (apI [] d_Author_D).length (apI [] d_Author_D)) d_Author_U)) d_Id).length (apI (List.take (apI (List.take (apI [] d_Author_D).length (apI [] d_Author_D)) d_Author_U).length (apI (List.take (apI [] d_Author_D).length (apI [] d_Author_D)) d_Author_U)) d_Id)) d_Version).length (apI (List.take (apI (List.take (apI (List.take (apI [] d_Author_D).length (apI [] d_Author_D)) d_Author_U).length (apI (List.take (apI [] d_Author_D).length (apI [] d_Author_D)) d_Author_U)) d_Id).length (apI (List.take (apI (List.take (apI [] d_Author_D).length (apI [] d_Author_D)) d_Author_U).length (apI (List.take (apI [] d_Author_D).length (apI [] d_Author_D)) d_Author_U)) d_Id)) d_Version) ++ List.take 32 d_Hash)) d_Kind)) (ByteArray.mk (Array.mk (Jn (false, pu IntKind.u8 (opB d_Op)).snd))))) d_Who_D)) d_Who_U).length (apI (List.take (apI (List.take (apT (List.take (apY (List.take ((apI (List.take (apI (List.take (apI (List.take (apI [] d_Author_D).length (apI [] d_Author_D)) d_Author_U).length (apI (List.take (apI [] d_Author_D).length (apI [] d_Author_D)) d_Author_U)) d_Id).length (apI (List.take (apI (List.take (apI [] d_Author_D).length (apI [] d_Author_D)) d_Author_U).length (apI (List.take (apI [] d_Author_D).length (apI [] d_Author_D)) d_Author_U)) d_Id)) d_Version).length + (List.take 32 d_Hash).length) (List.take (apI (List.take (apI (List.take (apI (List.take (apI [] d_Author_D).length (apI [] d_Author_D)) d_Author_U).length (apI (List.take (apI [] d_Author_D).length (apI [] d_Author_D)) d_Author_U)) d_Id).length (apI (List.take (apI (List.take (apI [] d_Author_D).length (apI [] d_Author_D)) d_Author_U).length (apI (List.take (apI [] d_Author_D).length (apI [] d_Author_D)) d_Author_U)) d_Id)) d_Version).length (apI (List.take (apI (List.take (apI (List.take (apI [] d_Author_D).length (apI [] d_Author_D)) d_Author_U).length (apI (List.take (apI [] d_Author_D).length (apI [] d_Author_D)) d_Author_U)) d_Id).length (apI (List.take (apI (List.take (apI [] d_Author_D).length (apI [] d_Author_D)) d_Author_U).length (apI (List.take (apI [] d_Author_D).length (apI [] d_Author_D)) d_Author_U)) d_Id)) d_Version) ++ List.take 32 d_Hash)) d_Kind).length (apY (List.take ((apI (List.take (apI (List.take (apI (List.take (apI [] d_Author_D).length (apI [] d_Author_D)) d_Author_U).length (apI (List.take (apI [] d_Author_D).length (apI [] d_Author_D)) d_Author_U)) d_Id).length (apI (List.take (apI (List.take (apI [] d_Author_D).length (apI [] d_Author_D)) d_Author_U).length (apI (List.take (apI [] d_Author_D).length (apI [] d_Author_D)) d_Author_U)) d_Id)) d_Version).length + (List.take 32 d_Hash).length) (List.take (apI (List.take (apI (List.take (apI (List.take (apI [] d_Author_D).length (apI [] d_Author_D)) d_Author_U).length (apI (List.take (apI [] d_Author_D).length (apI [] d_Author_D)) d_Author_U)) d_Id).length (apI (List.take (apI (List.take (apI [] d_Author_D).length (apI [] d_Author_D)) d_Author_U).length (apI (List.take (apI [] d_Author_D).length (apI [] d_Author_D)) d_Author_U)) d_Id)) d_Version).length (apI (List.take (apI (List.take (apI (List.take (apI [] d_Author_D).length (apI [] d_Author_D)) d_Author_U).length (apI (List.take (apI [] d_Author_D).length (apI [] d_Author_D)) d_Author_U)) d_Id).length (apI (List.take (apI (List.take (apI [] d_Author_D).length (apI [] d_Author_D)) d_Author_U).length (apI (List.take (apI [] d_Author_D).length (apI [] d_Author_D)) d_Author_U)) d_Id)) d_Version) ++ List.take 32 d_Hash)) d_Kind)) (ByteArray.mk (Array.mk (Jn (false, pu IntKind.u8 (opB d_Op)).snd)))).length (apT (List.take (apY (List.take ((apI (List.take (apI (List.take (apI (List.take (apI [] d_Author_D).length (apI [] d_Author_D)) d_Author_U).length (apI (List.take (apI [] d_Author_D).length (apI [] d_Author_D)) d_Author_U)) d_Id).length (apI (List.take (apI (List.take (apI [] d_Author_D).length (apI [] d_Author_D)) d_Author_U).length (apI (List.take (apI [] d_Author_D).length (apI [] d_Author_D)) d_Author_U)) d_Id)) d_Version).length + (List.take 32 d_Hash).length) (List.take (apI (List.take (apI (List.take (apI (List.take (apI [] d_Author_D).length (apI [] d_Author_D)) d_Author_U).length (apI (List.take (apI [] d_Author_D).length (apI [] d_Author_D)) d_Author_U)) d_Id).length (apI (List.take (apI (List.take (apI [] d_Author_D).length (apI [] d_Author_D)) d_Author_U).length (apI (List.take (apI [] d_Author_D).length (apI [] d_Author_D)) d_Author_U)) d_Id)) d_Version).length (apI (List.take (apI (List.take (apI (List.take (apI [] d_Author_D).length (apI [] d_Author_D)) d_Author_U).length (apI (List.take (apI [] d_Author_D).length (apI [] d_Author_D)) d_Author_U)) d_Id).length (apI (List.take (apI (List.take (apI [] d_Author_D).length (apI [] d_Author_D)) d_Author_U).length (apI (List.take (apI [] d_Author_D).length (apI [] d_Author_D)) d_Author_U)) d_Id)) d_Version) ++ List.take 32 d_Hash)) d_Kind).length (apY (List.take ((apI (List.take (apI (List.take (apI (List.take (apI [] d_Author_D).length (apI [] d_Author_D)) d_Author_U).length (apI (List.take (apI [] d_Author_D).length (apI [] d_Author_D)) d_Author_U)) d_Id).length (apI (List.take (apI (List.take (apI [] d_Author_D).length (apI [] d_Author_D)) d_Author_U).length (apI (List.take (apI [] d_Author_D).length (apI [] d_Author_D)) d_Author_U)) d_Id)) d_Version).length + (List.take 32 d_Hash).length) (List.take (apI (List.take (apI (List.take (apI (List.take (apI [] d_Author_D).length (apI [] d_Author_D)) d_Author_U).length (apI (List.take (apI [] d_Author_D).length (apI [] d_Author_D)) d_Author_U)) d_Id).length (apI (List.take (apI (List.take (apI [] d_Author_D).length (apI [] d_Author_D)) d_Author_U).length (apI (List.take (apI [] d_Author_D).length (apI [] d_Author_D)) d_Author_U)) d_Id)) d_Version).length (apI (List.take (apI (List.take (apI (List.take (apI [] d_Author_D).length (apI [] d_Author_D)) d_Author_U).length (apI (List.take (apI [] d_Author_D).length (apI [] d_Author_D)) d_Author_U)) d_Id).length (apI (List.take (apI (List.take (apI [] d_Author_D).length (apI [] d_Author_D)) d_Author_U).length (apI (List.take (apI [] d_Author_D).length (apI [] d_Author_D)) d_Author_U)) d_Id)) d_Version) ++ List.take 32 d_Hash)) d_Kind)) (ByteArray.mk (Array.mk (Jn (false, pu IntKind.u8 (opB d_Op)).snd))))) d_Who_D).length (apI (List.take (apT (List.take (apY (List.take ((apI (List.take (apI (List.take (apI (List.take (apI [] d_Author_D).length (apI [] d_Author_D)) d_Author_U).length (apI (List.take (apI [] d_Author_D).length (apI [] d_Author_D)) d_Author_U)) d_Id).length (apI (List.take (apI (List.take (apI [] d_Author_D).length (apI [] d_Author_D)) d_Author_U).length (apI (List.take (apI [] d_Author_D).length (apI [] d_Author_D)) d_Author_U)) d_Id)) d_Version).length + (List.take 32 d_Hash).length) (List.take (apI (List.take (apI (List.take (apI (List.take (apI [] d_Author_D).length (apI [] d_Author_D)) d_Author_U).length (apI (List.take (apI [] d_Author_D).length (apI [] d_Author_D)) d_Author_U)) d_Id).length (apI (List.take (apI (List.take (apI [] d_Author_D).length (apI [] d_Author_D)) d_Author_U).length (apI (List.take (apI [] d_Author_D).length (apI [] d_Author_D)) d_Author_U)) d_Id)) d_Version).length (apI (List.take (apI (List.take (apI (List.take (apI [] d_Author_D).length (apI [] d_Author_D)) d_Author_U).length (apI (List.take (apI [] d_Author_D).length (apI [] d_Author_D)) d_Author_U)) d_Id).length (apI (List.take (apI (List.take (apI [] d_Author_D).length (apI [] d_Author_D)) d_Author_U).length (apI (List.take (apI [] d_Author_D).length (apI [] d_Author_D)) d_Author_U)) d_Id)) d_Version) ++ List.take 32 d_Hash)) d_Kind).length (apY (List.take ((apI (List.take (apI (List.take (apI (List.take (apI [] d_Author_D).length (apI [] d_Author_D)) d_Author_U).length (apI (List.take (apI [] d_Author_D).length (apI [] d_Author_D)) d_Author_U)) d_Id).length (apI (List.take (apI (List.take (apI [] d_Author_D).length (apI [] d_Author_D)) d_Author_U).length (apI (List.take (apI [] d_Author_D).length (apI [] d_Author_D)) d_Author_U)) d_Id)) d_Version).length + (List.take 32 d_Hash).length) (List.take (apI (List.take (apI (List.take (apI (List.take (apI [] d_Author_D).length (apI [] d_Author_D)) d_Author_U).length (apI (List.take (apI [] d_Author_D).length (apI [] d_Author_D)) d_Author_U)) d_Id).length (apI (List.take (apI (List.take (apI [] d_Author_D).length (apI [] d_Author_D)) d_Author_U).length (apI (List.take (apI [] d_Author_D).length (apI [] d_Author_D)) d_Author_U)) d_Id)) d_Version).length (apI (List.take (apI (List.take (apI (List.take (apI [] d_Author_D).length (apI [] d_Author_D)) d_Author_U).length (apI (List.take (apI [] d_Author_D).length (apI [] d_Author_D)) d_Author_U)) d_Id).length (apI (List.take (apI (List.take (apI [] d_Author_D).length (apI [] d_Author_D)) d_Author_U).length (apI (List.take (apI [] d_Author_D).length (apI [] d_Author_D)) d_Author_U)) d_Id)) d_Version) ++ List.take 32 d_Hash)) d_Kind)) (ByteArray.mk (Array.mk (Jn (false, pu IntKind.u8 (opB d_Op)).snd)))).length (apT (List.take (apY (List.take ((apI (List.take (apI (List.take (apI (List.take (apI [] d_Author_D).length (apI [] d_Author_D)) d_Author_U).length (apI (List.take (apI [] d_Author_D).length (apI [] d_Author_D)) d_Author_U)) d_Id).length (apI (List.take (apI (List.take (apI [] d_Author_D).length (apI [] d_Author_D)) d_Author_U).length (apI (List.take (apI [] d_Author_D).length (apI [] d_Author_D)) d_Author_U)) d_Id)) d_Version).length + (List.take 32 d_Hash).length) (List.take (apI (List.take (apI (List.take (apI (List.take (apI [] d_Author_D).length (apI [] d_Author_D)) d_Author_U).length (apI (List.take (apI [] d_Author_D).length (apI [] d_Author_D)) d_Author_U)) d_Id).length (apI (List.take (apI (List.take (apI [] d_Author_D).length (apI [] d_Author_D)) d_Author_U).length (apI (List.take (apI [] d_Author_D).length (apI [] d_Author_D)) d_Author_U)) d_Id)) d_Version).length (apI (List.take (apI (List.take (apI (List.take (apI [] d_Author_D).length (apI [] d_Author_D)) d_Author_U).length (apI (List.take (apI [] d_Author_D).length (apI [] d_Author_D)) d_Author_U)) d_Id).length (apI (List.take (apI (List.take (apI [] d_Author_D).length (apI [] d_Author_D)) d_Author_U).length (apI (List.take (apI [] d_Author_D).length (apI [] d_Author_D)) d_Author_U)) d_Id)) d_Version) ++ List.take 32 d_Hash)) d_Kind).length (apY (List.take ((apI (List.take (apI (List.take (apI (List.take (apI [] d_Author_D).length (apI [] d_Author_D)) d_Author_U).length (apI (List.take (apI [] d_Author_D).length (apI [] d_Author_D)) d_Author_U)) d_Id).length (apI (List.take (apI (List.take (apI [] d_Author_D).length (apI [] d_Author_D)) d_Author_U).length (apI (List.take (apI [] d_Author_D).length (apI [] d_Author_D)) d_Author_U)) d_Id)) d_Version).length + (List.take 32 d_Hash).length) (List.take (apI (List.take (apI (List.take (apI (List.take (apI [] d_Author_D).length (apI [] d_Author_D)) d_Author_U).length (apI (List.take (apI [] d_Author_D).length (apI [] d_Author_D)) d_Author_U)) d_Id).length (apI (List.take (apI (List.take (apI [] d_Author_D).length (apI [] d_Author_D)) d_Author_U).length (apI (List.take (apI [] d_Author_D).length (apI [] d_Author_D)) d_Author_U)) d_Id)) d_Version).length (apI (List.take (apI (List.take (apI (List.take (apI [] d_Author_D).length (apI [] d_Author_D)) d_Author_U).length (apI (List.take (apI [] d_Author_D).length (apI [] d_Author_D)) d_Author_U)) d_Id).length (apI (List.take (apI (List.take (apI [] d_Author_D).length (apI [] d_Author_D)) d_Author_U).length (apI (List.take (apI [] d_Author_D).length (apI [] d_Author_D)) d_Author_U)) d_Id)) d_Version) ++ List.take 32 d_Hash)) d_Kind)) (ByteArray.mk (Array.mk (Jn (false, pu IntKind.u8 (opB d_Op)).snd))))) d_Who_D)) d_Who_U))) [] []) else none else none else none else none else none else none else none else none else none else none else none
theorem JzW (f : Nat) (d_Author_D : Int) (d_Author_U : Int) (d_Id : Int) (d_Version : Int) (d_Hash : List PV) (d_Kind : Int) (d_Op_z : Bool) (d_Op_f : Bool) (d_Op : List PV) (d_Who_D : Int) (d_Who_U : Int) (k : Res → Option Res) : JM tau Jw1 Try.f101 (Try.f101.body.get!) Jis [.ro] 6 [.st 73 [.st 45 [.sc (.int .i64 d_Author_D), .sc (.int .i64 d_Author_U)], .sc (.int .i64 d_Id), .sc (.int .i64 d_Version), .ar 37 d_Hash, .sc (.int .i64 d_Kind), .ro 99 d_Op_z d_Op_f d_Op, .st 45 [.sc (.int .i64 d_Who_D), .sc (.int .i64 d_Who_U)]]] [] k = JsC f d_Author_D d_Author_U d_Id d_Version d_Hash d_Kind d_Op_z d_Op_f d_Op d_Who_D d_Who_U k := by kernel_rfl
theorem Jw2 (f : Nat) : Jg (Try.f101.body.get!) Jis = [] := by kernel_rfl
theorem Jw3 (f : Nat) : ∀ q ∈ Jg (Try.f101.body.get!) Jis, q.Ok tau Try.prog 0 := by
  rw [Jw2 f]; intro q hq; cases hq
theorem Jp9 : Try.prog.funcs[101]? = some Try.f101 := by kernel_rfl
theorem Jqa : Try.f101.body = some (Try.f101.body.get!) := by kernel_rfl
theorem Jw4 : Enters Try.prog 101 := enters_of Jp9 (by kernel_rfl) Jqa
noncomputable def F53 : Fns := JG 111 Jp8 (JG 110 JkZ (JG 109 JpV (JG 108 JpU (F0))))
theorem JsD : Jx tau Try.prog F53 := ((((JE).add Jso JpB).add Jsp JwJ).add Jk0 Jpx).add JsA JwO
def JnR : An := (.seq .leaf (.seq .leaf (.seq .leaf (.seq .leaf (.seq .leaf (.seq .leaf .leaf))))))
noncomputable def g53 (f : Nat) (d_Author_D : Int) (d_Author_U : Int) (d_Id : Int) (d_Version : Int) (d_Hash : List PV) (d_Kind : Int) (d_Op_z : Bool) (d_Op_f : Bool) (d_Op : List PV) (d_Who_D : Int) (d_Who_U : Int) (k : Res → Option Res) : Option Res := bif okL (apI [] d_Author_D).length (apI [] d_Author_D) then bif okL (apI (apI [] d_Author_D) d_Author_U).length (apI (apI [] d_Author_D) d_Author_U) then bif okL (apI (apI (apI [] d_Author_D) d_Author_U) d_Id).length (apI (apI (apI [] d_Author_D) d_Author_U) d_Id) then bif Jj ((apI (apI (apI (apI [] d_Author_D) d_Author_U) d_Id) d_Version).length + (List.take 32 d_Hash).length) 1 && true then bif okL ((apI (apI (apI (apI [] d_Author_D) d_Author_U) d_Id) d_Version).length + (List.take 32 d_Hash).length) (List.take (apI (apI (apI (apI [] d_Author_D) d_Author_U) d_Id) d_Version).length (apI (apI (apI (apI [] d_Author_D) d_Author_U) d_Id) d_Version) ++ List.take 32 d_Hash) then bif cBy d_Op then bif Je IntKind.u8 (List.take (opB d_Op).length (pu IntKind.u8 (opB d_Op))) && true then bif okL (apY (List.take (apI (apI (apI (apI [] d_Author_D) d_Author_U) d_Id) d_Version).length (apI (apI (apI (apI [] d_Author_D) d_Author_U) d_Id) d_Version) ++ List.take 32 d_Hash) d_Kind).length (apY (List.take (apI (apI (apI (apI [] d_Author_D) d_Author_U) d_Id) d_Version).length (apI (apI (apI (apI [] d_Author_D) d_Author_U) d_Id) d_Version) ++ List.take 32 d_Hash) d_Kind) && (ByteArray.mk (Array.mk (Jn ((Ent.vec false 5 false (pu IntKind.u8 (opB d_Op))).nil, List.take (opB d_Op).length (List.drop 0 (pu IntKind.u8 (opB d_Op)))).snd))).size.ble 65535 then bif okL (apT (apY (List.take (apI (apI (apI (apI [] d_Author_D) d_Author_U) d_Id) d_Version).length (apI (apI (apI (apI [] d_Author_D) d_Author_U) d_Id) d_Version) ++ List.take 32 d_Hash) d_Kind) (ByteArray.mk (Array.mk (Jn ((Ent.vec false 5 false (pu IntKind.u8 (opB d_Op))).nil, List.take (opB d_Op).length (List.drop 0 (pu IntKind.u8 (opB d_Op)))).snd)))).length (apT (apY (List.take (apI (apI (apI (apI [] d_Author_D) d_Author_U) d_Id) d_Version).length (apI (apI (apI (apI [] d_Author_D) d_Author_U) d_Id) d_Version) ++ List.take 32 d_Hash) d_Kind) (ByteArray.mk (Array.mk (Jn ((Ent.vec false 5 false (pu IntKind.u8 (opB d_Op))).nil, List.take (opB d_Op).length (List.drop 0 (pu IntKind.u8 (opB d_Op)))).snd)))) then bif okL (apI (apT (apY (List.take (apI (apI (apI (apI [] d_Author_D) d_Author_U) d_Id) d_Version).length (apI (apI (apI (apI [] d_Author_D) d_Author_U) d_Id) d_Version) ++ List.take 32 d_Hash) d_Kind) (ByteArray.mk (Array.mk (Jn ((Ent.vec false 5 false (pu IntKind.u8 (opB d_Op))).nil, List.take (opB d_Op).length (List.drop 0 (pu IntKind.u8 (opB d_Op)))).snd)))) d_Who_D).length (apI (apT (apY (List.take (apI (apI (apI (apI [] d_Author_D) d_Author_U) d_Id) d_Version).length (apI (apI (apI (apI [] d_Author_D) d_Author_U) d_Id) d_Version) ++ List.take 32 d_Hash) d_Kind) (ByteArray.mk (Array.mk (Jn ((Ent.vec false 5 false (pu IntKind.u8 (opB d_Op))).nil, List.take (opB d_Op).length (List.drop 0 (pu IntKind.u8 (opB d_Op)))).snd)))) d_Who_D) then k (Res.mk (.ow 5 16 [] 0 (apI (apI (apT (apY (List.take (apI (apI (apI (apI [] d_Author_D) d_Author_U) d_Id) d_Version).length (apI (apI (apI (apI [] d_Author_D) d_Author_U) d_Id) d_Version) ++ List.take 32 d_Hash) d_Kind) (ByteArray.mk (Array.mk (Jn ((Ent.vec false 5 false (pu IntKind.u8 (opB d_Op))).nil, List.take (opB d_Op).length (List.drop 0 (pu IntKind.u8 (opB d_Op)))).snd)))) d_Who_D) d_Who_U).length none) [] [.vec false 5 false (apI (apI (apT (apY (List.take (apI (apI (apI (apI [] d_Author_D) d_Author_U) d_Id) d_Version).length (apI (apI (apI (apI [] d_Author_D) d_Author_U) d_Id) d_Version) ++ List.take 32 d_Hash) d_Kind) (ByteArray.mk (Array.mk (Jn ((Ent.vec false 5 false (pu IntKind.u8 (opB d_Op))).nil, List.take (opB d_Op).length (List.drop 0 (pu IntKind.u8 (opB d_Op)))).snd)))) d_Who_D) d_Who_U)]) else none else none else none else none else none else none else none else none else none else none
theorem e53 (f : Nat) (d_Author_D : Int) (d_Author_U : Int) (d_Id : Int) (d_Version : Int) (d_Hash : List PV) (d_Kind : Int) (d_Op_z : Bool) (d_Op_f : Bool) (d_Op : List PV) (d_Who_D : Int) (d_Who_U : Int) (k : Res → Option Res) : JM tau F53 Try.f53 (Try.f53.body.get!) JnR [] 0 [.st 73 [.st 45 [.sc (.int .i64 d_Author_D), .sc (.int .i64 d_Author_U)], .sc (.int .i64 d_Id), .sc (.int .i64 d_Version), .ar 37 d_Hash, .sc (.int .i64 d_Kind), .ro 99 d_Op_z d_Op_f d_Op, .st 45 [.sc (.int .i64 d_Who_D), .sc (.int .i64 d_Who_U)]]] [] k = g53 f d_Author_D d_Author_U d_Id d_Version d_Hash d_Kind d_Op_z d_Op_f d_Op d_Who_D d_Who_U k := by kernel_rfl
theorem JzX (f : Nat) : Jg (Try.f53.body.get!) JnR = [] := by kernel_rfl
theorem JzY (f : Nat) : ∀ q ∈ Jg (Try.f53.body.get!) JnR, q.Ok tau Try.prog 0 := by
  rw [JzX f]; intro q hq; cases hq
theorem Jw5 : Try.prog.funcs[53]? = some Try.f53 := by kernel_rfl
theorem Jw6 : Try.f53.body = some (Try.f53.body.get!) := by kernel_rfl
theorem JzZ : Enters Try.prog 53 := enters_of Jw5 (by kernel_rfl) Jw6
noncomputable def F58 : Fns := JG 114 Jlk (JG 98 Jnz (JG 97 Jsm (F0)))
theorem JsE : Jx tau Try.prog F58 := (((JE).add JpT JrN).add JkY JrI).add Jll JpY
def JnS : An := (.seq .leaf (.seq .leaf (.seq .leaf .leaf)))
noncomputable def g58 (f : Nat) (e_S_Body_z : Bool) (e_S_Body_f : Bool) (e_S_Body : List PV) (e_S_Mac : List PV) (e_At : Int) (e_Op_z : Bool) (e_Op_f : Bool) (e_Op : List PV) (e_Hash : List PV) (e_Mac : List PV) (k : Res → Option Res) : Option Res := bif Je IntKind.u8 e_S_Body && true then bif okZ true [] && (ByteArray.mk (Array.mk (Jn (e_S_Body_z, e_S_Body).snd))).size.ble 65535 then bif Jj ((apT [] (ByteArray.mk (Array.mk (Jn (e_S_Body_z, e_S_Body).snd)))).length + (List.take 32 e_S_Mac).length) 1 && true then bif okZ false (List.take ((apT [] (ByteArray.mk (Array.mk (Jn (e_S_Body_z, e_S_Body).snd)))).length + (List.take 32 e_S_Mac).length) (List.take (apT [] (ByteArray.mk (Array.mk (Jn (e_S_Body_z, e_S_Body).snd)))).length (apT [] (ByteArray.mk (Array.mk (Jn (e_S_Body_z, e_S_Body).snd)))) ++ List.take 32 e_S_Mac)) then bif cBy e_Op then bif Je IntKind.u8 (pu IntKind.u8 (opB e_Op)) && true then bif okZ false (List.take (apI (List.take ((apT [] (ByteArray.mk (Array.mk (Jn (e_S_Body_z, e_S_Body).snd)))).length + (List.take 32 e_S_Mac).length) (List.take (apT [] (ByteArray.mk (Array.mk (Jn (e_S_Body_z, e_S_Body).snd)))).length (apT [] (ByteArray.mk (Array.mk (Jn (e_S_Body_z, e_S_Body).snd)))) ++ List.take 32 e_S_Mac)) e_At).length (apI (List.take ((apT [] (ByteArray.mk (Array.mk (Jn (e_S_Body_z, e_S_Body).snd)))).length + (List.take 32 e_S_Mac).length) (List.take (apT [] (ByteArray.mk (Array.mk (Jn (e_S_Body_z, e_S_Body).snd)))).length (apT [] (ByteArray.mk (Array.mk (Jn (e_S_Body_z, e_S_Body).snd)))) ++ List.take 32 e_S_Mac)) e_At)) && (ByteArray.mk (Array.mk (Jn (false, pu IntKind.u8 (opB e_Op)).snd))).size.ble 65535 then k (Res.mk (.ro 5 false false (List.take (apT (List.take (apI (List.take ((apT [] (ByteArray.mk (Array.mk (Jn (e_S_Body_z, e_S_Body).snd)))).length + (List.take 32 e_S_Mac).length) (List.take (apT [] (ByteArray.mk (Array.mk (Jn (e_S_Body_z, e_S_Body).snd)))).length (apT [] (ByteArray.mk (Array.mk (Jn (e_S_Body_z, e_S_Body).snd)))) ++ List.take 32 e_S_Mac)) e_At).length (apI (List.take ((apT [] (ByteArray.mk (Array.mk (Jn (e_S_Body_z, e_S_Body).snd)))).length + (List.take 32 e_S_Mac).length) (List.take (apT [] (ByteArray.mk (Array.mk (Jn (e_S_Body_z, e_S_Body).snd)))).length (apT [] (ByteArray.mk (Array.mk (Jn (e_S_Body_z, e_S_Body).snd)))) ++ List.take 32 e_S_Mac)) e_At)) (ByteArray.mk (Array.mk (Jn (false, pu IntKind.u8 (opB e_Op)).snd)))).length (apT (List.take (apI (List.take ((apT [] (ByteArray.mk (Array.mk (Jn (e_S_Body_z, e_S_Body).snd)))).length + (List.take 32 e_S_Mac).length) (List.take (apT [] (ByteArray.mk (Array.mk (Jn (e_S_Body_z, e_S_Body).snd)))).length (apT [] (ByteArray.mk (Array.mk (Jn (e_S_Body_z, e_S_Body).snd)))) ++ List.take 32 e_S_Mac)) e_At).length (apI (List.take ((apT [] (ByteArray.mk (Array.mk (Jn (e_S_Body_z, e_S_Body).snd)))).length + (List.take 32 e_S_Mac).length) (List.take (apT [] (ByteArray.mk (Array.mk (Jn (e_S_Body_z, e_S_Body).snd)))).length (apT [] (ByteArray.mk (Array.mk (Jn (e_S_Body_z, e_S_Body).snd)))) ++ List.take 32 e_S_Mac)) e_At)) (ByteArray.mk (Array.mk (Jn (false, pu IntKind.u8 (opB e_Op)).snd)))))) [] []) else none else none else none else none else none else none else none
theorem e58 (f : Nat) (e_S_Body_z : Bool) (e_S_Body_f : Bool) (e_S_Body : List PV) (e_S_Mac : List PV) (e_At : Int) (e_Op_z : Bool) (e_Op_f : Bool) (e_Op : List PV) (e_Hash : List PV) (e_Mac : List PV) (k : Res → Option Res) : JM tau F58 Try.f58 (Try.f58.body.get!) JnS [.ro] 0 [.st 93 [.st 77 [.ro 5 e_S_Body_z e_S_Body_f e_S_Body, .ar 37 e_S_Mac], .sc (.int .i64 e_At), .ro 99 e_Op_z e_Op_f e_Op, .ar 37 e_Hash, .ar 37 e_Mac]] [] k = g58 f e_S_Body_z e_S_Body_f e_S_Body e_S_Mac e_At e_Op_z e_Op_f e_Op e_Hash e_Mac k := by kernel_rfl
theorem Jz0 (f : Nat) : Jg (Try.f58.body.get!) JnS = [] := by kernel_rfl
theorem Jz1 (f : Nat) : ∀ q ∈ Jg (Try.f58.body.get!) JnS, q.Ok tau Try.prog 0 := by
  rw [Jz0 f]; intro q hq; cases hq
theorem Jw7 : Try.prog.funcs[58]? = some Try.f58 := by kernel_rfl
theorem Jw8 : Try.f58.body = some (Try.f58.body.get!) := by kernel_rfl
theorem Jz2 : Enters Try.prog 58 := enters_of Jw7 (by kernel_rfl) Jw8

-- FN sign.Core | ref9.Core
def tx (l : List PV) : ByteArray := ByteArray.mk (Array.mk (Jn l))
theorem WB (l : List PV) : (tx l).size = l.length := YI l
structure EV where
  (b m : List PV) (at1 : Int) (o : List PV)
noncomputable def Jbo (e : EV) : List Int := Qf (tx e.b) ++ (Jf e.m ++ (J4 e.at1 ++ Qf (tx (pu .u8 (opB e.o)))))
noncomputable def Wn : EV → List Int := hid Jbo
theorem Jbp (e : EV) : Wn e = Jbo e := by rw [Wn, hid_eq]
noncomputable def eOk : EV → Bool := hid fun e => Je .u8 e.b && (decide (e.b.length ≤ 65535) && (Je .u8 e.m && (decide (e.m.length = 32) && (cBy e.o && decide ((opB e.o).length ≤ 65535)))))
theorem VZ {e : EV} : eOk e = true ↔ Je .u8 e.b = true ∧ e.b.length ≤ 65535 ∧ Je .u8 e.m = true ∧ e.m.length = 32 ∧ cBy e.o = true ∧ (opB e.o).length ≤ 65535 := by
  rw [eOk, hid_eq]; simp only [Bool.and_eq_true, decide_eq_true_eq]
theorem V0 {e : EV} (h : eOk e = true) : (Wn e).length = e.b.length + (opB e.o).length + 44 := by
  obtain ⟨h1, h2, h3, h4, h5, h6⟩ := VZ.1 h
  rw [Jbp]
  simp only [Jbo, List.length_append, VH, QS, W7, WB, JI, h4]; omega
theorem JgL {e : EV} (h : eOk e = true) : apT (apI (apT [] (tx e.b) ++ List.take 32 e.m) e.at1) (tx (pu .u8 (opB e.o))) = pu .u8 (Wn e) := by
  obtain ⟨h1, h2, h3, h4, h5, h6⟩ := VZ.1 h
  rw [Jbp, Xh, Y7, Xh, List.take_of_length_le (by omega)]
  simp only [Jbo, JO, List.nil_append, List.append_assoc, ← Qb h3]
noncomputable def JgM : List PV → List Ent → (Res → Option Res) → Option Res
  | [.st 93 [.st 77 [.ro 5 bz bf b, .ar 37 m], .sc (.int .i64 at1), .ro 99 oz of o, .ar 37 h, .ar 37 mc]], [], k => bif eOk ⟨b, m, at1, o⟩ then k ⟨.ro 5 false false (pu .u8 (Wn ⟨b, m, at1, o⟩)), [], []⟩ else none
  | _, _, _ => none
noncomputable def Jw9 : Sig := { own := [], run := JgM }
theorem JsF (bz bf : Bool) (b m : List PV) (at1 : Int) (oz of : Bool) (o h mc : List PV) (he : eOk ⟨b, m, at1, o⟩ = true) (k : Res → Option Res) : g58 0 bz bf b m at1 oz of o h mc k = k ⟨.ro 5 false false (pu .u8 (Wn ⟨b, m, at1, o⟩)), [], []⟩ := by
  have hl := V0 he
  have hp := JgL he
  obtain ⟨h1, h2, h3, h4, h5, h6⟩ := VZ.1 he
  simp only at hl hp h1 h2 h3 h4 h5 h6
  have ht : ∀ l : List PV, ByteArray.mk (Array.mk (Jn l)) = tx l := fun l => rfl
  have hm : List.take 32 m = m := List.take_of_length_le (by omega)
  have l1 : (apT [] (tx b)).length = b.length + 2 := by rw [Xh]; simp [WB]
  have l2 : ∀ (L : List PV) (n : Int), (apI L n).length = L.length + 8 := Zz
  have htp : ∀ l : List Int, List.take l.length (pu .u8 l) = pu .u8 l := fun l => List.take_of_length_le (by simp)
  have hcat : ∀ n, n = (apT [] (tx b)).length + m.length → List.take n (apT [] (tx b) ++ m) = apT [] (tx b) ++ m := fun n hn => List.take_of_length_le (by simp; omega)
  rw [hm] at hp
  unfold g58
  simp only [ht, hm, List.take_length, htp, List.drop_zero, hcat _ rfl, WB, JI]
  refine (Ja (by rw [h1]; rfl)).trans ((Ja (by rw [Y8]; show (true && _) = true; rw [Bool.true_and, Nat.ble_eq]; exact h2)).trans ((Ja (by simp only [Jj, Nat.mul_one, Bool.and_true, decide_eq_true_eq, l1]; omega)).trans ((Ja (by rw [QM (by rw [List.length_append, l1]; omega)])).trans ((Ja h5).trans ((Ja (by rw [JV]; rfl)).trans ((Ja (by rw [QM (by rw [l2, List.length_append, l1]; omega), Bool.true_and, Nat.ble_eq]; exact h6)).trans ?_))))))
  rw [hp]
  try rfl
theorem Jxa : Jh tau Try.prog 58 Jw9 := Jh.mk' fun xs es k res hl hr => by
  change JgM xs es k = some res at hr
  unfold JgM at hr
  split at hr
  · rename_i bz bf b m at1 oz of o h mc
    obtain ⟨hc, hr⟩ := JH hr
    exact Ql Jq JsE Jr Jw7 Jw8 JnS [.ro] 0 0 (Jz1 0) hl rfl ((e58 0 bz bf b m at1 oz of o h mc k).trans ((JsF bz bf b m at1 oz of o h mc hc k).trans hr))
  · cases hr
-- FN delta.Bytes | ref8.Bytes
structure DV where
  (ad au id ve : Int) (h : List PV) (kd : Int) (o : List PV) (wd wu : Int)
noncomputable def Jjm (d : DV) : List Int := J4 d.ad ++ (J4 d.au ++ (J4 d.id ++ (J4 d.ve ++ (Jf d.h ++ ([IntKind.u8.wrap d.kd] ++ (Qf (tx (pu .u8 (opB d.o))) ++ (J4 d.wd ++ J4 d.wu)))))))
noncomputable def dlB : DV → List Int := hid Jjm
theorem JdH (d : DV) : dlB d = Jjm d := by rw [dlB, hid_eq]
noncomputable def dOk : DV → Bool := hid fun d => Je .u8 d.h && (decide (d.h.length = 32) && (cBy d.o && decide ((opB d.o).length ≤ 65535)))
theorem WC {d : DV} : dOk d = true ↔ Je .u8 d.h = true ∧ d.h.length = 32 ∧ cBy d.o = true ∧ (opB d.o).length ≤ 65535 := by
  rw [dOk, hid_eq]; simp only [Bool.and_eq_true, decide_eq_true_eq]
theorem Vc {d : DV} (h : dOk d = true) : (dlB d).length = (opB d.o).length + 83 := by
  obtain ⟨h1, h2, h3, h4⟩ := WC.1 h
  rw [JdH]
  simp only [Jjm, List.length_append, VH, QS, W7, WB, JI, h2, List.length_cons, List.length_nil]; omega
theorem Jff {d : DV} (h : dOk d = true) : apI (apI (apT (apY (apI (apI (apI (apI [] d.ad) d.au) d.id) d.ve ++ List.take 32 d.h) d.kd) (tx (pu .u8 (opB d.o)))) d.wd) d.wu = pu .u8 (dlB d) := by
  obtain ⟨h1, h2, h3, h4⟩ := WC.1 h
  rw [JdH, List.take_of_length_le (by omega)]
  simp only [Xh, Y7, Z7, Jjm, JO, List.nil_append, List.append_assoc, ← Qb h1]
noncomputable def JdI : List PV → List Ent → (Res → Option Res) → Option Res
  | [.st 73 [.st 45 [.sc (.int .i64 ad), .sc (.int .i64 au)], .sc (.int .i64 id1), .sc (.int .i64 ve), .ar 37 h, .sc (.int .i64 kd), .ro 99 oz of o, .st 45 [.sc (.int .i64 wd), .sc (.int .i64 wu)]]], [], k => bif dOk ⟨ad, au, id1, ve, h, kd, o, wd, wu⟩ then k ⟨.ro 5 false false (pu .u8 (dlB ⟨ad, au, id1, ve, h, kd, o, wd, wu⟩)), [], []⟩ else none
  | _, _, _ => none
noncomputable def Jqb : Sig := { own := [], run := JdI }
theorem JnT (ad au id1 ve : Int) (h : List PV) (kd : Int) (oz of : Bool) (o : List PV) (wd wu : Int) (he : dOk ⟨ad, au, id1, ve, h, kd, o, wd, wu⟩ = true) (k : Res → Option Res) : JsC 0 ad au id1 ve h kd oz of o wd wu k = k ⟨.ro 5 false false (pu .u8 (dlB ⟨ad, au, id1, ve, h, kd, o, wd, wu⟩)), [], []⟩ := by
  have hl := Vc he
  have hp := Jff he
  obtain ⟨h1, h2, h3, h4⟩ := WC.1 he
  simp only at hl hp h1 h2 h3 h4
  have ht : ∀ l : List PV, ByteArray.mk (Array.mk (Jn l)) = tx l := fun l => rfl
  have hm : List.take 32 h = h := List.take_of_length_le (by omega)
  have l1 : ∀ (L : List PV) (n : Int), (apY L n).length = L.length + 1 := Wb
  have l2 : ∀ (L : List PV) (n : Int), (apI L n).length = L.length + 8 := Zz
  have l3 : ∀ (L : List PV), (apT L (tx (pu .u8 (opB o)))).length = L.length + ((opB o).length + 2) := fun L => by rw [Xh]; simp [WB]
  have htp : ∀ l : List Int, List.take l.length (pu .u8 l) = pu .u8 l := fun l => List.take_of_length_le (by simp)
  have hcat : ∀ L : List PV, List.take (L.length + h.length) (L ++ h) = L ++ h := fun L => List.take_of_length_le (by simp)
  rw [hm] at hp
  unfold JsC
  simp only [ht, hm, List.take_length, htp, List.drop_zero, hcat, WB, JI]
  refine (Ja (by rw [Y8]; rfl)).trans ((Ja (QM (by simp only [l2, List.length_nil]; omega))).trans ((Ja (QM (by simp only [l2, List.length_nil]; omega))).trans ((Ja (QM (by simp only [l2, List.length_nil]; omega))).trans ?_)))
  refine (Ja (by simp only [Jj, Nat.mul_one, Bool.and_true, decide_eq_true_eq, l2, List.length_nil]; omega)).trans ?_
  refine (Ja (by rw [QM (by simp only [List.length_append, l2, List.length_nil]; omega)])).trans ((Ja h3).trans ((Ja (by rw [JV]; rfl)).trans ?_))
  refine (Ja (by rw [QM (by simp only [l1, List.length_append, l2, List.length_nil]; omega), Bool.true_and, Nat.ble_eq]; exact h4)).trans ?_
  refine (Ja (QM (by rw [l3]; simp only [l1, List.length_append, l2, List.length_nil]; omega))).trans ?_
  refine (Ja (QM (by rw [l2, l3]; simp only [l1, List.length_append, l2, List.length_nil]; omega))).trans ?_
  rw [hp]
  try rfl
theorem JsG : Jh tau Try.prog 101 Jqb := Jh.mk' fun xs es k res hl hr => by
  change JdI xs es k = some res at hr
  unfold JdI at hr
  split at hr
  · rename_i ad au id1 ve h kd oz of o wd wu
    obtain ⟨hc, hr⟩ := JH hr
    exact Ql Jq JnP Jr Jp9 Jqa Jis [.ro] 0 6 (Jw3 0) hl rfl ((JzW 0 ad au id1 ve h kd oz of o wd wu k).trans ((JnT ad au id1 ve h kd oz of o wd wu hc k).trans hr))
  · cases hr
noncomputable def JgN : List PV → List Ent → (Res → Option Res) → Option Res
  | [.st 73 [.st 45 [.sc (.int .i64 ad), .sc (.int .i64 au)], .sc (.int .i64 id1), .sc (.int .i64 ve), .ar 37 h, .sc (.int .i64 kd), .ro 99 oz of o, .st 45 [.sc (.int .i64 wd), .sc (.int .i64 wu)]]], [], k => bif dOk ⟨ad, au, id1, ve, h, kd, o, wd, wu⟩ then k ⟨.ow 5 16 [] 0 (dlB ⟨ad, au, id1, ve, h, kd, o, wd, wu⟩).length none, [], [.vec false 5 false (pu .u8 (dlB ⟨ad, au, id1, ve, h, kd, o, wd, wu⟩))]⟩ else none
  | _, _, _ => none
noncomputable def Jxb : Sig := { own := [], run := JgN }
theorem JsH (ad au id1 ve : Int) (h : List PV) (kd : Int) (oz of : Bool) (o : List PV) (wd wu : Int) (he : dOk ⟨ad, au, id1, ve, h, kd, o, wd, wu⟩ = true) (k : Res → Option Res) : g53 0 ad au id1 ve h kd oz of o wd wu k = k ⟨.ow 5 16 [] 0 (dlB ⟨ad, au, id1, ve, h, kd, o, wd, wu⟩).length none, [], [.vec false 5 false (pu .u8 (dlB ⟨ad, au, id1, ve, h, kd, o, wd, wu⟩))]⟩ := by
  have hl := Vc he
  have hp := Jff he
  obtain ⟨h1, h2, h3, h4⟩ := WC.1 he
  simp only at hl hp h1 h2 h3 h4
  have ht : ∀ l : List PV, ByteArray.mk (Array.mk (Jn l)) = tx l := fun l => rfl
  have hm : List.take 32 h = h := List.take_of_length_le (by omega)
  have l1 : ∀ (L : List PV) (n : Int), (apY L n).length = L.length + 1 := Wb
  have l2 : ∀ (L : List PV) (n : Int), (apI L n).length = L.length + 8 := Zz
  have l3 : ∀ (L : List PV), (apT L (tx (pu .u8 (opB o)))).length = L.length + ((opB o).length + 2) := fun L => by rw [Xh]; simp [WB]
  have htp : ∀ l : List Int, List.take l.length (pu .u8 l) = pu .u8 l := fun l => List.take_of_length_le (by simp)
  have hcat : ∀ L : List PV, List.take (L.length + h.length) (L ++ h) = L ++ h := fun L => List.take_of_length_le (by simp)
  rw [hm] at hp
  unfold g53
  simp only [ht, hm, List.take_length, htp, List.drop_zero, hcat, WB, JI]
  refine (Ja (Xi (by simp only [l2, List.length_nil]; omega))).trans ((Ja (Xi (by simp only [l2, List.length_nil]; omega))).trans ((Ja (Xi (by simp only [l2, List.length_nil]; omega))).trans ?_))
  refine (Ja (by simp only [Jj, Nat.mul_one, Bool.and_true, decide_eq_true_eq, l2, List.length_nil]; omega)).trans ?_
  refine (Ja (by rw [show ∀ L : List PV, L.length + h.length = (L ++ h).length from fun L => (List.length_append).symm, Xi (by simp only [List.length_append, l2, List.length_nil]; omega)])).trans ((Ja h3).trans ((Ja (by rw [JV]; rfl)).trans ?_))
  refine (Ja (by rw [Xi (by simp only [l1, List.length_append, l2, List.length_nil]; omega), Bool.true_and, Nat.ble_eq]; exact h4)).trans ?_
  refine (Ja (Xi (by rw [l3]; simp only [l1, List.length_append, l2, List.length_nil]; omega))).trans ?_
  refine (Ja (Xi (by rw [l2, l3]; simp only [l1, List.length_append, l2, List.length_nil]; omega))).trans ?_
  rw [hp]
  rw [JI]
theorem Jxc : Jh tau Try.prog 53 Jxb := Jh.mk' fun xs es k res hl hr => by
  change JgN xs es k = some res at hr
  unfold JgN at hr
  split at hr
  · rename_i ad au id1 ve h kd oz of o wd wu
    obtain ⟨hc, hr⟩ := JH hr
    exact Ql Jq JsD Jr Jw5 Jw6 JnR [] 0 0 (JzY 0) hl rfl ((e53 0 ad au id1 ve h kd oz of o wd wu k).trans ((JsH ad au id1 ve h kd oz of o wd wu hc k).trans hr))
  · cases hr
noncomputable def Jxd : Fns := F0
theorem JnU : Jx tau Try.prog Jxd := JE
def Jit : An := (.seq .leaf (.seq (.seq .leaf (.cond (.seq .leaf .leaf) .leaf)) (.seq .leaf .leaf)))
noncomputable def JnV (f : Nat) (k0_z : Bool) (k0_f : Bool) (k0 : List PV) (k1_z : Bool) (k1_f : Bool) (k1 : List PV) (k2_z : Bool) (k2_f : Bool) (k2 : List PV) (d : Int) (k : Res → Option Res) : Option Res := bif decide (d < 0) then k (Res.mk (.tup [.ro 5 true true [], .sc (.bool false)]) [] []) else bif decide (d ≥ 3) then k (Res.mk (.tup [.ro 5 true true [], .sc (.bool false)]) [] []) else bif decide (0 ≤ d) && decide (d < zi 3) && true then bif PV.isRo 5 (Jk (PV.st 31 [.ro 5 k0_z k0_f k0, .ro 5 k1_z k1_f k1, .ro 5 k2_z k2_f k2]) [d.toNat]) && true then k (Res.mk (.tup [.ro 5 (Jk (PV.st 31 [.ro 5 k0_z k0_f k0, .ro 5 k1_z k1_f k1, .ro 5 k2_z k2_f k2]) [d.toNat]).nl (Jk (PV.st 31 [.ro 5 k0_z k0_f k0, .ro 5 k1_z k1_f k1, .ro 5 k2_z k2_f k2]) [d.toNat]).fl (Jk (PV.st 31 [.ro 5 k0_z k0_f k0, .ro 5 k1_z k1_f k1, .ro 5 k2_z k2_f k2]) [d.toNat]).els, .sc (.bool true)]) [] []) else none else none
theorem Jz3 (f : Nat) (k0_z : Bool) (k0_f : Bool) (k0 : List PV) (k1_z : Bool) (k1_f : Bool) (k1 : List PV) (k2_z : Bool) (k2_f : Bool) (k2 : List PV) (d : Int) (k : Res → Option Res) : JM tau Jxd Try.f102 (Try.f102.body.get!) Jit [.ro, .ro] 0 [.st 31 [.ro 5 k0_z k0_f k0, .ro 5 k1_z k1_f k1, .ro 5 k2_z k2_f k2], .sc (.int .i64 d)] [] k = JnV f k0_z k0_f k0 k1_z k1_f k1 k2_z k2_f k2 d k := by kernel_rfl
theorem Jxe (f : Nat) : Jg (Try.f102.body.get!) Jit = [] := by kernel_rfl
theorem Jxf (f : Nat) : ∀ q ∈ Jg (Try.f102.body.get!) Jit, q.Ok tau Try.prog 0 := by
  rw [Jxe f]; intro q hq; cases hq
theorem Jqc : Try.prog.funcs[102]? = some Try.f102 := by kernel_rfl
theorem Jqd : Try.f102.body = some (Try.f102.body.get!) := by kernel_rfl
theorem Jlm : Enters Try.prog 102 := enters_of Jqc (by kernel_rfl) Jqd
noncomputable def JgO : List PV → List Ent → (Res → Option Res) → Option Res
  | [.st 31 [.ro 5 k0_z k0_f k0, .ro 5 k1_z k1_f k1, .ro 5 k2_z k2_f k2], .sc (.int .i64 d)], [], k => JnV 0 k0_z k0_f k0 k1_z k1_f k1 k2_z k2_f k2 d k
  | _, _, _ => none
noncomputable def Jz4 : Sig := { own := [], run := JgO }
theorem Jxg : Jh tau Try.prog 102 Jz4 := JY Jq JnU Jr Jqc Jqd Jit [.ro, .ro] 0 [] JgO (Jxf 0) fun xs es k res hr => by
  unfold JgO at hr
  split at hr
  · exact ⟨rfl, 0, (Jz3 0 _ _ _ _ _ _ _ _ _ _  _).trans hr⟩
  · cases hr
-- FN sign.key
noncomputable def kIn : Int → Bool := hid fun d => QL d 2
theorem JdJ (d : Int) : kIn d = QL d 2 := by rw [kIn, hid_eq]
noncomputable def JdK : List PV → List Ent → (Res → Option Res) → Option Res
  | [.st 31 [.ro 5 z0 f0 k0, .ro 5 z1 f1 k1, .ro 5 z2 f2 k2], .sc (.int .i64 d)], [], k =>
    k ⟨.tup [.ro 5 (Jq9 ⟨[.ro 5 z0 f0 k0, .ro 5 z1 f1 k1, .ro 5 z2 f2 k2], d⟩) (Jra ⟨[.ro 5 z0 f0 k0, .ro 5 z1 f1 k1, .ro 5 z2 f2 k2], d⟩) (QD ⟨[.ro 5 z0 f0 k0, .ro 5 z1 f1 k1, .ro 5 z2 f2 k2], d⟩), .sc (.bool (kIn d))], [], []⟩
  | _, _, _ => none
noncomputable def Jiu : Sig := { own := [], run := JdK }
theorem JgP : Jh tau Try.prog 102 Jiu := Jxg.of fun xs es k res hr => by
  change JdK xs es k = some res at hr
  unfold JdK at hr
  split at hr
  · rename_i z0 f0 k0 z1 f1 k1 z2 f2 k2 d
    show JnV 0 z0 f0 k0 z1 f1 k1 z2 f2 k2 d k = some res
    rw [JmL, JmM, Jan, JdJ] at hr
    unfold JnV
    by_cases h1 : 0 ≤ d
    · refine (JA (by simp; omega)).trans ?_
      by_cases h2 : d ≤ 2
      · refine (JA (by simp; omega)).trans ?_
        refine (Ja (by simp [zi]; omega)).trans ?_
        have hi : QL d 2 = true := by simp [QL]; omega
        have hk : WP [.ro 5 z0 f0 k0, .ro 5 z1 f1 k1, .ro 5 z2 f2 k2] d = Jk (PV.st 31 [.ro 5 z0 f0 k0, .ro 5 z1 f1 k1, .ro 5 z2 f2 k2]) [d.toNat] := by unfold WP; rw [hi]; rfl
        simp only [hk, hi] at hr
        refine (Ja ?_).trans hr
        have : d = 0 ∨ d = 1 ∨ d = 2 := by omega
        rcases this with rfl | rfl | rfl <;> rfl
      · refine (Ja (by simp; omega)).trans ?_
        have hi : QL d 2 = false := by simp [QL]; omega
        have hk : WP [.ro 5 z0 f0 k0, .ro 5 z1 f1 k1, .ro 5 z2 f2 k2] d = .ro 5 true true [] := by unfold WP; rw [hi]; rfl
        simp only [hk, hi] at hr
        exact hr
    · refine (Ja (by simp; omega)).trans ?_
      have hi : QL d 2 = false := by simp [QL]; omega
      have hk : WP [.ro 5 z0 f0 k0, .ro 5 z1 f1 k1, .ro 5 z2 f2 k2] d = .ro 5 true true [] := by unfold WP; rw [hi]; rfl
      simp only [hk, hi] at hr
      exact hr
  · cases hr
noncomputable def F46 : Fns := JG 102 Jiu (JG 101 Jqb (JG 80 Jm9 (F0)))
theorem JsI : Jx tau Try.prog F46 := (((JE).add Jky JrG).add JsG Jw4).add JgP Jlm
def JnW : An := (.seq .leaf (.seq .leaf (.seq .leaf (.seq .leaf .leaf))))
noncomputable def g46 (f : Nat) (k0_z : Bool) (k0_f : Bool) (k0 : List PV) (k1_z : Bool) (k1_f : Bool) (k1 : List PV) (k2_z : Bool) (k2_f : Bool) (k2 : List PV) (d_Author_D : Int) (d_Author_U : Int) (d_Id : Int) (d_Version : Int) (d_Hash : List PV) (d_Kind : Int) (d_Op_z : Bool) (d_Op_f : Bool) (d_Op : List PV) (d_Who_D : Int) (d_Who_U : Int) (k : Res → Option Res) : Option Res := bif dOk (DV.mk d_Author_D d_Author_U d_Id d_Version d_Hash d_Kind d_Op d_Who_D d_Who_U) then bif Je IntKind.u8 (QD (K3.mk [.ro 5 k0_z k0_f k0, .ro 5 k1_z k1_f k1, .ro 5 k2_z k2_f k2] d_Author_D)) && decide ((QD (K3.mk [.ro 5 k0_z k0_f k0, .ro 5 k1_z k1_f k1, .ro 5 k2_z k2_f k2] d_Author_D)).length ≤ 1000000000) && (Je IntKind.u8 (Jl [.ro 5 false false (pu IntKind.u8 (dlB (DV.mk d_Author_D d_Author_U d_Id d_Version d_Hash d_Kind d_Op d_Who_D d_Who_U)))]) && decide ((Jl [.ro 5 false false (pu IntKind.u8 (dlB (DV.mk d_Author_D d_Author_U d_Id d_Version d_Hash d_Kind d_Op d_Who_D d_Who_U)))]).length ≤ 1000000000)) && true then k (Res.mk (.st 77 [.ro 5 false false (pu IntKind.u8 (dlB (DV.mk d_Author_D d_Author_U d_Id d_Version d_Hash d_Kind d_Op d_Who_D d_Who_U))), .ar 37 (pu IntKind.u8 (Qw (Jf (QD (K3.mk [.ro 5 k0_z k0_f k0, .ro 5 k1_z k1_f k1, .ro 5 k2_z k2_f k2] d_Author_D))) (Jf (Jl [.ro 5 false false (pu IntKind.u8 (dlB (DV.mk d_Author_D d_Author_U d_Id d_Version d_Hash d_Kind d_Op d_Who_D d_Who_U)))]))))]) [] []) else none else none
theorem e46 (f : Nat) (k0_z : Bool) (k0_f : Bool) (k0 : List PV) (k1_z : Bool) (k1_f : Bool) (k1 : List PV) (k2_z : Bool) (k2_f : Bool) (k2 : List PV) (d_Author_D : Int) (d_Author_U : Int) (d_Id : Int) (d_Version : Int) (d_Hash : List PV) (d_Kind : Int) (d_Op_z : Bool) (d_Op_f : Bool) (d_Op : List PV) (d_Who_D : Int) (d_Who_U : Int) (k : Res → Option Res) : JM tau F46 Try.f46 (Try.f46.body.get!) JnW [.ro] 0 [.st 31 [.ro 5 k0_z k0_f k0, .ro 5 k1_z k1_f k1, .ro 5 k2_z k2_f k2], .st 73 [.st 45 [.sc (.int .i64 d_Author_D), .sc (.int .i64 d_Author_U)], .sc (.int .i64 d_Id), .sc (.int .i64 d_Version), .ar 37 d_Hash, .sc (.int .i64 d_Kind), .ro 99 d_Op_z d_Op_f d_Op, .st 45 [.sc (.int .i64 d_Who_D), .sc (.int .i64 d_Who_U)]]] [] k = g46 f k0_z k0_f k0 k1_z k1_f k1 k2_z k2_f k2 d_Author_D d_Author_U d_Id d_Version d_Hash d_Kind d_Op_z d_Op_f d_Op d_Who_D d_Who_U k := by kernel_rfl
theorem Jz5 (f : Nat) : Jg (Try.f46.body.get!) JnW = [] := by kernel_rfl
theorem Jz6 (f : Nat) : ∀ q ∈ Jg (Try.f46.body.get!) JnW, q.Ok tau Try.prog 0 := by
  rw [Jz5 f]; intro q hq; cases hq
theorem Jxh : Try.prog.funcs[46]? = some Try.f46 := by kernel_rfl
theorem Jxi : Try.f46.body = some (Try.f46.body.get!) := by kernel_rfl
theorem Jxj : Enters Try.prog 46 := enters_of Jxh (by kernel_rfl) Jxi
noncomputable def Jln : List PV → List Ent → (Res → Option Res) → Option Res
  | [.st 31 [.ro 5 k0_z k0_f k0, .ro 5 k1_z k1_f k1, .ro 5 k2_z k2_f k2], .st 73 [.st 45 [.sc (.int .i64 d_Author_D), .sc (.int .i64 d_Author_U)], .sc (.int .i64 d_Id), .sc (.int .i64 d_Version), .ar 37 d_Hash, .sc (.int .i64 d_Kind), .ro 99 d_Op_z d_Op_f d_Op, .st 45 [.sc (.int .i64 d_Who_D), .sc (.int .i64 d_Who_U)]]], [], k => g46 0 k0_z k0_f k0 k1_z k1_f k1 k2_z k2_f k2 d_Author_D d_Author_U d_Id d_Version d_Hash d_Kind d_Op_z d_Op_f d_Op d_Who_D d_Who_U k
  | _, _, _ => none
noncomputable def s46 : Sig := { own := [], run := Jln }
theorem Jz7 : Jh tau Try.prog 46 s46 := JY Jq JsI Jr Jxh Jxi JnW [.ro] 0 [] Jln (Jz6 0) fun xs es k res hr => by
  unfold Jln at hr
  split at hr
  · exact ⟨rfl, 0, (e46 0 _ _ _ _ _ _ _ _ _ _ _ _ _ _ _ _ _ _ _ _  _).trans hr⟩
  · cases hr
noncomputable def Jxk : Fns := F0
theorem JnX : Jx tau Try.prog Jxk := JE
def Jiv : An := (.seq .leaf (.seq (.seq .leaf (.cond (.seq .leaf .leaf) .leaf)) (.seq .leaf .leaf)))
noncomputable def Jxl (f : Nat) (s_z : Bool) (s_f : Bool) (s : List PV) (k : Res → Option Res) : Option Res :=
  bif s_z then
    k (Res.mk (PV.ro 99 true true []) [] [])
  else bif Jj (0 + s.length) 32 && true then
    k (Res.mk (PV.ro 99 false false (List.take (0 + s.length) s)) [] [])
  else none
theorem Jz8 (f : Nat) (s_z : Bool) (s_f : Bool) (s : List PV) (k : Res → Option Res) : JM tau Jxk Try.f161 (Try.f161.body.get!) Jiv [.ro] 0 [.ro 99 s_z s_f s] [] k = Jxl f s_z s_f s k := by kernel_rfl
theorem Jxm (f : Nat) : Jg (Try.f161.body.get!) Jiv = [] := by kernel_rfl
theorem Jxn (f : Nat) : ∀ q ∈ Jg (Try.f161.body.get!) Jiv, q.Ok tau Try.prog 0 := by
  rw [Jxm f]; intro q hq; cases hq
theorem Jqe : Try.prog.funcs[161]? = some Try.f161 := by kernel_rfl
theorem Jqf : Try.f161.body = some (Try.f161.body.get!) := by kernel_rfl
theorem Jxo : Enters Try.prog 161 := enters_of Jqe (by kernel_rfl) Jqf
noncomputable def JgQ : List PV → List Ent → (Res → Option Res) → Option Res
  | [.ro 99 s_z s_f s], [], k => Jxl 0 s_z s_f s k
  | _, _, _ => none
noncomputable def Jxp : Sig := { own := [], run := JgQ }
theorem Jxq : Jh tau Try.prog 161 Jxp := JY Jq JnX Jr Jqe Jqf Jiv [.ro] 0 [] JgQ (Jxn 0) fun xs es k res hr => by
  unfold JgQ at hr
  split at hr
  · exact ⟨rfl, 0, (Jz8 0 _ _ _  _).trans hr⟩
  · cases hr
def JbJ : Nat := 50
noncomputable def Jlo : Fns := JG 161 Jxp (JG 160 Jlf (JG 135 Jka (JG 134 JqU (JG 133 Jq1 (JG 132 Jq0 (JG 78 s78 (JG 76 s76 (F0))))))))
theorem Jiw : Jx tau Try.prog Jlo := ((((((((JE).add JtI JtH).add Jux Juw).add JoO JoN).add JoS JoR).add JoF JoE).add Jkb JoV).add Jlg Jp6).add Jxq Jxo
noncomputable def Gy : Code := Qs (Try.f143.body.get!) [1, 1, 1, 1, 1, 1, 0, 1, 0, 0]
def WD : Nm := [(4, .any), (5, .any), (6, .any), (7, .any), (9, .own), (25, .any), (26, .any)]
def Xa : Nm := [(4, .any), (9, .any)]
def Jbq : An := (.seq .leaf (.seq (.cond .leaf .leaf) (.seq (.block none .leaf) .leaf)))
def Jix (r0 : QZ) : An := (.seq .leaf (.seq .leaf (.seq .leaf (.seq .leaf (.seq (.seq .leaf (.cond (.seq .leaf .leaf) .leaf)) (.seq .leaf (.seq (.seq .leaf (.block none (.sum WD JbJ r0))) (.seq .leaf (.seq (.seq .leaf (.cond .leaf .leaf)) (.seq (.seq .leaf (.cond (.seq .leaf .leaf) .leaf)) (.seq .leaf .leaf)))))))))))
noncomputable def Zd (f : Nat) (rc : Nat → Int → Int → Bool → Bool → List PV → Int → Bool → List PV → Option Res) (k0 : Nat → Bool → Bool → List PV → Int → Bool → List PV → Option Res) (v0 : Nat) (v1 : Int) (v2 : Int) (v3 : Bool) (v4 : Bool) (v5 : List PV) (v6 : Int) (v7 : Bool) (v8 : List PV) : Option Res := bif decide (v2 < v1) then bif (!v3 || v4) && true && byB v5 then bif (!v3 || v4) && true && byB (Jb 1 (RS.mk v5 v6)).b then bif (!v3 || v4) && byB (Jb 8 (Jb 1 (RS.mk v5 v6))).b then bif Jj (v0 + 1) 32 && true then rc (v0 + 1) v1 (IntKind.i64.wrap (v2 + 1)) v3 v4 ((J3 (Jb 8 (Jb 1 (RS.mk v5 v6)))).b) ((J3 (Jb 8 (Jb 1 (RS.mk v5 v6)))).e) (v7 && false) (List.take v0 v8 ++ [.st 99 [.sc (.int .i64 (Jz 1 (RS.mk v5 v6))), .sc (.int .i64 (Jz 8 (Jb 1 (RS.mk v5 v6)))), .sc (.string (JP (Jb 8 (Jb 1 (RS.mk v5 v6)))))]]) else none else none else none else none else k0 v0 v3 v4 v5 v6 v7 v8
noncomputable def Wc (f : Nat) (k0 : Nat → Bool → Bool → List PV → Int → Bool → List PV → Option Res) : Nat → Nat → Int → Int → Bool → Bool → List PV → Int → Bool → List PV → Option Res
  | 0, _, _, _, _, _, _, _, _, _ => none
  | n + 1, v0, v1, v2, v3, v4, v5, v6, v7, v8 => Zd f (Wc f k0 n) k0 v0 v1 v2 v3 v4 v5 v6 v7 v8
theorem Jlp (f : Nat) (k : Kont) (n : Nat) (v0 : Nat) (v1 : Int) (v2 : Int) (v3 : Bool) (v4 : Bool) (v5 : List PV) (v6 : Int) (v7 : Bool) (v8 : List PV) : Jo tau 0 WD (fun s k => ev tau Jlo 0 0 Gy (Jbq ) s k) (n + 1) (Jc WD JbJ [.ptr 816 [], PV.fn (Fn.func 133) [.ptr 816 []] [], PV.fn (Fn.func 132) [.ptr 816 []] [], PV.fn (Fn.func 135) [.ptr 816 []] [], .ow 99 817 [] 0 v0 none, .sc (.int .i64 v1), .sc (.int .i64 v2)] [(816, .box false 186 (PV.st 186 [.ro 5 v3 v4 v5, .sc (.int .i64 v6)])), (817, .vec false 99 v7 v8)]) (Jv tau 0 Xa k) = Zd f (fun v0 v1 v2 v3 v4 v5 v6 v7 v8 => Jo tau 0 WD (fun s k => ev tau Jlo 0 0 Gy (Jbq ) s k) n (Jc WD JbJ [.ptr 816 [], PV.fn (Fn.func 133) [.ptr 816 []] [], PV.fn (Fn.func 132) [.ptr 816 []] [], PV.fn (Fn.func 135) [.ptr 816 []] [], .ow 99 817 [] 0 v0 none, .sc (.int .i64 v1), .sc (.int .i64 v2)] [(816, .box false 186 (PV.st 186 [.ro 5 v3 v4 v5, .sc (.int .i64 v6)])), (817, .vec false 99 v7 v8)]) (Jv tau 0 Xa k)) (fun x0 x1 x2 x3 x4 x5 x6 => k (Ex.exit 0) (Jc Xa JbJ [.ptr 816 [], .ow 99 817 [] 0 x0 none] [(816, .box false 186 (PV.st 186 [.ro 5 x1 x2 x3, .sc (.int .i64 x4)])), (817, .vec false 99 x5 x6)])) v0 v1 v2 v3 v4 v5 v6 v7 v8 := by kernel_rfl
theorem Jfg (f : Nat) (k : Kont) : ∀ (n : Nat) (v0 : Nat) (v1 : Int) (v2 : Int) (v3 : Bool) (v4 : Bool) (v5 : List PV) (v6 : Int) (v7 : Bool) (v8 : List PV), Jo tau 0 WD (fun s k => ev tau Jlo 0 0 Gy (Jbq ) s k) n (Jc WD JbJ [.ptr 816 [], PV.fn (Fn.func 133) [.ptr 816 []] [], PV.fn (Fn.func 132) [.ptr 816 []] [], PV.fn (Fn.func 135) [.ptr 816 []] [], .ow 99 817 [] 0 v0 none, .sc (.int .i64 v1), .sc (.int .i64 v2)] [(816, .box false 186 (PV.st 186 [.ro 5 v3 v4 v5, .sc (.int .i64 v6)])), (817, .vec false 99 v7 v8)]) (Jv tau 0 Xa k) = Wc f (fun x0 x1 x2 x3 x4 x5 x6 => k (Ex.exit 0) (Jc Xa JbJ [.ptr 816 [], .ow 99 817 [] 0 x0 none] [(816, .box false 186 (PV.st 186 [.ro 5 x1 x2 x3, .sc (.int .i64 x4)])), (817, .vec false 99 x5 x6)])) n v0 v1 v2 v3 v4 v5 v6 v7 v8 | 0, _, _, _, _, _, _, _, _, _ => rfl | n + 1, v0, v1, v2, v3, v4, v5, v6, v7, v8 => (Jlp f k n v0 v1 v2 v3 v4 v5 v6 v7 v8).trans (congrArg (fun r => Zd f r (fun x0 x1 x2 x3 x4 x5 x6 => k (Ex.exit 0) (Jc Xa JbJ [.ptr 816 [], .ow 99 817 [] 0 x0 none] [(816, .box false 186 (PV.st 186 [.ro 5 x1 x2 x3, .sc (.int .i64 x4)])), (817, .vec false 99 x5 x6)])) v0 v1 v2 v3 v4 v5 v6 v7 v8) (by funext v0 v1 v2 v3 v4 v5 v6 v7 v8; exact Jfg f k n v0 v1 v2 v3 v4 v5 v6 v7 v8))
noncomputable def Vd (f : Nat) : List PV → List (Nat × Ent) → Kont → Option Res
  | [.ptr 816 [], PV.fn (Fn.func 133) [.ptr 816 []] [], PV.fn (Fn.func 132) [.ptr 816 []] [], PV.fn (Fn.func 135) [.ptr 816 []] [], .ow 99 817 [] 0 v0 none, .sc (.int .i64 v1),
  PV.sc
    (Value.int IntKind.i64
      v2)], [(816, .box false 186 (PV.st 186 [.ro 5 v3 v4 v5, .sc (.int .i64 v6)])),
  (817,
    Ent.vec false 99 v7
      v8)], k => Wc f (fun x0 x1 x2 x3 x4 x5 x6 => k (Ex.exit
  0) (Jc Xa JbJ [.ptr 816 [],
  PV.ow 99 817 [] 0 x0 none] [(816, .box false 186 (PV.st 186 [.ro 5 x1 x2 x3, .sc (.int .i64 x4)])), (817, .vec false 99 x5 x6)])) f v0 v1 v2 v3 v4 v5 v6 v7 v8
  | _, _, _ => none
theorem JnY (f : Nat) : Jg Gy Jbq = [] := by kernel_rfl
theorem JsJ (f : Nat) : (Item.l Gy WD JbJ (Vd f)).Ok tau Try.prog 0 := JJ Jq Jiw Jr (x := Jbq) (nm2 := Xa) (Jp _ _ (by rw [JnY f]; intro q hq; cases hq)) fun vs hp k res hr => by
  unfold Vd at hr
  split at hr
  · exact ⟨f, 0, (Jfg f _ f _ _ _ _ _ _ _ _ _ ).trans hr⟩
  · cases hr
noncomputable def JsK (f : Nat) (b_z : Bool) (b_f : Bool) (b : List PV) (k : Res → Option Res) : Option Res := bif slB b_z b then bif (!b_z || b_z) && true && byB b then bif decide (Jz 1 (RS.mk b 0) > 40) then bif (Jb 1 (RS.mk b 0)).e == 0 then Wc f (fun x0_0 x1_0 x2_0 x3_0 x4_0 x5_0 x6_0 => bif x4_0 == 0 then bif decide (zi x3_0.length > 0) then k (Res.mk (.tup [.ro 99 true true [], .sc (.int .i64 9)]) [] []) else bif x4_0 == 0 then bif cOk (List.take x0_0 x6_0) then bif ckO (List.take x0_0 x6_0) != 0 then k (Res.mk (.tup [.ro 99 true true [], .sc (.int .i64 (ckO (List.take x0_0 x6_0)))]) [] []) else bif (Ent.vec false 99 x5_0 x6_0).nil then k (Res.mk (.tup [.ro 99 true true [], .sc (.int .i64 0)]) [] []) else bif Jj (0 + (List.take x0_0 x6_0).length) 32 && true then k (Res.mk (.tup [.ro 99 false false (List.take (0 + (List.take x0_0 x6_0).length) (List.take x0_0 x6_0)), .sc (.int .i64 0)]) [] []) else none else none else bif x4_0 != 0 then k (Res.mk (.tup [.ro 99 true true [], .sc (.int .i64 x4_0)]) [] []) else bif (Ent.vec false 99 x5_0 x6_0).nil then k (Res.mk (.tup [.ro 99 true true [], .sc (.int .i64 0)]) [] []) else bif Jj (0 + (List.take x0_0 x6_0).length) 32 && true then k (Res.mk (.tup [.ro 99 false false (List.take (0 + (List.take x0_0 x6_0).length) (List.take x0_0 x6_0)), .sc (.int .i64 0)]) [] []) else none else bif x4_0 == 0 then bif cOk (List.take x0_0 x6_0) then bif ckO (List.take x0_0 x6_0) != 0 then k (Res.mk (.tup [.ro 99 true true [], .sc (.int .i64 (ckO (List.take x0_0 x6_0)))]) [] []) else bif (Ent.vec false 99 x5_0 x6_0).nil then k (Res.mk (.tup [.ro 99 true true [], .sc (.int .i64 0)]) [] []) else bif Jj (0 + (List.take x0_0 x6_0).length) 32 && true then k (Res.mk (.tup [.ro 99 false false (List.take (0 + (List.take x0_0 x6_0).length) (List.take x0_0 x6_0)), .sc (.int .i64 0)]) [] []) else none else none else bif x4_0 != 0 then k (Res.mk (.tup [.ro 99 true true [], .sc (.int .i64 x4_0)]) [] []) else bif (Ent.vec false 99 x5_0 x6_0).nil then k (Res.mk (.tup [.ro 99 true true [], .sc (.int .i64 0)]) [] []) else bif Jj (0 + (List.take x0_0 x6_0).length) 32 && true then k (Res.mk (.tup [.ro 99 false false (List.take (0 + (List.take x0_0 x6_0).length) (List.take x0_0 x6_0)), .sc (.int .i64 0)]) [] []) else none) f (0) (0) (0) b_z b_z ((Jb 1 (RS.mk b 0)).b) (4) true ([]) else Wc f (fun x0_1 x1_1 x2_1 x3_1 x4_1 x5_1 x6_1 => bif x4_1 == 0 then bif decide (zi x3_1.length > 0) then k (Res.mk (.tup [.ro 99 true true [], .sc (.int .i64 9)]) [] []) else bif x4_1 == 0 then bif cOk (List.take x0_1 x6_1) then bif ckO (List.take x0_1 x6_1) != 0 then k (Res.mk (.tup [.ro 99 true true [], .sc (.int .i64 (ckO (List.take x0_1 x6_1)))]) [] []) else bif (Ent.vec false 99 x5_1 x6_1).nil then k (Res.mk (.tup [.ro 99 true true [], .sc (.int .i64 0)]) [] []) else bif Jj (0 + (List.take x0_1 x6_1).length) 32 && true then k (Res.mk (.tup [.ro 99 false false (List.take (0 + (List.take x0_1 x6_1).length) (List.take x0_1 x6_1)), .sc (.int .i64 0)]) [] []) else none else none else bif x4_1 != 0 then k (Res.mk (.tup [.ro 99 true true [], .sc (.int .i64 x4_1)]) [] []) else bif (Ent.vec false 99 x5_1 x6_1).nil then k (Res.mk (.tup [.ro 99 true true [], .sc (.int .i64 0)]) [] []) else bif Jj (0 + (List.take x0_1 x6_1).length) 32 && true then k (Res.mk (.tup [.ro 99 false false (List.take (0 + (List.take x0_1 x6_1).length) (List.take x0_1 x6_1)), .sc (.int .i64 0)]) [] []) else none else bif x4_1 == 0 then bif cOk (List.take x0_1 x6_1) then bif ckO (List.take x0_1 x6_1) != 0 then k (Res.mk (.tup [.ro 99 true true [], .sc (.int .i64 (ckO (List.take x0_1 x6_1)))]) [] []) else bif (Ent.vec false 99 x5_1 x6_1).nil then k (Res.mk (.tup [.ro 99 true true [], .sc (.int .i64 0)]) [] []) else bif Jj (0 + (List.take x0_1 x6_1).length) 32 && true then k (Res.mk (.tup [.ro 99 false false (List.take (0 + (List.take x0_1 x6_1).length) (List.take x0_1 x6_1)), .sc (.int .i64 0)]) [] []) else none else none else bif x4_1 != 0 then k (Res.mk (.tup [.ro 99 true true [], .sc (.int .i64 x4_1)]) [] []) else bif (Ent.vec false 99 x5_1 x6_1).nil then k (Res.mk (.tup [.ro 99 true true [], .sc (.int .i64 0)]) [] []) else bif Jj (0 + (List.take x0_1 x6_1).length) 32 && true then k (Res.mk (.tup [.ro 99 false false (List.take (0 + (List.take x0_1 x6_1).length) (List.take x0_1 x6_1)), .sc (.int .i64 0)]) [] []) else none) f (0) (0) (0) b_z b_z ((Jb 1 (RS.mk b 0)).b) ((Jb 1 (RS.mk b 0)).e) true ([]) else Wc f (fun x0_2 x1_2 x2_2 x3_2 x4_2 x5_2 x6_2 => bif x4_2 == 0 then bif decide (zi x3_2.length > 0) then k (Res.mk (.tup [.ro 99 true true [], .sc (.int .i64 9)]) [] []) else bif x4_2 == 0 then bif cOk (List.take x0_2 x6_2) then bif ckO (List.take x0_2 x6_2) != 0 then k (Res.mk (.tup [.ro 99 true true [], .sc (.int .i64 (ckO (List.take x0_2 x6_2)))]) [] []) else bif (Ent.vec false 99 x5_2 x6_2).nil then k (Res.mk (.tup [.ro 99 true true [], .sc (.int .i64 0)]) [] []) else bif Jj (0 + (List.take x0_2 x6_2).length) 32 && true then k (Res.mk (.tup [.ro 99 false false (List.take (0 + (List.take x0_2 x6_2).length) (List.take x0_2 x6_2)), .sc (.int .i64 0)]) [] []) else none else none else bif x4_2 != 0 then k (Res.mk (.tup [.ro 99 true true [], .sc (.int .i64 x4_2)]) [] []) else bif (Ent.vec false 99 x5_2 x6_2).nil then k (Res.mk (.tup [.ro 99 true true [], .sc (.int .i64 0)]) [] []) else bif Jj (0 + (List.take x0_2 x6_2).length) 32 && true then k (Res.mk (.tup [.ro 99 false false (List.take (0 + (List.take x0_2 x6_2).length) (List.take x0_2 x6_2)), .sc (.int .i64 0)]) [] []) else none else bif x4_2 == 0 then bif cOk (List.take x0_2 x6_2) then bif ckO (List.take x0_2 x6_2) != 0 then k (Res.mk (.tup [.ro 99 true true [], .sc (.int .i64 (ckO (List.take x0_2 x6_2)))]) [] []) else bif (Ent.vec false 99 x5_2 x6_2).nil then k (Res.mk (.tup [.ro 99 true true [], .sc (.int .i64 0)]) [] []) else bif Jj (0 + (List.take x0_2 x6_2).length) 32 && true then k (Res.mk (.tup [.ro 99 false false (List.take (0 + (List.take x0_2 x6_2).length) (List.take x0_2 x6_2)), .sc (.int .i64 0)]) [] []) else none else none else bif x4_2 != 0 then k (Res.mk (.tup [.ro 99 true true [], .sc (.int .i64 x4_2)]) [] []) else bif (Ent.vec false 99 x5_2 x6_2).nil then k (Res.mk (.tup [.ro 99 true true [], .sc (.int .i64 0)]) [] []) else bif Jj (0 + (List.take x0_2 x6_2).length) 32 && true then k (Res.mk (.tup [.ro 99 false false (List.take (0 + (List.take x0_2 x6_2).length) (List.take x0_2 x6_2)), .sc (.int .i64 0)]) [] []) else none) f (0) (Jz 1 (RS.mk b 0)) (0) b_z b_z ((Jb 1 (RS.mk b 0)).b) ((Jb 1 (RS.mk b 0)).e) true ([]) else none else none
theorem Jz9 (f : Nat) (b_z : Bool) (b_f : Bool) (b : List PV) (k : Res → Option Res) : JM tau Jlo Try.f143 (Try.f143.body.get!) (Jix (Vd f)) [.ro, .ro] 0 [.ro 5 b_z b_f b] [] k = JsK f b_z b_f b k := by kernel_rfl
theorem Jxr (f : Nat) : Jg (Try.f143.body.get!) (Jix (Vd f)) = [.l Gy WD JbJ (Vd f)] := by kernel_rfl
theorem Jxs (f : Nat) : ∀ q ∈ Jg (Try.f143.body.get!) (Jix (Vd f)), q.Ok tau Try.prog 0 := by
  rw [Jxr f]; simp only [List.forall_mem_cons, List.not_mem_nil, false_implies, implies_true, and_true]; exact JsJ f
theorem Jqg : Try.prog.funcs[143]? = some Try.f143 := by kernel_rfl
theorem Jqh : Try.f143.body = some (Try.f143.body.get!) := by kernel_rfl
theorem Jxt : Enters Try.prog 143 := enters_of Jqg (by kernel_rfl) Jqh




-- FN delta.OpParse | ref8.OpParse
noncomputable def cpN (s : RS) : RS := J3 (Jb 8 (Jb 1 s))
noncomputable def cpV (s : RS) : PV := .st 99 [.sc (.int .i64 (Jz 1 s)), .sc (.int .i64 (Jz 8 (Jb 1 s))), .sc (.string (JP (Jb 8 (Jb 1 s))))]
noncomputable def cpR : Nat → RS → RS
  | 0, s => s
  | n + 1, s => cpR n (cpN s)
noncomputable def cpL : Nat → RS → List PV
  | 0, _ => []
  | n + 1, s => cpV s :: cpL n (cpN s)
theorem Ve : ∀ (n : Nat) (s : RS), (cpL n s).length = n
  | 0, _ => rfl
  | n + 1, s => by rw [cpL, List.length_cons, Ve n]
theorem Jlq : ∀ (n : Nat) (s : RS), (cpL n s).all isCp = true
  | 0, _ => rfl
  | n + 1, s => by rw [cpL, List.all_cons, Jlq n, Bool.and_true]; exact VX.2 ⟨_, _, _, rfl⟩
theorem JnZ {s : RS} (h : byB s.b = true) : byB (cpN s).b = true := JhL (Qp (Qp h 1) 8)
noncomputable def opN (b : List PV) : Nat := bif decide (Jz 1 ⟨b, 0⟩ > 40) then 0 else (Jz 1 ⟨b, 0⟩).toNat
noncomputable def opS (b : List PV) : RS := bif decide (Jz 1 ⟨b, 0⟩ > 40) then Jcb 4 (Jb 1 ⟨b, 0⟩) else Jb 1 ⟨b, 0⟩
noncomputable def V1 (b : List PV) : Int := bif (cpR (opN b) (opS b)).e == 0 then (bif decide ((cpR (opN b) (opS b)).b.length > 0) then 9 else ckO (cpL (opN b) (opS b))) else (cpR (opN b) (opS b)).e
noncomputable def opE : List PV → Int := hid V1
noncomputable def opL : List PV → List PV := hid fun b => bif V1 b == 0 then cpL (opN b) (opS b) else []
theorem JgR (b : List PV) : opE b = V1 b := by rw [opE, hid_eq]
theorem JdL (b : List PV) : opL b = bif V1 b == 0 then cpL (opN b) (opS b) else [] := by rw [opL, hid_eq]
def Ze (e : Int) : PV := .tup [.ro 99 true true [], .sc (.int .i64 e)]
noncomputable def opP (b : List PV) : PV := .tup [.ro 99 (opL b).isEmpty (opL b).isEmpty (opL b), .sc (.int .i64 (opE b))]
theorem JdM {b : List PV} {e : Int} (h : V1 b = e) (h0 : (e == 0) = false) : opP b = Ze e := by
  simp only [opP, Ze, JdL, JgR, h, h0, cond_false, List.isEmpty_nil]
theorem JsL {b : List PV} (h : V1 b = 0) : opP b = .tup [.ro 99 (cpL (opN b) (opS b)).isEmpty (cpL (opN b) (opS b)).isEmpty (cpL (opN b) (opS b)), .sc (.int .i64 0)] := by
  simp only [opP, JdL, JgR, h, beq_self_eq_true, cond_true]
theorem Jlr {b : List PV} (h : byB b = true) : opN b ≤ 40 := by
  unfold opN
  have h0 : 0 ≤ Jz 1 ⟨b, 0⟩ := by rw [WX]; exact (XL (s := ⟨b, 0⟩) h (n := 1) (by omega)).1
  cases hc : decide (Jz 1 ⟨b, 0⟩ > 40) with
  | true => exact Nat.zero_le _
  | false => have : ¬ Jz 1 ⟨b, 0⟩ > 40 := by simpa using hc
             rw [cond_false]; omega
theorem Jn0 {b : List PV} (h : byB b = true) : byB (opS b).b = true := by
  have := Qp (s := ⟨b, 0⟩) h 1
  unfold opS Jcb
  cases decide (Jz 1 ⟨b, 0⟩ > 40) <;> exact this
theorem Jiy {n : Nat} (h : n ≤ 40) (s : RS) : cOk (cpL n s) = true := VY.2 ⟨Jlq n s, by rw [Ve]; omega⟩
theorem Jls (f : Nat) (k0 : Nat → Bool → Bool → List PV → Int → Bool → List PV → Option Res) (z fl : Bool) (hz : (!z || fl) = true) (N : Nat) (hN : N ≤ 40) : ∀ (d i n : Nat) (s : RS) (nl : Bool) (L : List PV), i + d = N → d < n → byB s.b = true → L.length = i →
    Wc f k0 n L.length (N : Int) (i : Int) z fl s.b s.e nl L = k0 (L ++ cpL d s).length z fl (cpR d s).b (cpR d s).e (nl && (cpL d s).isEmpty) (L ++ cpL d s)
  | 0, i, n + 1, s, nl, L, h, hn, hb, hL => by
      obtain rfl : i = N := by omega
      simp only [Wc, Zd, cpR, cpL, List.append_nil, List.isEmpty_nil, Bool.and_true]
      exact JA (by simp)
  | d + 1, i, n + 1, s, nl, L, h, hn, hb, hL => by
      have w : IntKind.i64.wrap ((i : Int) + 1) = ((i + 1 : Nat) : Int) := by rw [wrap_i64 (by omega) (by omega)]; omega
      have hm : RS.mk s.b s.e = s := rfl
      have hn1 : J3 (Jb 8 (Jb 1 s)) = cpN s := rfl
      have hv1 : PV.st 99 [.sc (.int .i64 (Jz 1 s)), .sc (.int .i64 (Jz 8 (Jb 1 s))), .sc (.string (JP (Jb 8 (Jb 1 s))))] = cpV s := rfl
      simp only [Wc, Zd, w, hm, hn1, hv1, List.take_length]
      refine (Ja (by simp; omega)).trans ((Ja (by rw [hb, hz]; rfl)).trans ((Ja (by rw [Qp hb 1, hz]; rfl)).trans ((Ja (by rw [Qp (Qp hb 1) 8, hz]; rfl)).trans ((Ja (by simp [Jj]; omega)).trans ?_))))
      have := Jls f k0 z fl hz N hN d (i + 1) n (cpN s) (nl && false) (L ++ [cpV s]) (by omega) (by omega) (JnZ hb) (by simp [hL])
      rw [List.length_append] at this
      refine Eq.trans this ?_
      simp only [cpR, cpL, Bool.and_false, Bool.false_and, List.isEmpty_cons, List.append_assoc, List.cons_append, List.nil_append]
theorem Jn1 (z f : Bool) (b : List PV) (hz : slB z b = true) (hb : byB b = true) (k : Res → Option Res) :
    JsK 50 z f b k = k ⟨opP b, [], []⟩ := by
  have hE : V1 b = V1 b := rfl
  conv at hE => rhs; unfold V1
  have hN := Jlr hb
  have hS := Jn0 hb
  have key : ∀ (N : Nat) (s : RS) (K : Nat → Bool → Bool → List PV → Int → Bool → List PV → Option Res), opN b = N → opS b = s →
      (∀ (e : Int) (x1 x2 : Bool), V1 b = (bif (cpR N s).e == 0 then (bif decide ((cpR N s).b.length > 0) then 9 else ckO (cpL N s)) else (cpR N s).e) → K (cpL N s).length x1 x2 (cpR N s).b (cpR N s).e (true && (cpL N s).isEmpty) ([] ++ cpL N s) = k ⟨opP b, [], []⟩) →
      Wc 50 K 50 0 (N : Int) 0 z z s.b s.e true [] = k ⟨opP b, [], []⟩ := by
    intro N s K h1 h2 h3
    subst h1; subst h2
    refine (Jls 50 K z z (by cases z <;> rfl) (opN b) hN (opN b) 0 50 (opS b) true [] (by omega) (by omega) hS rfl).trans ?_
    exact h3 0 z z hE
  have fin : ∀ (N : Nat) (s : RS), opN b = N → opS b = s → V1 b = (bif (cpR N s).e == 0 then (bif decide ((cpR N s).b.length > 0) then 9 else ckO (cpL N s)) else (cpR N s).e) →
      (bif (cpR N s).e == 0 then
        bif decide (zi (cpR N s).b.length > 0) then k ⟨Ze 9, [], []⟩
        else bif (cpR N s).e == 0 then
          bif cOk (List.take (cpL N s).length ([] ++ cpL N s)) then
            bif ckO (List.take (cpL N s).length ([] ++ cpL N s)) != 0 then k ⟨Ze (ckO (List.take (cpL N s).length ([] ++ cpL N s))), [], []⟩
            else bif (Ent.vec false 99 (true && (cpL N s).isEmpty) ([] ++ cpL N s)).nil then k ⟨Ze 0, [], []⟩
            else bif Jj (0 + (List.take (cpL N s).length ([] ++ cpL N s)).length) 32 && true then k ⟨.tup [.ro 99 false false (List.take (0 + (List.take (cpL N s).length ([] ++ cpL N s)).length) (List.take (cpL N s).length ([] ++ cpL N s))), .sc (.int .i64 0)], [], []⟩ else none
          else none
        else bif (cpR N s).e != 0 then k ⟨Ze (cpR N s).e, [], []⟩
        else bif (Ent.vec false 99 (true && (cpL N s).isEmpty) ([] ++ cpL N s)).nil then k ⟨Ze 0, [], []⟩
            else bif Jj (0 + (List.take (cpL N s).length ([] ++ cpL N s)).length) 32 && true then k ⟨.tup [.ro 99 false false (List.take (0 + (List.take (cpL N s).length ([] ++ cpL N s)).length) (List.take (cpL N s).length ([] ++ cpL N s))), .sc (.int .i64 0)], [], []⟩ else none
      else bif (cpR N s).e == 0 then
          bif cOk (List.take (cpL N s).length ([] ++ cpL N s)) then
            bif ckO (List.take (cpL N s).length ([] ++ cpL N s)) != 0 then k ⟨Ze (ckO (List.take (cpL N s).length ([] ++ cpL N s))), [], []⟩
            else bif (Ent.vec false 99 (true && (cpL N s).isEmpty) ([] ++ cpL N s)).nil then k ⟨Ze 0, [], []⟩
            else bif Jj (0 + (List.take (cpL N s).length ([] ++ cpL N s)).length) 32 && true then k ⟨.tup [.ro 99 false false (List.take (0 + (List.take (cpL N s).length ([] ++ cpL N s)).length) (List.take (cpL N s).length ([] ++ cpL N s))), .sc (.int .i64 0)], [], []⟩ else none
          else none
        else bif (cpR N s).e != 0 then k ⟨Ze (cpR N s).e, [], []⟩
        else bif (Ent.vec false 99 (true && (cpL N s).isEmpty) ([] ++ cpL N s)).nil then k ⟨Ze 0, [], []⟩
            else bif Jj (0 + (List.take (cpL N s).length ([] ++ cpL N s)).length) 32 && true then k ⟨.tup [.ro 99 false false (List.take (0 + (List.take (cpL N s).length ([] ++ cpL N s)).length) (List.take (cpL N s).length ([] ++ cpL N s))), .sc (.int .i64 0)], [], []⟩ else none) = k ⟨opP b, [], []⟩ := by
    intro N s h1 h2 h3
    have hco : cOk (cpL N s) = true := Jiy (by omega) s
    have hnl : (Ent.vec false 99 (cpL N s).isEmpty (cpL N s)).nil = (cpL N s).isEmpty := by simp [Ent.nil]
    have hlen : (cpL N s).length ≤ 40 := by rw [Ve]; omega
    have hz9 : decide (zi (cpR N s).b.length > 0) = decide ((cpR N s).b.length > 0) := by apply decide_eq_decide.2; simp only [zi]; omega
    simp only [List.nil_append, List.take_length, Bool.true_and, Nat.zero_add, hco, hnl, hz9, cond_true]
    cases he : ((cpR N s).e == 0) with
    | false =>
      rw [he, cond_false] at h3
      rw [JdM h3 he]
      simp only [cond_false]
      exact Ja (by rw [bne, he]; rfl)
    | true =>
      rw [he, cond_true] at h3
      cases h9 : decide ((cpR N s).b.length > 0) with
      | true =>
        rw [h9, cond_true] at h3
        rw [JdM h3 (by decide)]
        rfl
      | false =>
        rw [h9, cond_false] at h3
        simp only [cond_true, cond_false]
        cases hc : (ckO (cpL N s) == 0) with
        | false =>
          rw [JdM h3 hc]
          exact Ja (by rw [bne, hc]; rfl)
        | true =>
          have hc' : ckO (cpL N s) = 0 := by simpa using hc
          rw [hc'] at h3
          rw [JsL h3, h1, h2]
          refine (JA (by rw [bne, hc]; rfl)).trans ?_
          cases hl : cpL N s with
          | nil => rfl
          | cons p ps =>
            rw [hl] at hlen
            refine (JA rfl).trans ((Ja (by simp [Jj] at hlen ⊢; omega)).trans rfl)
  unfold JsK
  refine (Ja hz).trans ((Ja (by rw [hb]; cases z <;> rfl)).trans ?_)
  have h0 : 0 ≤ Jz 1 ⟨b, 0⟩ := by rw [WX]; exact (XL (s := ⟨b, 0⟩) hb (n := 1) (by omega)).1
  cases h4 : decide (Jz 1 ⟨b, 0⟩ > 40) with
  | true =>
    have hN0 : opN b = 0 := by unfold opN; rw [h4]; rfl
    have hS0 : opS b = Jcb 4 (Jb 1 ⟨b, 0⟩) := by unfold opS; rw [h4]; rfl
    rw [cond_true]
    cases he : ((Jb 1 ⟨b, 0⟩).e == 0) with
    | true =>
      rw [cond_true]
      have hs : opS b = ⟨(Jb 1 ⟨b, 0⟩).b, 4⟩ := by rw [hS0]; unfold Jcb; rw [he]; rfl
      exact key 0 ⟨(Jb 1 ⟨b, 0⟩).b, 4⟩ _ hN0 hs fun _ _ _ h => fin 0 _ hN0 hs h
    | false =>
      rw [cond_false]
      have hs : opS b = ⟨(Jb 1 ⟨b, 0⟩).b, (Jb 1 ⟨b, 0⟩).e⟩ := by rw [hS0]; unfold Jcb; rw [he]; rfl
      exact key 0 ⟨(Jb 1 ⟨b, 0⟩).b, (Jb 1 ⟨b, 0⟩).e⟩ _ hN0 hs fun _ _ _ h => fin 0 _ hN0 hs h
  | false =>
    have hN0 : opN b = (Jz 1 ⟨b, 0⟩).toNat := by unfold opN; rw [h4]; rfl
    have hS0 : opS b = Jb 1 ⟨b, 0⟩ := by unfold opS; rw [h4]; rfl
    rw [cond_false]
    have q := fun K hK => key (Jz 1 ⟨b, 0⟩).toNat (Jb 1 ⟨b, 0⟩) K hN0 hS0 hK
    rw [Int.toNat_of_nonneg h0] at q
    exact q _ fun _ _ _ h => fin _ _ hN0 hS0 h
noncomputable def JdN : List PV → List Ent → (Res → Option Res) → Option Res
  | [.ro 5 z f b], [], k => bif slB z b && byB b then k ⟨opP b, [], []⟩ else none
  | _, _, _ => none
noncomputable def Jqi : Sig := { own := [], run := JdN }
theorem JsM : Jh tau Try.prog 143 Jqi := Jh.mk' fun xs es k res hl hr => by
  change JdN xs es k = some res at hr
  unfold JdN at hr
  split at hr
  · rename_i z f b
    obtain ⟨hc, hr⟩ := JH hr
    rw [Bool.and_eq_true] at hc
    have hg := (Jn1 z f b hc.1 hc.2 k).trans hr
    exact Ql Jq Jiw Jr Jqg Jqh (Jix (Vd 50)) [.ro, .ro] 0 0 (Jxs 50) hl rfl ((Jz9 50 z f b k).trans hg)
  · cases hr
/-! The document's. -/
noncomputable def Jxu : Fns := F0
theorem Jn2 : Jx tau Try.prog Jxu := JE
def Jiz : An := (.seq .leaf (.seq .leaf .leaf))
noncomputable def Jxv (f : Nat) (n : Int) (most : Int) (k : Res → Option Res) : Option Res :=
  bif decide (n ≥ 0) then
    k (Res.mk (PV.sc (Value.bool (decide (n ≤ most)))) [] [])
  else k (Res.mk (PV.sc (Value.bool false)) [] [])
theorem JAa (f : Nat) (n : Int) (most : Int) (k : Res → Option Res) : JM tau Jxu Try.f163 (Try.f163.body.get!) Jiz [.ro] 0 [.sc (.int .i64 n), .sc (.int .i64 most)] [] k = Jxv f n most k := by kernel_rfl
theorem Jxw (f : Nat) : Jg (Try.f163.body.get!) Jiz = [] := by kernel_rfl
theorem Jxx (f : Nat) : ∀ q ∈ Jg (Try.f163.body.get!) Jiz, q.Ok tau Try.prog 0 := by
  rw [Jxw f]; intro q hq; cases hq
theorem Jqj : Try.prog.funcs[163]? = some Try.f163 := by kernel_rfl
theorem Jqk : Try.f163.body = some (Try.f163.body.get!) := by kernel_rfl
theorem Jql : Enters Try.prog 163 := enters_of Jqj (by kernel_rfl) Jqk
noncomputable def JgS : List PV → List Ent → (Res → Option Res) → Option Res
  | [.sc (.int .i64 n), .sc (.int .i64 most)], [], k => Jxv 0 n most k
  | _, _, _ => none
noncomputable def JsN : Sig := { own := [], run := JgS }
theorem Jqm : Jh tau Try.prog 163 JsN := JY Jq Jn2 Jr Jqj Jqk Jiz [.ro] 0 [] JgS (Jxx 0) fun xs es k res hr => by
  unfold JgS at hr
  split at hr
  · exact ⟨rfl, 0, (JAa 0 _ _  _).trans hr⟩
  · cases hr
noncomputable def Jxy : Fns := JG 163 JsN (F0)
theorem Jn3 : Jx tau Try.prog Jxy := (JE).add Jqm Jql
def JiA : An := (.seq .leaf (.seq .leaf .leaf))
noncomputable def Jxz (f : Nat) (a_D : Int) (a_U : Int) (k : Res → Option Res) : Option Res :=
  bif decide (a_D ≥ 0) then
    bif decide (a_D ≤ 2) then
      bif decide (a_U ≥ 0) then
        k (Res.mk (PV.sc (Value.bool (decide (a_U ≤ 7)))) [] [])
      else k (Res.mk (PV.sc (Value.bool false)) [] [])
    else k (Res.mk (PV.sc (Value.bool false)) [] [])
  else k (Res.mk (PV.sc (Value.bool false)) [] [])
theorem JAb (f : Nat) (a_D : Int) (a_U : Int) (k : Res → Option Res) : JM tau Jxy Try.f162 (Try.f162.body.get!) JiA [.ro] 0 [.st 45 [.sc (.int .i64 a_D), .sc (.int .i64 a_U)]] [] k = Jxz f a_D a_U k := by kernel_rfl
theorem JxA (f : Nat) : Jg (Try.f162.body.get!) JiA = [] := by kernel_rfl
theorem JxB (f : Nat) : ∀ q ∈ Jg (Try.f162.body.get!) JiA, q.Ok tau Try.prog 0 := by
  rw [JxA f]; intro q hq; cases hq
theorem Jqn : Try.prog.funcs[162]? = some Try.f162 := by kernel_rfl
theorem Jqo : Try.f162.body = some (Try.f162.body.get!) := by kernel_rfl
theorem JxC : Enters Try.prog 162 := enters_of Jqn (by kernel_rfl) Jqo
noncomputable def JgT : List PV → List Ent → (Res → Option Res) → Option Res
  | [.st 45 [.sc (.int .i64 a_D), .sc (.int .i64 a_U)]], [], k => Jxz 0 a_D a_U k
  | _, _, _ => none
noncomputable def JxD : Sig := { own := [], run := JgT }
theorem JxE : Jh tau Try.prog 162 JxD := JY Jq Jn3 Jr Jqn Jqo JiA [.ro] 0 [] JgT (JxB 0) fun xs es k res hr => by
  unfold JgT at hr
  split at hr
  · exact ⟨rfl, 0, (JAb 0 _ _  _).trans hr⟩
  · cases hr
noncomputable def JxF : Fns := JG 163 JsN (JG 162 JxD (JG 160 Jlf (F0)))
theorem Jn4 : Jx tau Try.prog JxF := (((JE).add Jlg Jp6).add JxE JxC).add Jqm Jql
def JiB : An := (.seq .leaf (.seq (.seq .leaf (.cond (.seq .leaf .leaf) .leaf)) (.seq (.seq .leaf (.block none (.seq .leaf (.cond (.seq (.seq .leaf (.seq .leaf (.cond (.seq .leaf .leaf) .leaf))) (.seq .leaf (.cond (.seq .leaf .leaf) .leaf))) (.seq (.seq .leaf (.cond .leaf .leaf)) (.cond (.seq .leaf (.cond (.seq .leaf .leaf) .leaf)) (.seq .leaf .leaf))))))) (.seq .leaf .leaf))))
noncomputable def Jn5 (f : Nat) (d_Author_D : Int) (d_Author_U : Int) (d_Id : Int) (d_Version : Int) (d_Hash : List PV) (d_Kind : Int) (d_Op_z : Bool) (d_Op_f : Bool) (d_Op : List PV) (d_Who_D : Int) (d_Who_U : Int) (k : Res → Option Res) : Option Res := bif decide (d_Author_D ≥ 0) then bif decide (d_Author_D ≤ 2) then bif decide (d_Author_U ≥ 0) then bif !decide (d_Author_U ≤ 7) then k (Res.mk (.sc (.int .i64 1)) [] []) else bif decide (d_Id ≥ 0) then bif !decide (d_Id ≤ 1073741824) then k (Res.mk (.sc (.int .i64 1)) [] []) else bif decide (d_Version ≥ 0) then bif !decide (d_Version ≤ 1048576) then k (Res.mk (.sc (.int .i64 1)) [] []) else bif d_Kind == 1 then bif cOk d_Op then bif ckO d_Op != 0 then k (Res.mk (.sc (.int .i64 (ckO d_Op))) [] []) else bif !(d_Who_D == 0 && (d_Who_U == 0 && true)) then k (Res.mk (.sc (.int .i64 1)) [] []) else k (Res.mk (.sc (.int .i64 0)) [] []) else none else bif d_Kind == 2 then bif d_Kind == 2 then bif decide (zi d_Op.length > 0) then k (Res.mk (.sc (.int .i64 1)) [] []) else bif decide (d_Who_D ≥ 0) then bif decide (d_Who_D ≤ 2) then bif decide (d_Who_U ≥ 0) then bif !decide (d_Who_U ≤ 7) then k (Res.mk (.sc (.int .i64 1)) [] []) else k (Res.mk (.sc (.int .i64 0)) [] []) else k (Res.mk (.sc (.int .i64 1)) [] []) else k (Res.mk (.sc (.int .i64 1)) [] []) else k (Res.mk (.sc (.int .i64 1)) [] []) else k (Res.mk (.sc (.int .i64 3)) [] []) else bif d_Kind == 3 then bif decide (zi d_Op.length > 0) then k (Res.mk (.sc (.int .i64 1)) [] []) else bif decide (d_Who_D ≥ 0) then bif decide (d_Who_D ≤ 2) then bif decide (d_Who_U ≥ 0) then bif !decide (d_Who_U ≤ 7) then k (Res.mk (.sc (.int .i64 1)) [] []) else k (Res.mk (.sc (.int .i64 0)) [] []) else k (Res.mk (.sc (.int .i64 1)) [] []) else k (Res.mk (.sc (.int .i64 1)) [] []) else k (Res.mk (.sc (.int .i64 1)) [] []) else k (Res.mk (.sc (.int .i64 3)) [] []) else k (Res.mk (.sc (.int .i64 1)) [] []) else k (Res.mk (.sc (.int .i64 1)) [] []) else k (Res.mk (.sc (.int .i64 1)) [] []) else k (Res.mk (.sc (.int .i64 1)) [] []) else k (Res.mk (.sc (.int .i64 1)) [] [])
theorem JAc (f : Nat) (d_Author_D : Int) (d_Author_U : Int) (d_Id : Int) (d_Version : Int) (d_Hash : List PV) (d_Kind : Int) (d_Op_z : Bool) (d_Op_f : Bool) (d_Op : List PV) (d_Who_D : Int) (d_Who_U : Int) (k : Res → Option Res) : JM tau JxF Try.f144 (Try.f144.body.get!) JiB [.ro] 0 [.st 73 [.st 45 [.sc (.int .i64 d_Author_D), .sc (.int .i64 d_Author_U)], .sc (.int .i64 d_Id), .sc (.int .i64 d_Version), .ar 37 d_Hash, .sc (.int .i64 d_Kind), .ro 99 d_Op_z d_Op_f d_Op, .st 45 [.sc (.int .i64 d_Who_D), .sc (.int .i64 d_Who_U)]]] [] k = Jn5 f d_Author_D d_Author_U d_Id d_Version d_Hash d_Kind d_Op_z d_Op_f d_Op d_Who_D d_Who_U k := by kernel_rfl
theorem JxG (f : Nat) : Jg (Try.f144.body.get!) JiB = [] := by kernel_rfl
theorem JxH (f : Nat) : ∀ q ∈ Jg (Try.f144.body.get!) JiB, q.Ok tau Try.prog 0 := by
  rw [JxG f]; intro q hq; cases hq
theorem Jqp : Try.prog.funcs[144]? = some Try.f144 := by kernel_rfl
theorem Jqq : Try.f144.body = some (Try.f144.body.get!) := by kernel_rfl
theorem JxI : Enters Try.prog 144 := enters_of Jqp (by kernel_rfl) Jqq
noncomputable def JgU : List PV → List Ent → (Res → Option Res) → Option Res
  | [.st 73 [.st 45 [.sc (.int .i64 d_Author_D), .sc (.int .i64 d_Author_U)], .sc (.int .i64 d_Id), .sc (.int .i64 d_Version), .ar 37 d_Hash, .sc (.int .i64 d_Kind), .ro 99 d_Op_z d_Op_f d_Op, .st 45 [.sc (.int .i64 d_Who_D), .sc (.int .i64 d_Who_U)]]], [], k => Jn5 0 d_Author_D d_Author_U d_Id d_Version d_Hash d_Kind d_Op_z d_Op_f d_Op d_Who_D d_Who_U k
  | _, _, _ => none
noncomputable def JAd : Sig := { own := [], run := JgU }
theorem JxJ : Jh tau Try.prog 144 JAd := JY Jq Jn4 Jr Jqp Jqq JiB [.ro] 0 [] JgU (JxH 0) fun xs es k res hr => by
  unfold JgU at hr
  split at hr
  · exact ⟨rfl, 0, (JAc 0 _ _ _ _ _ _ _ _ _ _ _  _).trans hr⟩
  · cases hr
end Go.Proofs.Ytcklhipdldpkhaa.Rx
