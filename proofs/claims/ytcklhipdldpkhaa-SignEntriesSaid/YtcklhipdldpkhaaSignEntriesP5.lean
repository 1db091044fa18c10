/- What the functions of this law compute, and their plain laws. Conditions: none. -/
import Derived.Test.YtcklhipdldpkhaaSignEntriesP4
namespace Go.Proofs.Ytcklhipdldpkhaa.Rx
open Go
set_option linter.unusedVariables false
set_option linter.unusedSimpArgs false
set_option maxRecDepth 100000
set_option maxHeartbeats 0
def N54 : Nat := 114
noncomputable def F54 : Fns := JH 112 JqX (F0)
theorem Jl9 : JA tau Try.prog F54 := (JJ).add Jtx JyJ
noncomputable def JcH : Code := Qy (Try.f54.body.get!) [1, 1, 1, 0, 1, 0, 0]
def Yo : Nm := [(0, .any), (1, .any), (5, .own), (6, .any), (7, .any)]
def Zq : Nm := [(0, .any), (1, .any), (5, .any), (6, .any)]
def JfC : An := (.seq (.seq .leaf (.cond .leaf .leaf)) (.seq (.block none (.seq .leaf (.seq .leaf (.block none (.seq (.seq .leaf (.cond .leaf .leaf)) (.cond (.seq .leaf .leaf) (.seq .leaf (.cond (.seq .leaf .leaf) (.seq .leaf (.cond (.seq .leaf (.seq .leaf (.cond (.seq .leaf .leaf) .leaf))) .leaf)))))))))) .leaf))
def JoL (r0 : Q6) : An := (.seq .leaf (.seq .leaf (.seq .leaf (.seq (.seq .leaf (.block none (.sum Yo N54 r0))) (.seq (.seq .leaf (.cond .leaf .leaf)) (.seq (.seq .leaf (.cond .leaf .leaf)) (.seq .leaf .leaf)))))))
noncomputable def ZJ (f : Nat) (rc : Int → Bool → Bool → List
  PV → Nat → Int → Int → Bool → List
  PV → Option Res) (k0 : Int → Bool → Bool → List
  PV → Nat → Int → Bool → List PV → Option Res) (v0 : Int) (v1 : Bool) (v2 : Bool) (v3 : List PV) (v4 : Nat) (v5 : Int) (v6 : Int) (v7 : Bool) (v8 : List PV) : Option Res :=
  bif decide (v6 < zi v3.length) then
    bif decide (v6 < 12) then
      bif decide (v0 > 0) then
        bif decide (0 ≤ v6) && decide (v6 < zi v3.length) && PV.isInt IntKind.i64 (v3.getD v6.toNat PV.top) && true then
          bif okW (J3 v0 9) then
            bif decide (0 ≤ v6) && decide (v6 < zi v3.length) && PV.isInt IntKind.i64 (v3.getD v6.toNat PV.top) && true then
              bif okW 4 then
                bif (v3.getD v6.toNat PV.top).int % 4 == 0 then
                  bif (v3.getD v6.toNat PV.top).int % 4 == 0 then
                    bif Jj (v4 + 1) 32 && true then
                      rc (IntKind.i64.wrap
                        (v0 -
                          IntKind.i64.wrap
                            (1 +
                              IntKind.i64.wrap ((v3.getD v6.toNat PV.top).int.tdiv 7) %
                                J3 v0
                                  9))) v1 v2 v3 (v4 +
                        1) v5 (IntKind.i64.wrap
                        (v6 +
                          1)) (v7 &&
                        false) (List.take v4 v8 ++
                        [PV.st 99
                            [PV.sc (Value.int IntKind.i64 1), PV.sc (Value.int IntKind.i64 (IntKind.i64.wrap (1 + IntKind.i64.wrap ((v3.getD v6.toNat PV.top).int.tdiv 7) % J3 v0 9))),
                              PV.sc (Value.string (ByteArray.mk #[]))]])
                    else none
                  else bif (v3.getD v6.toNat PV.top).int % 4 == 2 then
                    bif Jj (v4 + 1) 32 && true then
                      rc (IntKind.i64.wrap
                        (v0 -
                          IntKind.i64.wrap
                            (1 +
                              IntKind.i64.wrap ((v3.getD v6.toNat PV.top).int.tdiv 7) %
                                J3 v0
                                  9))) v1 v2 v3 (v4 +
                        1) (IntKind.i64.wrap
                        (v5 -
                          IntKind.i64.wrap
                            (1 +
                              IntKind.i64.wrap ((v3.getD v6.toNat PV.top).int.tdiv 7) %
                                J3 v0
                                  9))) (IntKind.i64.wrap
                        (v6 +
                          1)) (v7 &&
                        false) (List.take v4 v8 ++
                        [PV.st 99
                            [PV.sc (Value.int IntKind.i64 3), PV.sc (Value.int IntKind.i64 (IntKind.i64.wrap (1 + IntKind.i64.wrap ((v3.getD v6.toNat PV.top).int.tdiv 7) % J3 v0 9))),
                              PV.sc (Value.string (ByteArray.mk #[]))]])
                    else none
                  else bif (v3.getD v6.toNat PV.top).int % 4 == 3 then
                    bif decide (0 ≤ v6) && decide (v6 < zi v3.length) && PV.isInt IntKind.i64 (v3.getD v6.toNat PV.top) && true then
                      bif okW 5 then
                        bif decide (0 ≤ IntKind.i64.wrap (1 + IntKind.i64.wrap ((v3.getD v6.toNat PV.top).int.tdiv 7) % 5)) && true &&
                            decide ((IntKind.i64.wrap (1 + IntKind.i64.wrap ((v3.getD v6.toNat PV.top).int.tdiv 7) % 5)).toNat ≤ 10) &&
                          true then
                          bif decide
                            (IntKind.i64.wrap
                                (v5 +
                                  zi
                                    ((ByteArray.mk (Array.mk (u8l [97, 98, 99, 100, 101, 102, 103, 104, 105, 106]))).extract 0
                                        (IntKind.i64.wrap (1 + IntKind.i64.wrap ((v3.getD v6.toNat PV.top).int.tdiv 7) % 5)).toNat).size) ≤
                              120) then
                            bif Jj (v4 + 1) 32 && true then
                              rc v0 v1 v2 v3 (v4 +
                                1) (IntKind.i64.wrap
                                (v5 +
                                  zi
                                    ((ByteArray.mk (Array.mk (u8l [97, 98, 99, 100, 101, 102, 103, 104, 105, 106]))).extract 0
                                        (IntKind.i64.wrap
                                            (1 +
                                              IntKind.i64.wrap ((v3.getD v6.toNat PV.top).int.tdiv 7) %
                                                5)).toNat).size)) (IntKind.i64.wrap
                                (v6 +
                                  1)) (v7 &&
                                false) (List.take v4 v8 ++
                                [PV.st 99
                                    [PV.sc (Value.int IntKind.i64 2), PV.sc (Value.int IntKind.i64 0),
                                      PV.sc
                                        (Value.string
                                          ((ByteArray.mk (Array.mk (u8l [97, 98, 99, 100, 101, 102, 103, 104, 105, 106]))).extract 0
                                            (IntKind.i64.wrap (1 + IntKind.i64.wrap ((v3.getD v6.toNat PV.top).int.tdiv 7) % 5)).toNat))]])
                            else none
                          else rc v0 v1 v2 v3 v4 v5 (IntKind.i64.wrap (v6 + 1)) v7 v8
                        else none
                      else none
                    else none
                  else rc v0 v1 v2 v3 v4 v5 (IntKind.i64.wrap (v6 + 1)) v7 v8
                else bif (v3.getD v6.toNat PV.top).int % 4 == 1 then
                  bif Jj (v4 + 1) 32 && true then
                    rc (IntKind.i64.wrap
                      (v0 -
                        IntKind.i64.wrap
                          (1 +
                            IntKind.i64.wrap ((v3.getD v6.toNat PV.top).int.tdiv 7) %
                              J3 v0
                                9))) v1 v2 v3 (v4 +
                      1) v5 (IntKind.i64.wrap
                      (v6 +
                        1)) (v7 &&
                      false) (List.take v4 v8 ++
                      [PV.st 99
                          [PV.sc (Value.int IntKind.i64 1), PV.sc (Value.int IntKind.i64 (IntKind.i64.wrap (1 + IntKind.i64.wrap ((v3.getD v6.toNat PV.top).int.tdiv 7) % J3 v0 9))),
                            PV.sc (Value.string (ByteArray.mk #[]))]])
                  else none
                else bif (v3.getD v6.toNat PV.top).int % 4 == 2 then
                  bif Jj (v4 + 1) 32 && true then
                    rc (IntKind.i64.wrap
                      (v0 -
                        IntKind.i64.wrap
                          (1 +
                            IntKind.i64.wrap ((v3.getD v6.toNat PV.top).int.tdiv 7) %
                              J3 v0
                                9))) v1 v2 v3 (v4 +
                      1) (IntKind.i64.wrap
                      (v5 -
                        IntKind.i64.wrap
                          (1 +
                            IntKind.i64.wrap ((v3.getD v6.toNat PV.top).int.tdiv 7) %
                              J3 v0
                                9))) (IntKind.i64.wrap
                      (v6 +
                        1)) (v7 &&
                      false) (List.take v4 v8 ++
                      [PV.st 99
                          [PV.sc (Value.int IntKind.i64 3), PV.sc (Value.int IntKind.i64 (IntKind.i64.wrap (1 + IntKind.i64.wrap ((v3.getD v6.toNat PV.top).int.tdiv 7) % J3 v0 9))),
                            PV.sc (Value.string (ByteArray.mk #[]))]])
                  else none
                else bif (v3.getD v6.toNat PV.top).int % 4 == 3 then
                  bif decide (0 ≤ v6) && decide (v6 < zi v3.length) && PV.isInt IntKind.i64 (v3.getD v6.toNat PV.top) && true then
                    bif okW 5 then
                      bif decide (0 ≤ IntKind.i64.wrap (1 + IntKind.i64.wrap ((v3.getD v6.toNat PV.top).int.tdiv 7) % 5)) && true &&
                          decide ((IntKind.i64.wrap (1 + IntKind.i64.wrap ((v3.getD v6.toNat PV.top).int.tdiv 7) % 5)).toNat ≤ 10) &&
                        true then
                        bif decide
                          (IntKind.i64.wrap
                              (v5 +
                                zi
                                  ((ByteArray.mk (Array.mk (u8l [97, 98, 99, 100, 101, 102, 103, 104, 105, 106]))).extract 0
                                      (IntKind.i64.wrap (1 + IntKind.i64.wrap ((v3.getD v6.toNat PV.top).int.tdiv 7) % 5)).toNat).size) ≤
                            120) then
                          bif Jj (v4 + 1) 32 && true then
                            rc v0 v1 v2 v3 (v4 +
                              1) (IntKind.i64.wrap
                              (v5 +
                                zi
                                  ((ByteArray.mk (Array.mk (u8l [97, 98, 99, 100, 101, 102, 103, 104, 105, 106]))).extract 0
                                      (IntKind.i64.wrap
                                          (1 +
                                            IntKind.i64.wrap ((v3.getD v6.toNat PV.top).int.tdiv 7) %
                                              5)).toNat).size)) (IntKind.i64.wrap
                              (v6 +
                                1)) (v7 &&
                              false) (List.take v4 v8 ++
                              [PV.st 99
                                  [PV.sc (Value.int IntKind.i64 2), PV.sc (Value.int IntKind.i64 0),
                                    PV.sc
                                      (Value.string
                                        ((ByteArray.mk (Array.mk (u8l [97, 98, 99, 100, 101, 102, 103, 104, 105, 106]))).extract 0
                                          (IntKind.i64.wrap (1 + IntKind.i64.wrap ((v3.getD v6.toNat PV.top).int.tdiv 7) % 5)).toNat))]])
                          else none
                        else rc v0 v1 v2 v3 v4 v5 (IntKind.i64.wrap (v6 + 1)) v7 v8
                      else none
                    else none
                  else none
                else rc v0 v1 v2 v3 v4 v5 (IntKind.i64.wrap (v6 + 1)) v7 v8
              else none
            else none
          else none
        else none
      else k0 v0 v1 v2 v3 v4 v5 v7 v8
    else k0 v0 v1 v2 v3 v4 v5 v7 v8
  else k0 v0 v1 v2 v3 v4 v5 v7 v8
noncomputable def Xq (f : Nat) (k0 : Int → Bool → Bool → List PV → Nat → Int → Bool → List PV → Option Res) : Nat → Int → Bool → Bool → List PV → Nat → Int → Int → Bool → List PV → Option Res
  | 0, _, _, _, _, _, _, _, _, _ => none
  | n + 1, v0, v1, v2, v3, v4, v5, v6, v7, v8 => ZJ f (Xq f k0 n) k0 v0 v1 v2 v3 v4 v5 v6 v7 v8
theorem JoM (f : Nat) (k : Kont) (n : Nat) (v0 : Int) (v1 : Bool) (v2 : Bool) (v3 : List
  PV) (v4 : Nat) (v5 : Int) (v6 : Int) (v7 : Bool) (v8 : List
  PV) : Jq tau 0 Yo (fun s k => ev tau F54 0 0 JcH (JfC ) s k) (n + 1) (Je Yo N54 [PV.sc (Value.int IntKind.i64 v0), PV.ro 3 v1 v2 v3, PV.ow 99 1840 [] 0 v4 none,
  PV.sc (Value.int IntKind.i64 v5),
  PV.sc
    (Value.int IntKind.i64
      v6)] [(1840,
    Ent.vec false 99 v7
      v8)]) (Jz tau 0 Zq k) = ZJ f (fun v0 v1 v2 v3 v4 v5 v6 v7 v8 => Jq tau 0 Yo (fun s k => ev tau F54 0 0 JcH (JfC ) s k) n (Je Yo N54 [PV.sc
    (Value.int IntKind.i64 v0),
  PV.ro 3 v1 v2 v3, PV.ow 99 1840 [] 0 v4 none, PV.sc (Value.int IntKind.i64 v5),
  PV.sc
    (Value.int IntKind.i64
      v6)] [(1840,
    Ent.vec false 99 v7
      v8)]) (Jz tau 0 Zq k)) (fun x0 x1 x2 x3 x4 x5 x6 x7 => k (Ex.exit
  0) (Je Zq N54 [PV.sc (Value.int IntKind.i64 x0), PV.ro 3 x1 x2 x3, PV.ow 99 1840 [] 0 x4 none,
  PV.sc (Value.int IntKind.i64 x5)] [(1840, Ent.vec false 99 x6 x7)])) v0 v1 v2 v3 v4 v5 v6 v7 v8 := by kernel_rfl
theorem Ji4 (f : Nat) (k : Kont) : ∀ (n : Nat) (v0 : Int) (v1 : Bool) (v2 : Bool) (v3 : List
  PV) (v4 : Nat) (v5 : Int) (v6 : Int) (v7 : Bool) (v8 : List
  PV), Jq tau 0 Yo (fun s k => ev tau F54 0 0 JcH (JfC ) s k) n (Je Yo N54 [PV.sc (Value.int IntKind.i64 v0), PV.ro 3 v1 v2 v3, PV.ow 99 1840 [] 0 v4 none,
  PV.sc (Value.int IntKind.i64 v5),
  PV.sc
    (Value.int IntKind.i64
      v6)] [(1840,
    Ent.vec false 99 v7
      v8)]) (Jz tau 0 Zq k) = Xq f (fun x0 x1 x2 x3 x4 x5 x6 x7 => k (Ex.exit
  0) (Je Zq N54 [PV.sc (Value.int IntKind.i64 x0), PV.ro 3 x1 x2 x3, PV.ow 99 1840 [] 0 x4 none,
  PV.sc (Value.int IntKind.i64 x5)] [(1840, Ent.vec false 99 x6 x7)])) n v0 v1 v2 v3 v4 v5 v6 v7 v8
  | 0, _, _, _, _, _, _, _, _, _ => rfl
  | n + 1, v0, v1, v2, v3, v4, v5, v6, v7, v8 => (JoM f k n v0 v1 v2 v3 v4 v5 v6 v7 v8).trans (congrArg (fun r => ZJ f r (fun x0 x1 x2 x3 x4 x5 x6 x7 => k (Ex.exit
  0) (Je Zq N54 [PV.sc (Value.int IntKind.i64 x0), PV.ro 3 x1 x2 x3, PV.ow 99 1840 [] 0 x4 none,
  PV.sc (Value.int IntKind.i64 x5)] [(1840, Ent.vec false 99 x6 x7)])) v0 v1 v2 v3 v4 v5 v6 v7 v8) (by funext v0 v1 v2 v3 v4 v5 v6 v7 v8; exact Ji4 f k n v0 v1 v2 v3 v4 v5 v6 v7 v8))
noncomputable def JbD (f : Nat) : List PV → List (Nat × Ent) → Kont → Option Res
  | [PV.sc (Value.int IntKind.i64 v0), PV.ro 3 v1 v2 v3, PV.ow 99 1840 [] 0 v4 none, PV.sc (Value.int IntKind.i64 v5),
  PV.sc
    (Value.int IntKind.i64
      v6)], [(1840,
    Ent.vec false 99 v7
      v8)], k => Xq f (fun x0 x1 x2 x3 x4 x5 x6 x7 => k (Ex.exit
  0) (Je Zq N54 [PV.sc (Value.int IntKind.i64 x0), PV.ro 3 x1 x2 x3, PV.ow 99 1840 [] 0 x4 none,
  PV.sc (Value.int IntKind.i64 x5)] [(1840, Ent.vec false 99 x6 x7)])) f v0 v1 v2 v3 v4 v5 v6 v7 v8
  | _, _, _ => none
theorem Jty (f : Nat) : Ji JcH JfC = [] := by kernel_rfl
theorem JyL (f : Nat) : (Item.l JcH Yo N54 (JbD f)).Ok tau Try.prog 0 := JM Js Jl9 Jt (x := JfC) (nm2 := Zq) (Jr _ _ (by rw [Jty f]; intro q hq; cases hq)) fun vs hp k res hr => by
  unfold JbD at hr
  split at hr
  · exact ⟨f, 0, (Ji4 f _ f _ _ _ _ _ _ _ _ _ ).trans hr⟩
  · cases hr
noncomputable def g54 (f : Nat) (n : Int) (ns_z : Bool) (ns_f : Bool) (ns : List PV) (k : Res → Option Res) : Option Res :=
  Xq f (fun x0_0 x1_0 x2_0 x3_0 x4_0 x5_0 x6_0 x7_0 =>
    bif decide (x0_0 > 0) then
      bif Jj (x4_0 + 1) 32 && true then
        bif decide (zi x3_0.length > 0) then
          bif decide (0 < zi x3_0.length) && PV.isInt IntKind.i64 (x3_0.getD 0 PV.top) && true then
            bif okW 3 then
              bif IntKind.i64.wrap ((x3_0.getD 0 PV.top).int.tdiv 3) % 3 == 0 then
                bif decide (x5_0 ≤ 115) then
                  bif Jj (x4_0 + 1 + 1) 32 && true then
                    k (Res.mk
                      (PV.ro 99
                        (Ent.vec false 99 (x6_0 && false && false)
                            (List.take (x4_0 + 1) (List.take x4_0 x7_0 ++ [PV.st 99 [PV.sc (Value.int IntKind.i64 1), PV.sc (Value.int IntKind.i64 x0_0), PV.sc (Value.string (ByteArray.mk #[]))]]) ++
                              [PV.st 99 [PV.sc (Value.int IntKind.i64 2), PV.sc (Value.int IntKind.i64 0), PV.sc (Value.string (ByteArray.mk (Array.mk (u8l [122]))))]])).nil
                        false
                        (List.take (x4_0 + 1 + 1)
                          (List.take (x4_0 + 1) (List.take x4_0 x7_0 ++ [PV.st 99 [PV.sc (Value.int IntKind.i64 1), PV.sc (Value.int IntKind.i64 x0_0), PV.sc (Value.string (ByteArray.mk #[]))]]) ++
                            [PV.st 99 [PV.sc (Value.int IntKind.i64 2), PV.sc (Value.int IntKind.i64 0), PV.sc (Value.string (ByteArray.mk (Array.mk (u8l [122]))))]])))
                      [] [])
                  else none
                else k (Res.mk
                  (PV.ro 99
                    (Ent.vec false 99 (x6_0 && false)
                        (List.take x4_0 x7_0 ++ [PV.st 99 [PV.sc (Value.int IntKind.i64 1), PV.sc (Value.int IntKind.i64 x0_0), PV.sc (Value.string (ByteArray.mk #[]))]])).nil
                    false (List.take (x4_0 + 1) (List.take x4_0 x7_0 ++ [PV.st 99 [PV.sc (Value.int IntKind.i64 1), PV.sc (Value.int IntKind.i64 x0_0), PV.sc (Value.string (ByteArray.mk #[]))]])))
                  [] [])
              else k (Res.mk
                (PV.ro 99
                  (Ent.vec false 99 (x6_0 && false)
                      (List.take x4_0 x7_0 ++ [PV.st 99 [PV.sc (Value.int IntKind.i64 1), PV.sc (Value.int IntKind.i64 x0_0), PV.sc (Value.string (ByteArray.mk #[]))]])).nil
                  false (List.take (x4_0 + 1) (List.take x4_0 x7_0 ++ [PV.st 99 [PV.sc (Value.int IntKind.i64 1), PV.sc (Value.int IntKind.i64 x0_0), PV.sc (Value.string (ByteArray.mk #[]))]])))
                [] [])
            else none
          else none
        else k (Res.mk
          (PV.ro 99
            (Ent.vec false 99 (x6_0 && false) (List.take x4_0 x7_0 ++ [PV.st 99 [PV.sc (Value.int IntKind.i64 1), PV.sc (Value.int IntKind.i64 x0_0), PV.sc (Value.string (ByteArray.mk #[]))]])).nil
            false (List.take (x4_0 + 1) (List.take x4_0 x7_0 ++ [PV.st 99 [PV.sc (Value.int IntKind.i64 1), PV.sc (Value.int IntKind.i64 x0_0), PV.sc (Value.string (ByteArray.mk #[]))]])))
          [] [])
      else none
    else bif decide (zi x3_0.length > 0) then
      bif decide (0 < zi x3_0.length) && PV.isInt IntKind.i64 (x3_0.getD 0 PV.top) && true then
        bif okW 3 then
          bif IntKind.i64.wrap ((x3_0.getD 0 PV.top).int.tdiv 3) % 3 == 0 then
            bif decide (x5_0 ≤ 115) then
              bif Jj (x4_0 + 1) 32 && true then
                k (Res.mk
                  (PV.ro 99
                    (Ent.vec false 99 (x6_0 && false)
                        (List.take x4_0 x7_0 ++ [PV.st 99 [PV.sc (Value.int IntKind.i64 2), PV.sc (Value.int IntKind.i64 0), PV.sc (Value.string (ByteArray.mk (Array.mk (u8l [122]))))]])).nil
                    false
                    (List.take (x4_0 + 1)
                      (List.take x4_0 x7_0 ++ [PV.st 99 [PV.sc (Value.int IntKind.i64 2), PV.sc (Value.int IntKind.i64 0), PV.sc (Value.string (ByteArray.mk (Array.mk (u8l [122]))))]])))
                  [] [])
              else none
            else k (Res.mk (PV.ro 99 (Ent.vec false 99 x6_0 x7_0).nil false (List.take x4_0 x7_0)) [] [])
          else k (Res.mk (PV.ro 99 (Ent.vec false 99 x6_0 x7_0).nil false (List.take x4_0 x7_0)) [] [])
        else none
      else none
    else k (Res.mk (PV.ro 99 (Ent.vec false 99 x6_0 x7_0).nil false (List.take x4_0 x7_0)) [] [])) f n ns_z ns_f ns (0) n (0) true ([])
theorem e54 (f : Nat) (n : Int) (ns_z : Bool) (ns_f : Bool) (ns : List PV) (k : Res → Option Res) : JN tau F54 Try.f54 (Try.f54.body.get!) (JoL (JbD f)) [.ro] 0 [.sc (.int .i64 n), .ro 3 ns_z ns_f ns] [] k = g54 f n ns_z ns_f ns k := by kernel_rfl
theorem JBe (f : Nat) : Ji (Try.f54.body.get!) (JoL (JbD f)) = [.l JcH Yo N54 (JbD f)] := by kernel_rfl
theorem JBf (f : Nat) : ∀ q ∈ Ji (Try.f54.body.get!) (JoL (JbD f)), q.Ok tau Try.prog 0 := by
  rw [JBe f]; simp only [List.forall_mem_cons, List.not_mem_nil, false_implies, implies_true, and_true]; exact JyL f
theorem JyM : Try.prog.funcs[54]? = some Try.f54 := by kernel_rfl
theorem JyN : Try.f54.body = some (Try.f54.body.get!) := by kernel_rfl
theorem JBg : Enters Try.prog 54 := enters_of JyM (by kernel_rfl) JyN
-- FN
def kpP (k : Int) : PV := .st 99 [.sc (.int .i64 1), .sc (.int .i64 k), .sc (.string (ByteArray.mk #[]))]
def ctP (k : Int) : PV := .st 99 [.sc (.int .i64 3), .sc (.int .i64 k), .sc (.string (ByteArray.mk #[]))]
def ptP (s : ByteArray) : PV := .st 99 [.sc (.int .i64 2), .sc (.int .i64 0), .sc (.string s)]
def abc : ByteArray := ByteArray.mk (Array.mk [97, 98, 99, 100, 101, 102, 103, 104, 105, 106])
def zed : ByteArray := ByteArray.mk (Array.mk [122])
def JbS (k : Int) : ByteArray := abc.extract 0 k.toNat
theorem JcI {k : Int} (h : 0 ≤ k) (h2 : k ≤ 10) : ((JbS k).size : Int) = k := by
  have : (JbS k).size = min k.toNat 10 - 0 := by simp [JbS, abc, ByteArray.size_extract]; rfl
  omega
def mkK (x n : Int) : Int := 1 + IntKind.i64.wrap (x.tdiv 7) % J3 n 9
def mkS (x : Int) : Int := 1 + IntKind.i64.wrap (x.tdiv 7) % 5
theorem Ji5 {n : Int} (h : 0 < n) : 0 < J3 n 9 ∧ J3 n 9 ≤ n ∧ J3 n 9 ≤ 9 := by unfold J3; split <;> omega
def mkE (c : Bool) (n out : Int) : List PV := (bif decide (n > 0) then [kpP n] else []) ++ (bif c && decide (out ≤ 115) then [ptP zed] else [])
def XE (c : Bool) : Nat → Int → Int → List PV → List PV
  | 0, n, out, _ => mkE c n out
  | _ + 1, n, out, [] => mkE c n out
  | b + 1, n, out, p :: ps =>
      bif decide (n > 0) then
        (bif p.int % 4 == 0 || p.int % 4 == 1 then kpP (mkK p.int n) :: XE c b (n - mkK p.int n) out ps
        else bif p.int % 4 == 2 then ctP (mkK p.int n) :: XE c b (n - mkK p.int n) (out - mkK p.int n) ps
        else bif decide (out + mkS p.int ≤ 120) then ptP (JbS (mkS p.int)) :: XE c b n (out + mkS p.int) ps
        else XE c b n out ps)
      else mkE c n out
def mkC (ns : List PV) : Bool := decide (ns.length > 0) && IntKind.i64.wrap ((ns.getD 0 .top).int.tdiv 3) % 3 == 0
structure MN where
  (n : Int) (ns : List PV)
noncomputable def Ja : MN → List PV := hid fun x => XE (mkC x.ns) 12 x.n x.n x.ns
theorem JfD (x : MN) : Ja x = XE (mkC x.ns) 12 x.n x.n x.ns := by rw [Ja, hid_eq]
noncomputable def JjH : Int → List PV → Bool := hid fun n ns => decide (0 ≤ n) && (decide (n ≤ 120) && (Jd .i64 ns && decide (ns.length ≤ 9223372036854775807)))
theorem JfE {n : Int} {ns : List PV} : JjH n ns = true ↔ 0 ≤ n ∧ n ≤ 120 ∧ Jd .i64 ns = true ∧ ns.length ≤ 9223372036854775807 := by
  rw [JjH, hid_eq]; simp only [Bool.and_eq_true, decide_eq_true_eq]
def inC (c : CV) : Int := bif c.kd == 2 then 0 else c.n
def Jtz (c : CV) : Int := bif c.kd == 1 then c.n else c.s.size
def inL : List PV → Int
  | [] => 0
  | p :: ps => inC (cv p) + inL ps
def outL : List PV → Int
  | [] => 0
  | p :: ps => Jtz (cv p) + outL ps
structure MkOk (n done b : Int) (l : List PV) : Prop where
  cp : ∀ p ∈ l, isCp p = true
  ck : ∀ p ∈ l, ckC (cv p) = 0
  sz : ∀ p ∈ l, (cv p).s.size ≤ 10
  len : (l.length : Int) ≤ b
  inn : inL l = n
  out : done + outL l ≤ 120
  out0 : 0 ≤ outL l
theorem V8 {n n' done done' b : Int} {p : PV} {l : List PV} (h : MkOk n' done' b l) (h1 : isCp p = true) (h2 : ckC (cv p) = 0) (h3 : (cv p).s.size ≤ 10) (h4 : inC (cv p) + n' = n) (h5 : done + Jtz (cv p) = done') (h6 : 0 ≤ Jtz (cv p)) : MkOk n done (b + 1) (p :: l) where
  cp := fun q hq => (List.mem_cons.1 hq).elim (fun e => e ▸ h1) (fun m => h.cp q m)
  ck := fun q hq => (List.mem_cons.1 hq).elim (fun e => e ▸ h2) (fun m => h.ck q m)
  sz := fun q hq => (List.mem_cons.1 hq).elim (fun e => e ▸ h3) (fun m => h.sz q m)
  len := by have := h.len; simp only [List.length_cons]; omega
  inn := by have := h.inn; simp only [inL]; omega
  out := by have := h.out; simp only [outL]; omega
  out0 := by have := h.out0; simp only [outL]; omega
theorem ZT {n done b b' : Int} {l : List PV} (h : MkOk n done b l) (hb : b ≤ b') : MkOk n done b' l := { h with len := by have := h.len; omega }
theorem Jhm {done : Int} (h : done ≤ 120) : MkOk 0 done 0 [] where
  cp := fun q hq => by cases hq
  ck := fun q hq => by cases hq
  sz := fun q hq => by cases hq
  len := by simp
  inn := rfl
  out := by simp only [outL]; omega
  out0 := by simp [outL]
theorem JqY {k : Int} (h : 1 ≤ k) (h2 : k ≤ 120) : ckC (cv (kpP k)) = 0 := by
  have e : cv (kpP k) = ⟨1, k, ByteArray.mk #[]⟩ := rfl
  rw [e, Jbk]; unfold JgV
  have hs : (ByteArray.mk #[]).size = 0 := rfl
  simp only [hs]
  rw [show (decide (k < 1)) = false from decide_eq_false (by omega), show (decide (k > 120)) = false from decide_eq_false (by omega)]; rfl
theorem JyO {k : Int} (h : 1 ≤ k) (h2 : k ≤ 120) : ckC (cv (ctP k)) = 0 := by
  have e : cv (ctP k) = ⟨3, k, ByteArray.mk #[]⟩ := rfl
  rw [e, Jbk]; unfold JgV
  have hs : (ByteArray.mk #[]).size = 0 := rfl
  simp only [hs]
  rw [show (decide (k < 1)) = false from decide_eq_false (by omega), show (decide (k > 120)) = false from decide_eq_false (by omega)]; rfl
theorem JqZ {s : ByteArray} (h : 1 ≤ s.size) (h2 : s.size ≤ 120) : ckC (cv (ptP s)) = 0 := by
  have e : cv (ptP s) = ⟨2, 0, s⟩ := rfl
  rw [e, Jbk]; unfold JgV
  rw [show (s.size == 0) = false from beq_false_of_ne (by omega)]
  refine (Jx rfl).trans ((Jb rfl).trans ((Jx rfl).trans (Jx (decide_eq_false (by show ¬ ((s.size : Int) > 120); omega)))))
theorem Jhn (c : Bool) {n out : Int} (h : 0 ≤ n) (h2 : n ≤ out) (h3 : out ≤ 120) : MkOk n (out - n) 2 (mkE c n out) := by
  have hz : ∀ {d : Int}, d + 1 ≤ 120 → MkOk 0 d 1 [ptP zed] := fun {d} hd =>
    V8 (n' := 0) (done' := d + 1) (Jhm hd) rfl (JqZ (by decide) (by decide)) (by show zed.size ≤ 10; decide) rfl rfl (by decide)
  unfold mkE
  cases hn : decide (n > 0) with
  | true =>
    have hn := of_decide_eq_true hn
    rw [cond_true, List.singleton_append]
    have e : ∀ {b : Int} {l : List PV}, MkOk 0 out b l → MkOk n (out - n) (b + 1) (kpP n :: l) := fun hl =>
      V8 hl rfl (JqY (by omega) (by omega)) (by show (0 : Nat) ≤ 10; omega) (by show n + 0 = n; omega) (by show out - n + n = out; omega) (by show 0 ≤ n; omega)
    cases hc : (c && decide (out ≤ 115)) with
    | true => simp only [Bool.and_eq_true, decide_eq_true_eq] at hc; rw [cond_true]; exact e (hz (by omega))
    | false => rw [cond_false]; exact ZT (e (Jhm h3)) (by omega)
  | false =>
    have hn := of_decide_eq_false hn
    have : n = 0 := by omega
    subst this
    rw [cond_false, List.nil_append, Int.sub_zero]
    cases hc : (c && decide (out ≤ 115)) with
    | true => simp only [Bool.and_eq_true, decide_eq_true_eq] at hc; rw [cond_true]; exact ZT (hz (by omega)) (by omega)
    | false => rw [cond_false]; exact ZT (Jhm h3) (by omega)
theorem Jma {x n : Int} (h : 0 < n) : 1 ≤ mkK x n ∧ mkK x n ≤ n ∧ mkK x n ≤ 9 := by
  obtain ⟨m1, m2, m3⟩ := Ji5 h
  have h1 := Int.emod_nonneg (IntKind.i64.wrap (x.tdiv 7)) (show J3 n 9 ≠ 0 by omega)
  have h2 := Int.emod_lt_of_pos (IntKind.i64.wrap (x.tdiv 7)) m1
  unfold mkK; omega
theorem Jmb (x : Int) : 1 ≤ mkS x ∧ mkS x ≤ 5 := by
  have h1 := Int.emod_nonneg (IntKind.i64.wrap (x.tdiv 7)) (show (5 : Int) ≠ 0 by omega)
  have h2 := Int.emod_lt_of_pos (IntKind.i64.wrap (x.tdiv 7)) (show (0 : Int) < 5 by omega)
  unfold mkS; omega
theorem V9 (c : Bool) : ∀ (b : Nat) (n out : Int) (ns : List PV), 0 ≤ n → n ≤ out → out ≤ 120 → MkOk n (out - n) (b + 2) (XE c b n out ns)
  | 0, n, out, _, h, h2, h3 => ZT (Jhn c h h2 h3) (by omega)
  | b + 1, n, out, [], h, h2, h3 => ZT (Jhn c h h2 h3) (by omega)
  | b + 1, n, out, p :: ps, h, h2, h3 => by
      simp only [XE]
      cases hn : decide (n > 0) with
      | false => rw [cond_false]; exact ZT (Jhn c h h2 h3) (by omega)
      | true =>
        have hn := of_decide_eq_true hn
        obtain ⟨k1, k2, k3⟩ := Jma (x := p.int) hn
        obtain ⟨s1, s2⟩ := Jmb p.int
        rw [cond_true]
        cases hc : (p.int % 4 == 0 || p.int % 4 == 1) with
        | true =>
          rw [cond_true]
          refine ZT (V8 (V9 c b (n - mkK p.int n) out ps (by omega) (by omega) h3) rfl (JqY k1 (by omega)) (by show (0 : Nat) ≤ 10; omega) (by show mkK p.int n + _ = _; omega) (by show out - n + mkK p.int n = _; omega) (by show 0 ≤ mkK p.int n; omega)) (by omega)
        | false =>
          rw [cond_false]
          cases hc2 : (p.int % 4 == 2) with
          | true =>
            rw [cond_true]
            refine ZT (V8 (V9 c b (n - mkK p.int n) (out - mkK p.int n) ps (by omega) (by omega) (by omega)) rfl (JyO k1 (by omega)) (by show (0 : Nat) ≤ 10; omega) (by show mkK p.int n + _ = _; omega) (by show out - n + (0 : Int) = _; omega) (by show 0 ≤ (0 : Int); omega)) (by omega)
          | false =>
            rw [cond_false]
            cases hc3 : decide (out + mkS p.int ≤ 120) with
            | false => rw [cond_false]; exact ZT (V9 c b n out ps h h2 h3) (by omega)
            | true =>
              have hc3 := of_decide_eq_true hc3
              have hz := JcI (k := mkS p.int) (by omega) (by omega)
              rw [cond_true]
              refine ZT (V8 (V9 c b n (out + mkS p.int) ps (by omega) (by omega) hc3) rfl (JqZ (by omega) (by omega)) (by show (JbS (mkS p.int)).size ≤ 10; omega) (by show (0 : Int) + n = n; omega) (by show out - n + ((JbS (mkS p.int)).size : Int) = _; omega) (by show 0 ≤ ((JbS (mkS p.int)).size : Int); omega)) (by omega)
theorem Jmc {n : Int} (ns : List PV) (h : 0 ≤ n) (h2 : n ≤ 120) : MkOk n 0 14 (Ja ⟨n, ns⟩) := by
  rw [JfD]
  have := V9 (mkC ns) 12 n n ns h (by omega) h2
  rwa [Int.sub_self] at this
-- FN law4.Make
theorem Zr {l : List PV} (h : Jd .i64 l = true) {i : Nat} (hi : i < l.length) : (l.getD i .top).isInt .i64 = true := by
  induction l generalizing i with
  | nil => simp at hi
  | cons p ps ih =>
    have e : Jd .i64 (p :: ps) = (p.isInt .i64 && Jd .i64 ps) := rfl
    rw [e, Bool.and_eq_true] at h
    cases i with
    | zero => exact h.1
    | succ i => simpa using ih h.2 (by simpa using hi)
theorem isE (L : List PV) (x : PV) : (L ++ [x]).isEmpty = false := by cases L <;> rfl
theorem JfF (L : List PV) (x y : PV) : (L ++ [x, y]).isEmpty = false := by cases L <;> rfl
theorem Jmd (c z fl : Bool) (ns : List PV) (hns : Jd .i64 ns = true) (h2 : ns.length ≤ 9223372036854775807) (f : Nat) (k0 : Int → Bool → Bool → List PV → Nat → Int → Bool → List PV → Option Res) (R : List PV → Option Res)
    (hk : ∀ (n out : Int) (L : List PV), 0 ≤ n → n ≤ out → out ≤ 120 → L.length ≤ 12 → k0 n z fl ns L.length out L.isEmpty L = R (L ++ mkE c n out)) :
    ∀ (b i m : Nat) (n out : Int) (L : List PV), i + b = 12 → b < m → 0 ≤ n → n ≤ out → out ≤ 120 → L.length ≤ i →
      Xq f k0 m n z fl ns L.length out (i : Int) L.isEmpty L = R (L ++ XE c b n out (ns.drop i))
  | 0, i, m + 1, n, out, L, hi, hm, h3, h4, h5, hL => by
      have e : XE c 0 n out (ns.drop i) = mkE c n out := rfl
      rw [e]
      simp only [Xq, ZJ]
      by_cases hc : i < ns.length
      · refine (Jb (by simp [zi]; omega)).trans ((Jx (by simp; omega)).trans (hk n out L h3 h4 h5 (by omega)))
      · exact (Jx (by simp [zi]; omega)).trans (hk n out L h3 h4 h5 (by omega))
  | b + 1, i, m + 1, n, out, L, hi, hm, h3, h4, h5, hL => by
      by_cases hc : ¬ i < ns.length
      · rw [List.drop_of_length_le (by omega)]
        simp only [Xq, ZJ]
        exact (Jx (by simp [zi]; omega)).trans (hk n out L h3 h4 h5 (by omega))
      have hc := Decidable.not_not.1 hc
      rw [WL hc]
      have g1 : ((i : Int)).toNat = i := by omega
      have w1 : IntKind.i64.wrap ((i : Int) + 1) = ((i + 1 : Nat) : Int) := by rw [wrap_i64 (by omega) (by omega)]; omega
      have hin := Zr hns hc
      have tk : List.take L.length L = L := List.take_length
      have e1 : ∀ x : PV, L.length + 1 = (L ++ [x]).length := fun x => by simp
      have e2 : ∀ x : PV, (L.isEmpty && false) = (L ++ [x]).isEmpty := fun x => by simp
      simp only [Xq, ZJ, g1, w1, hin, tk]
      generalize ns.getD i .top = p at *
      refine (Jb (by simp [zi]; omega)).trans ((Jb (by simp; omega)).trans ?_)
      have hrd : (decide (0 ≤ (i : Int)) && decide ((i : Int) < zi ns.length) && true && true) = true := by simp [zi]; omega
      have hro : (Jj (L.length + 1) 32 && true) = true := by simp [Jj]; omega
      by_cases hn : ¬ n > 0
      · refine (Jx (by simp; omega)).trans ((hk n out L h3 h4 h5 (by omega)).trans ?_)
        have : XE c (b + 1) n out (p :: ns.drop (i + 1)) = mkE c n out := by simp only [XE]; exact Jx (by simp; omega)
        rw [this]
      have hn := Decidable.not_not.1 hn
      obtain ⟨k1, k2, k3⟩ := Jma (x := p.int) hn
      obtain ⟨m1, m2, m3⟩ := Ji5 hn
      obtain ⟨s1, s2⟩ := Jmb p.int
      have wK : IntKind.i64.wrap (1 + IntKind.i64.wrap (p.int.tdiv 7) % J3 n 9) = mkK p.int n := wrap_i64 (by show _ ≤ mkK p.int n; omega) (by show mkK p.int n < _; omega)
      have wS : IntKind.i64.wrap (1 + IntKind.i64.wrap (p.int.tdiv 7) % 5) = mkS p.int := wrap_i64 (by show _ ≤ mkS p.int; omega) (by show mkS p.int < _; omega)
      have wN : IntKind.i64.wrap (n - mkK p.int n) = n - mkK p.int n := wrap_i64 (by omega) (by omega)
      have wO : IntKind.i64.wrap (out - mkK p.int n) = out - mkK p.int n := wrap_i64 (by omega) (by omega)
      have hab : (ByteArray.mk (Array.mk (u8l [97, 98, 99, 100, 101, 102, 103, 104, 105, 106]))).extract 0 (mkS p.int).toNat = JbS (mkS p.int) := rfl
      have hsz : zi (JbS (mkS p.int)).size = mkS p.int := JcI (by omega) (by omega)
      have wP : IntKind.i64.wrap (out + mkS p.int) = out + mkS p.int := wrap_i64 (by omega) (by omega)
      simp only [wK, wS, wN, wO, hab, hsz, wP]
      refine (Jb (by simpa using hn)).trans ((Jb hrd).trans ((Jb (by rw [Z2, Bool.and_eq_true, decide_eq_true_eq, decide_eq_true_eq]; omega)).trans ((Jb hrd).trans ((Jb (by rw [Z2]; rfl)).trans ?_))))
      have hmk : XE c (b + 1) n out (p :: ns.drop (i + 1)) = (bif p.int % 4 == 0 || p.int % 4 == 1 then kpP (mkK p.int n) :: XE c b (n - mkK p.int n) out (ns.drop (i + 1))
        else bif p.int % 4 == 2 then ctP (mkK p.int n) :: XE c b (n - mkK p.int n) (out - mkK p.int n) (ns.drop (i + 1))
        else bif decide (out + mkS p.int ≤ 120) then ptP (JbS (mkS p.int)) :: XE c b n (out + mkS p.int) (ns.drop (i + 1))
        else XE c b n out (ns.drop (i + 1))) := by simp only [XE]; exact Jb (by simpa using hn)
      have A : ∀ (x : PV) (n' out' : Int), 0 ≤ n' → n' ≤ out' → out' ≤ 120 → Xq f k0 m n' z fl ns (L.length + 1) out' ((i + 1 : Nat) : Int) (L.isEmpty && false) (L ++ [x]) = R (L ++ x :: XE c b n' out' (ns.drop (i + 1))) := fun x n' out' a1 a2 a3 => by
        rw [e1 x, e2 x, Jmd c z fl ns hns h2 f k0 R hk b (i + 1) m n' out' (L ++ [x]) (by omega) (by omega) a1 a2 a3 (by simp; omega), List.append_assoc]; rfl
      have B : Xq f k0 m n z fl ns L.length out ((i + 1 : Nat) : Int) L.isEmpty L = R (L ++ XE c b n out (ns.drop (i + 1))) :=
        Jmd c z fl ns hns h2 f k0 R hk b (i + 1) m n out L (by omega) (by omega) h3 h4 h5 (by omega)
      rw [hmk]
      have q0 := Int.emod_nonneg p.int (show (4 : Int) ≠ 0 by omega)
      have q1 := Int.emod_lt_of_pos p.int (show (0 : Int) < 4 by omega)
      have : p.int % 4 = 0 ∨ p.int % 4 = 1 ∨ p.int % 4 = 2 ∨ p.int % 4 = 3 := by omega
      rcases this with hq | hq | hq | hq
      · rw [hq]
        exact (Jb rfl).trans ((Jb rfl).trans ((Jb hro).trans (A _ _ _ (by omega) (by omega) h5)))
      · rw [hq]
        exact (Jx rfl).trans ((Jb rfl).trans ((Jb hro).trans (A _ _ _ (by omega) (by omega) h5)))
      · rw [hq]
        exact (Jx rfl).trans ((Jx rfl).trans ((Jb rfl).trans ((Jb hro).trans (A _ _ _ (by omega) (by omega) (by omega)))))
      · rw [hq]
        refine (Jx rfl).trans ((Jx rfl).trans ((Jx rfl).trans ((Jb rfl).trans ((Jb hrd).trans ((Jb (by rw [Z2]; rfl)).trans ((Jb (by simp; omega)).trans ?_))))))
        by_cases hz : out + mkS p.int ≤ 120
        · refine (Jb (decide_eq_true hz)).trans ((Jb hro).trans ((A _ _ _ (by omega) (by omega) hz).trans ?_))
          rw [decide_eq_true hz]; rfl
        · refine (Jx (decide_eq_false hz)).trans (B.trans ?_)
          rw [decide_eq_false hz]; rfl
noncomputable def Jho : List PV → List Ent → (Res → Option Res) → Option Res
  | [.sc (.int .i64 n), .ro 3 z f ns], [], k => bif JjH n ns then k ⟨.ro 99 (Ja ⟨n, ns⟩).isEmpty false (Ja ⟨n, ns⟩), [], []⟩ else none
  | _, _, _ => none
noncomputable def JyP : Sig := { own := [], run := Jho }
theorem JtA (n : Int) (z f : Bool) (ns : List PV) (h : JjH n ns = true) (k : Res → Option Res) : g54 20 n z f ns k = k ⟨.ro 99 (Ja ⟨n, ns⟩).isEmpty false (Ja ⟨n, ns⟩), [], []⟩ := by
  obtain ⟨h1, h2, h3, h4⟩ := JfE.1 h
  unfold g54
  rw [JfD]
  refine (Jmd (mkC ns) z f ns h3 h4 20 _ (fun M => k ⟨.ro 99 M.isEmpty false M, [], []⟩) ?_ 12 0 20 n n [] rfl (by omega) h1 (by omega) h2 (by simp)).trans ?_
  · intro n' out L a1 a2 a3 a4
    have tk : List.take L.length L = L := List.take_length
    have tk1 : ∀ x : PV, List.take (L.length + 1) (L ++ [x]) = L ++ [x] := fun x => List.take_of_length_le (by simp)
    have tk2 : ∀ x y : PV, List.take (L.length + 1 + 1) (L ++ [x] ++ [y]) = L ++ [x] ++ [y] := fun x y => List.take_of_length_le (by simp)
    have hro : (Jj (L.length + 1) 32 && true) = true := by simp [Jj]; omega
    have hro2 : (Jj (L.length + 1 + 1) 32 && true) = true := by simp [Jj]; omega
    have em : ∀ x : PV, (L.isEmpty && false) = (L ++ [x]).isEmpty := fun x => by simp
    have hz : PV.st 99 [PV.sc (Value.int IntKind.i64 2), PV.sc (Value.int IntKind.i64 0), PV.sc (Value.string (ByteArray.mk (Array.mk (u8l [122]))))] = ptP zed := rfl
    have hk' : PV.st 99 [PV.sc (Value.int IntKind.i64 1), PV.sc (Value.int IntKind.i64 n'), PV.sc (Value.string (ByteArray.mk #[]))] = kpP n' := rfl
    have okw : okW 3 = true := by rw [Z2]; rfl
    simp only [tk, tk1, tk2, hz, hk', Ent.nil, okw, hro, hro2]
    unfold mkE mkC
    cases hn : decide (n' > 0) with
    | true =>
      refine (Jb rfl).trans ((Jb rfl).trans ?_)
      by_cases hl : ns.length > 0
      · have hl' : decide (zi ns.length > 0) = true := by simp [zi]; omega
        have hin := Zr h3 hl
        rw [hl', decide_eq_true hl]
        refine (Jb rfl).trans ((Jb (by rw [hin]; simp [zi, hl])).trans ((Jb rfl).trans ?_))
        cases hc : (IntKind.i64.wrap ((ns.getD 0 PV.top).int.tdiv 3) % 3 == 0) with
        | false => refine (Jx rfl).trans ?_; simp only [List.append_assoc, List.singleton_append, List.append_nil, Bool.and_false, Bool.and_true, Bool.false_and, Bool.true_and, cond_true, cond_false, isE, JfF, List.cons_append, List.nil_append]
        | true =>
          refine (Jb rfl).trans ?_
          cases ho : decide (out ≤ 115) with
          | false => refine (Jx rfl).trans ?_; simp only [List.append_assoc, List.singleton_append, List.append_nil, Bool.and_false, Bool.and_true, Bool.false_and, Bool.true_and, cond_true, cond_false, isE, JfF, List.cons_append, List.nil_append]
          | true => refine (Jb rfl).trans ((Jb rfl).trans ?_); simp [isE, JfF]
      · have hl' : decide (zi ns.length > 0) = false := decide_eq_false (by simp only [zi]; omega)
        rw [hl', decide_eq_false hl]
        refine (Jx rfl).trans ?_; simp only [List.append_assoc, List.singleton_append, List.append_nil, Bool.and_false, Bool.and_true, Bool.false_and, Bool.true_and, cond_true, cond_false, isE, JfF, List.cons_append, List.nil_append]
    | false =>
      refine (Jx rfl).trans ?_
      by_cases hl : ns.length > 0
      · have hl' : decide (zi ns.length > 0) = true := by simp [zi]; omega
        have hin := Zr h3 hl
        rw [hl', decide_eq_true hl]
        refine (Jb rfl).trans ((Jb (by rw [hin]; simp [zi, hl])).trans ((Jb rfl).trans ?_))
        cases hc : (IntKind.i64.wrap ((ns.getD 0 PV.top).int.tdiv 3) % 3 == 0) with
        | false => refine (Jx rfl).trans ?_; simp only [List.append_assoc, List.singleton_append, List.append_nil, Bool.and_false, Bool.and_true, Bool.false_and, Bool.true_and, cond_true, cond_false, isE, JfF, List.cons_append, List.nil_append]
        | true =>
          refine (Jb rfl).trans ?_
          cases ho : decide (out ≤ 115) with
          | false => refine (Jx rfl).trans ?_; simp only [List.append_assoc, List.singleton_append, List.append_nil, Bool.and_false, Bool.and_true, Bool.false_and, Bool.true_and, cond_true, cond_false, isE, JfF, List.cons_append, List.nil_append]
          | true => refine (Jb rfl).trans ((Jb rfl).trans ?_); simp [isE, JfF]
      · have hl' : decide (zi ns.length > 0) = false := decide_eq_false (by simp only [zi]; omega)
        rw [hl', decide_eq_false hl]
        refine (Jx rfl).trans ?_; simp only [List.append_assoc, List.singleton_append, List.append_nil, Bool.and_false, Bool.and_true, Bool.false_and, Bool.true_and, cond_true, cond_false, isE, JfF, List.cons_append, List.nil_append]
  · simp
theorem JyQ : Jk tau Try.prog 54 JyP := Jk.mk' fun xs es k res hl hr => by
  change Jho xs es k = some res at hr
  unfold Jho at hr
  split at hr
  · rename_i n z f ns
    obtain ⟨hc, hr⟩ := JL hr
    exact Qp Js Jl9 Jt JyM JyN (JoL (JbD 20)) [.ro] 0 0 (JBf 20) hl rfl ((e54 20 n z f ns k).trans ((JtA n z f ns hc k).trans hr))
  · cases hr
def Ga : Nat := 26
noncomputable def Jme : Fns := F0
theorem Ji6 : JA tau Try.prog Jme := JJ
noncomputable def GJ : Code := Qy (Try.f104.body.get!) [1, 1, 0, 1, 0, 0]
def WH : Nm := [(0, .any), (1, .any), (5, .any)]
def QM : Nm := [(4, .any)]
def JbE : An := (.seq (.seq .leaf (.cond .leaf .leaf)) (.seq (.block none (.seq .leaf (.cond (.seq .leaf .leaf) .leaf))) .leaf))
def Ji7 (r0 : Q6) : An := (.seq .leaf (.seq (.seq .leaf (.cond (.seq .leaf .leaf) .leaf)) (.seq (.seq .leaf (.block none (.sum WH Ga r0))) (.seq .leaf .leaf))))
noncomputable def Zs (f : Nat) (rc : Bool → Bool → List PV → Bool → Bool → List PV → Int → Option Res) (k0 : Bool → Option Res) (k1 : Option Res) (v0 : Bool) (v1 : Bool) (v2 : List PV) (v3 : Bool) (v4 : Bool) (v5 : List PV) (v6 : Int) : Option Res := bif decide (v6 < zi v2.length) then bif decide (0 ≤ v6) && decide (v6 < zi v2.length) && (PV.isSt 99 #[Field.mk "Kind" 3 0 false "" "" 0, Field.mk "N" 3 1 false "" "" 8, Field.mk "S" 9 2 false "" "" 16].size (v2.getD v6.toNat PV.top) && (PV.isInt IntKind.i64 (PV.child 0 (v2.getD v6.toNat PV.top)) && (PV.isInt IntKind.i64 (PV.child (0 + 1) (v2.getD v6.toNat PV.top)) && ((PV.child (0 + 1 + 1) (v2.getD v6.toNat PV.top)).isStr && true)))) && true then bif decide (0 ≤ v6) && decide (v6 < zi v5.length) && (PV.isSt 99 #[Field.mk "Kind" 3 0 false "" "" 0, Field.mk "N" 3 1 false "" "" 8, Field.mk "S" 9 2 false "" "" 16].size (v5.getD v6.toNat PV.top) && (PV.isInt IntKind.i64 (PV.child 0 (v5.getD v6.toNat PV.top)) && (PV.isInt IntKind.i64 (PV.child (0 + 1) (v5.getD v6.toNat PV.top)) && ((PV.child (0 + 1 + 1) (v5.getD v6.toNat PV.top)).isStr && true)))) && true then bif !((PV.child 0 (v2.getD v6.toNat PV.top)).int == (PV.child 0 (v5.getD v6.toNat PV.top)).int && ((PV.child (0 + 1) (v2.getD v6.toNat PV.top)).int == (PV.child (0 + 1) (v5.getD v6.toNat PV.top)).int && (QZ (PV.child (0 + 1 + 1) (v2.getD v6.toNat PV.top)).str (PV.child (0 + 1 + 1) (v5.getD v6.toNat PV.top)).str && true))) then k0 false else rc v0 v1 v2 v3 v4 v5 (IntKind.i64.wrap (v6 + 1)) else none else none else k1
noncomputable def Yp (f : Nat) (k0 : Bool → Option Res) (k1 : Option Res) : Nat → Bool → Bool → List PV → Bool → Bool → List PV → Int → Option Res
  | 0, _, _, _, _, _, _, _ => none
  | n + 1, v0, v1, v2, v3, v4, v5, v6 => Zs f (Yp f k0 k1 n) k0 k1 v0 v1 v2 v3 v4 v5 v6
theorem Jmf (f : Nat) (k : Kont) (n : Nat) (v0 : Bool) (v1 : Bool) (v2 : List PV) (v3 : Bool) (v4 : Bool) (v5 : List PV) (v6 : Int) : Jq tau 0 WH (fun s k => ev tau Jme 0 0 GJ (JbE ) s k) (n + 1) (Je WH Ga [.ro 99 v0 v1 v2, .ro 99 v3 v4 v5, .sc (.int .i64 v6)] []) (Jz tau 0 QM k) = Zs f (fun v0 v1 v2 v3 v4 v5 v6 => Jq tau 0 WH (fun s k => ev tau Jme 0 0 GJ (JbE ) s k) n (Je WH Ga [.ro 99 v0 v1 v2, .ro 99 v3 v4 v5, .sc (.int .i64 v6)] []) (Jz tau 0 QM k)) (fun x0 => k Ex.ret (Je QM Ga [.sc (.bool x0)] [])) (k (Ex.exit 0) (Je QM Ga [PV.top] [])) v0 v1 v2 v3 v4 v5 v6 := by kernel_rfl
theorem JfG (f : Nat) (k : Kont) : ∀ (n : Nat) (v0 : Bool) (v1 : Bool) (v2 : List PV) (v3 : Bool) (v4 : Bool) (v5 : List PV) (v6 : Int), Jq tau 0 WH (fun s k => ev tau Jme 0 0 GJ (JbE ) s k) n (Je WH Ga [.ro 99 v0 v1 v2, .ro 99 v3 v4 v5, .sc (.int .i64 v6)] []) (Jz tau 0 QM k) = Yp f (fun x0 => k Ex.ret (Je QM Ga [.sc (.bool x0)] [])) (k (Ex.exit 0) (Je QM Ga [PV.top] [])) n v0 v1 v2 v3 v4 v5 v6 | 0, _, _, _, _, _, _, _ => rfl | n + 1, v0, v1, v2, v3, v4, v5, v6 => (Jmf f k n v0 v1 v2 v3 v4 v5 v6).trans (congrArg (fun r => Zs f r (fun x0 => k Ex.ret (Je QM Ga [.sc (.bool x0)] [])) (k (Ex.exit 0) (Je QM Ga [PV.top] [])) v0 v1 v2 v3 v4 v5 v6) (by funext v0 v1 v2 v3 v4 v5 v6; exact JfG f k n v0 v1 v2 v3 v4 v5 v6))
noncomputable def Vp (f : Nat) : List PV → List (Nat × Ent) → Kont → Option Res
  | [.ro 99 v0 v1 v2, .ro 99 v3 v4 v5,
  .sc (.int .i64 v6)], [], k => Yp f (fun x0 => k Ex.ret (Je QM Ga [.sc (.bool x0)] [])) (k (Ex.exit 0) (Je QM Ga [PV.top] [])) f v0 v1 v2 v3 v4 v5 v6
  | _, _, _ => none
theorem JoN (f : Nat) : Ji GJ JbE = [] := by kernel_rfl
theorem JtB (f : Nat) : (Item.l GJ WH Ga (Vp f)).Ok tau Try.prog 0 := JM Js Ji6 Jt (x := JbE) (nm2 := QM) (Jr _ _ (by rw [JoN f]; intro q hq; cases hq)) fun vs hp k res hr => by
  unfold Vp at hr
  split at hr
  · exact ⟨f, 0, (JfG f _ f _ _ _ _ _ _ _ ).trans hr⟩
  · cases hr
noncomputable def JtC (f : Nat) (a_z : Bool) (a_f : Bool) (a : List PV) (b_z : Bool) (b_f : Bool) (b : List PV) (k : Res → Option Res) : Option Res := bif zi a.length != zi b.length then k (Res.mk (.sc (.bool false)) [] []) else Yp f (fun x0_0 => k (Res.mk (.sc (.bool x0_0)) [] [])) (k (Res.mk (.sc (.bool true)) [] [])) f a_z a_f a b_z b_f b (0)
theorem JBh (f : Nat) (a_z : Bool) (a_f : Bool) (a : List PV) (b_z : Bool) (b_f : Bool) (b : List PV) (k : Res → Option Res) : JN tau Jme Try.f104 (Try.f104.body.get!) (Ji7 (Vp f)) [.ro] 0 [.ro 99 a_z a_f a, .ro 99 b_z b_f b] [] k = JtC f a_z a_f a b_z b_f b k := by kernel_rfl
theorem JyR (f : Nat) : Ji (Try.f104.body.get!) (Ji7 (Vp f)) = [.l GJ WH Ga (Vp f)] := by kernel_rfl
theorem JyS (f : Nat) : ∀ q ∈ Ji (Try.f104.body.get!) (Ji7 (Vp f)), q.Ok tau Try.prog 0 := by
  rw [JyR f]; simp only [List.forall_mem_cons, List.not_mem_nil, false_implies, implies_true, and_true]; exact JtB f
theorem Jq0 : Try.prog.funcs[104]? = some Try.f104 := by kernel_rfl
theorem Jq1 : Try.f104.body = some (Try.f104.body.get!) := by kernel_rfl
theorem JyT : Enters Try.prog 104 := enters_of Jq0 (by kernel_rfl) Jq1
-- FN ref4.Same
structure O2 where
  (a b : List PV)
def Ji8 (p q : CV) : Bool := p.kd == q.kd && (p.n == q.n && (QZ p.s q.s && true))
def Xj : List PV → List PV → Bool
  | [], [] => true
  | p :: ps, q :: qs => Ji8 (cv p) (cv q) && Xj ps qs
  | _, _ => false
noncomputable def Gb : O2 → Bool := hid fun x => Xj x.a x.b
theorem JfH (x : O2) : Gb x = Xj x.a x.b := by rw [Gb, hid_eq]
theorem JbF : ∀ l : List PV, Xj l l = true
  | [] => rfl
  | p :: ps => by
      have hs : QZ (cv p).s (cv p).s = true := by rw [Jde]; exact decide_eq_true rfl
      simp only [Xj, Ji8, JbF ps, hs, beq_self_eq_true, Bool.and_self]
theorem Jhp (l : List PV) : Gb ⟨l, l⟩ = true := by rw [JfH]; exact JbF l
theorem JcJ : ∀ {a b : List PV}, Xj a b = true → a.length = b.length
  | [], [], _ => rfl
  | p :: ps, q :: qs, h => by
      simp only [Xj, Bool.and_eq_true] at h
      simp [JcJ h.2]
  | [], _ :: _, h => by simp [Xj] at h
  | _ :: _, [], h => by simp [Xj] at h
theorem Jmg (a b : List PV) (ha : a.all isCp = true) (hb : b.all isCp = true) (hl : a.length = b.length) (h2 : a.length ≤ 9223372036854775807) (f : Nat) (k0 : Bool → Option Res) (k1 : Option Res) (z fl z' fl' : Bool) : ∀ (d i n : Nat), i + d = a.length → d < n →
    Yp f k0 k1 n z fl a z' fl' b (i : Int) = bif Xj (a.drop i) (b.drop i) then k1 else k0 false
  | 0, i, n + 1, hi, hn => by
      rw [List.drop_of_length_le (l := a) (by omega), List.drop_of_length_le (l := b) (by omega)]
      simp only [Yp, Zs]
      exact Jx (by simp [zi]; omega)
  | d + 1, i, n + 1, hi, hn => by
      have g1 : ((i : Int)).toNat = i := by omega
      have w1 : IntKind.i64.wrap ((i : Int) + 1) = ((i + 1 : Nat) : Int) := by rw [wrap_i64 (by omega) (by omega)]; omega
      have hro : ∀ l : List PV, l.all isCp = true → l.length = a.length → (decide (0 ≤ (i : Int)) && decide ((i : Int) < zi l.length) && (PV.isSt 99 #[Field.mk "Kind" 3 0 false "" "" 0, Field.mk "N" 3 1 false "" "" 8, Field.mk "S" 9 2 false "" "" 16].size (l.getD i PV.top) && (PV.isInt IntKind.i64 (PV.child 0 (l.getD i PV.top)) && (PV.isInt IntKind.i64 (PV.child (0 + 1) (l.getD i PV.top)) && ((PV.child (0 + 1 + 1) (l.getD i PV.top)).isStr && true)))) && true) = true := by
        intro l h1 h3
        have hq : (PV.isSt 99 #[Field.mk "Kind" 3 0 false "" "" 0, Field.mk "N" 3 1 false "" "" 8, Field.mk "S" 9 2 false "" "" 16].size (l.getD i PV.top) && (PV.isInt IntKind.i64 (PV.child 0 (l.getD i PV.top)) && (PV.isInt IntKind.i64 (PV.child (0 + 1) (l.getD i PV.top)) && ((PV.child (0 + 1 + 1) (l.getD i PV.top)).isStr && true)))) = true := XB (XC h1 (by omega))
        rw [hq]; simp [zi]; omega
      have hs : ((PV.child 0 (a.getD i PV.top)).int == (PV.child 0 (b.getD i PV.top)).int && ((PV.child (0 + 1) (a.getD i PV.top)).int == (PV.child (0 + 1) (b.getD i PV.top)).int && (QZ (PV.child (0 + 1 + 1) (a.getD i PV.top)).str (PV.child (0 + 1 + 1) (b.getD i PV.top)).str && true))) = Ji8 (cv (a.getD i .top)) (cv (b.getD i .top)) := rfl
      simp only [Yp, Zs, g1, w1, hs]
      refine (Jb (by simp [zi]; omega)).trans ((Jb (hro a ha rfl)).trans ((Jb (hro b hb hl.symm)).trans ?_))
      rw [WL (l := a) (i := i) (by omega), WL (l := b) (i := i) (by omega), Xj]
      cases Ji8 (cv (a.getD i .top)) (cv (b.getD i .top)) with
      | false => rfl
      | true =>
        rw [Bool.true_and]
        exact (Jx rfl).trans (Jmg a b ha hb hl h2 f k0 k1 z fl z' fl' d (i + 1) n (by omega) (by omega))
noncomputable def Jd9 : List PV → List Ent → (Res → Option Res) → Option Res
  | [.ro 99 z f a, .ro 99 z' f' b], [], k => bif cOk a && cOk b then k ⟨.sc (.bool (Gb ⟨a, b⟩)), [], []⟩ else none
  | _, _, _ => none
noncomputable def Jq2 : Sig := { own := [], run := Jd9 }
theorem JoO (z f z' f' : Bool) (a b : List PV) (ha : cOk a = true) (hb : cOk b = true) (k : Res → Option Res) : JtC (a.length + 2) z f a z' f' b k = k ⟨.sc (.bool (Gb ⟨a, b⟩)), [], []⟩ := by
  obtain ⟨h1, h2⟩ := ZF.1 ha
  obtain ⟨h3, h4⟩ := ZF.1 hb
  unfold JtC
  rw [JfH]
  by_cases hl : a.length = b.length
  · refine (Jx (by simp [zi, hl])).trans ?_
    refine (Jmg a b h1 h3 hl h2 (a.length + 2) _ _ z f z' f' a.length 0 (a.length + 2) (by omega) (by omega)).trans ?_
    rw [List.drop_zero, List.drop_zero]
    cases Xj a b <;> rfl
  · have hs : Xj a b = false := by
      cases h : Xj a b with
      | false => rfl
      | true => exact absurd (JcJ h) hl
    rw [hs]
    exact Jb (by simp [zi]; omega)
theorem JtD : Jk tau Try.prog 104 Jq2 := Jk.mk' fun xs es k res hl hr => by
  change Jd9 xs es k = some res at hr
  unfold Jd9 at hr
  split at hr
  · rename_i z f a z' f' b
    obtain ⟨hc, hr⟩ := JL hr
    rw [Bool.and_eq_true] at hc
    exact Qp Js Ji6 Jt Jq0 Jq1 (Ji7 (Vp (a.length + 2))) [.ro] 0 0 (JyS (a.length + 2)) hl rfl ((JBh (a.length + 2) z f a z' f' b k).trans ((JoO z f z' f' a b hc.1 hc.2 k).trans hr))
  · cases hr

noncomputable def F56 : Fns := JH 104 Jq2 (F0)
theorem JtE : JA tau Try.prog F56 := (JJ).add JtD JyT
def JoP : An := (.seq .leaf (.seq .leaf .leaf))
noncomputable def g56 (f : Nat) (a_S_Body_z : Bool) (a_S_Body_f : Bool) (a_S_Body : List
  PV) (a_S_Mac : List
  PV) (a_At : Int) (a_Op_z : Bool) (a_Op_f : Bool) (a_Op : List
  PV) (a_Hash : List
  PV) (a_Mac : List
  PV) (b_S_Body_z : Bool) (b_S_Body_f : Bool) (b_S_Body : List
  PV) (b_S_Mac : List PV) (b_At : Int) (b_Op_z : Bool) (b_Op_f : Bool) (b_Op : List PV) (b_Hash : List PV) (b_Mac : List PV) (k : Res → Option Res) : Option Res :=
  bif Jd IntKind.u8 a_S_Body && true then
    bif Jd IntKind.u8 b_S_Body && true then
      bif QZ (ByteArray.mk (Array.mk (Jl (a_S_Body_z, a_S_Body).snd))) (ByteArray.mk (Array.mk (Jl (b_S_Body_z, b_S_Body).snd))) then
        bif decide (a_S_Mac.length = 32) && decide (b_S_Mac.length = 32) && Jd IntKind.u8 a_S_Mac && Jd IntKind.u8 b_S_Mac && true then
          bif J6 a_S_Mac b_S_Mac then
            bif a_At == b_At then
              bif cOk a_Op && cOk b_Op then
                bif Gb (O2.mk a_Op b_Op) then
                  bif decide (a_Hash.length = 32) && decide (b_Hash.length = 32) && Jd IntKind.u8 a_Hash && Jd IntKind.u8 b_Hash && true then
                    bif J6 a_Hash b_Hash then
                      bif decide (a_Mac.length = 32) && decide (b_Mac.length = 32) && Jd IntKind.u8 a_Mac && Jd IntKind.u8 b_Mac && true then
                        k (Res.mk (PV.sc (Value.bool (J6 a_Mac b_Mac))) [] [])
                      else none
                    else k (Res.mk (PV.sc (Value.bool false)) [] [])
                  else none
                else k (Res.mk (PV.sc (Value.bool false)) [] [])
              else none
            else k (Res.mk (PV.sc (Value.bool false)) [] [])
          else k (Res.mk (PV.sc (Value.bool false)) [] [])
        else none
      else k (Res.mk (PV.sc (Value.bool false)) [] [])
    else none
  else none
theorem e56 (f : Nat) (a_S_Body_z : Bool) (a_S_Body_f : Bool) (a_S_Body : List PV) (a_S_Mac : List PV) (a_At : Int) (a_Op_z : Bool) (a_Op_f : Bool) (a_Op : List PV) (a_Hash : List PV) (a_Mac : List PV) (b_S_Body_z : Bool) (b_S_Body_f : Bool) (b_S_Body : List PV) (b_S_Mac : List PV) (b_At : Int) (b_Op_z : Bool) (b_Op_f : Bool) (b_Op : List PV) (b_Hash : List PV) (b_Mac : List PV) (k : Res → Option Res) : JN tau F56 Try.f56 (Try.f56.body.get!) JoP [.ro] 0 [.st 93 [.st 77 [.ro 5 a_S_Body_z a_S_Body_f a_S_Body, .ar 37 a_S_Mac], .sc (.int .i64 a_At), .ro 99 a_Op_z a_Op_f a_Op, .ar 37 a_Hash, .ar 37 a_Mac], .st 93 [.st 77 [.ro 5 b_S_Body_z b_S_Body_f b_S_Body, .ar 37 b_S_Mac], .sc (.int .i64 b_At), .ro 99 b_Op_z b_Op_f b_Op, .ar 37 b_Hash, .ar 37 b_Mac]] [] k = g56 f a_S_Body_z a_S_Body_f a_S_Body a_S_Mac a_At a_Op_z a_Op_f a_Op a_Hash a_Mac b_S_Body_z b_S_Body_f b_S_Body b_S_Mac b_At b_Op_z b_Op_f b_Op b_Hash b_Mac k := by kernel_rfl
theorem JBi (f : Nat) : Ji (Try.f56.body.get!) JoP = [] := by kernel_rfl
theorem JBj (f : Nat) : ∀ q ∈ Ji (Try.f56.body.get!) JoP, q.Ok tau Try.prog 0 := by
  rw [JBi f]; intro q hq; cases hq
theorem JyU : Try.prog.funcs[56]? = some Try.f56 := by kernel_rfl
theorem JyV : Try.f56.body = some (Try.f56.body.get!) := by kernel_rfl
theorem JBk : Enters Try.prog 56 := enters_of JyU (by kernel_rfl) JyV
noncomputable def Jmh : List PV → List Ent → (Res → Option Res) → Option Res
  | [.st 93 [.st 77 [.ro 5 a_S_Body_z a_S_Body_f a_S_Body, .ar 37 a_S_Mac], .sc (.int .i64 a_At), .ro 99 a_Op_z a_Op_f a_Op, .ar 37 a_Hash, .ar 37 a_Mac], .st 93 [.st 77 [.ro 5 b_S_Body_z b_S_Body_f b_S_Body, .ar 37 b_S_Mac], .sc (.int .i64 b_At), .ro 99 b_Op_z b_Op_f b_Op, .ar 37 b_Hash, .ar 37 b_Mac]], [], k => g56 0 a_S_Body_z a_S_Body_f a_S_Body a_S_Mac a_At a_Op_z a_Op_f a_Op a_Hash a_Mac b_S_Body_z b_S_Body_f b_S_Body b_S_Mac b_At b_Op_z b_Op_f b_Op b_Hash b_Mac k
  | _, _, _ => none
noncomputable def s56 : Sig := { own := [], run := Jmh }
theorem JBl : Jk tau Try.prog 56 s56 := JV Js JtE Jt JyU JyV JoP [.ro] 0 [] Jmh (JBj 0) fun xs es k res hr => by
  unfold Jmh at hr
  split at hr
  · exact ⟨rfl, 0, (e56 0 _ _ _ _ _ _ _ _ _ _ _ _ _ _ _ _ _ _ _ _  _).trans hr⟩
  · cases hr



-- FN slices.EqualFunc[[][]byte,[][]byte,[]byte,[]byte] | ref16.Same
structure MS where
  (c : C13) (b : List PV)
noncomputable def Jmi (T : TypeId) : List TypeId := match tau.und T with | some (.struct fds) => fds.toList.map (·.type) | _ => []
theorem Jmj {τ : Tab} {n : Nat} : ∀ (ts : List TypeId) (ps : List PV), ts.length = ps.length → (∀ (i : Nat) (t : TypeId) (q : PV), ts[i]? = some t → ps[i]? = some q → Ty τ n t q) → TyL τ n ts ps
  | [], [], _, _ => trivial
  | t :: ts, p :: ps, hl, h => ⟨h 0 t p rfl rfl, Jmj ts ps (by simpa using hl) fun i t q h1 h2 => h (i + 1) t q (by simpa using h1) (by simpa using h2)⟩
  | [], _ :: _, hl, _ => by simp at hl
  | _ :: _, [], hl, _ => by simp at hl
theorem XF {τ : Tab} {n : Nat} {t : TypeId} {ts : List TypeId} {ps : List PV} (h : TyL τ n (t :: ts) ps) : ∃ p r, ps = p :: r ∧ Ty τ n t p ∧ TyL τ n ts r := by
  cases ps with
  | nil => exact h.elim
  | cons p r => exact ⟨p, r, rfl, h.1, h.2⟩
theorem JjI {n : Nat} {T : TypeId} {tys : List TypeId} {p : PV} (hc : Jmi T = tys) (hne : tys ≠ []) (h : Ty tau (n + 1) T p) : ∃ fs, p = .st T fs ∧ TyL tau n tys fs := by
  unfold Jmi at hc
  split at hc
  · rename_i fds hu
    obtain ⟨fs, rfl, hl, hf⟩ := Jju hu h
    refine ⟨fs, rfl, Jmj tys fs (by rw [← hc]; simpa using hl.symm) fun i t q h1 h2 => ?_⟩
    rw [← hc, List.getElem?_map] at h1
    rw [Array.getElem?_toList] at h1
    cases hfi : fds[i]? with
    | none => rw [hfi] at h1; cases h1
    | some f =>
      rw [hfi] at h1
      obtain rfl := Option.some.inj h1
      exact hf i f q hfi h2
  · exact absurd hc.symm hne
theorem Jea {n : Nat} {p : PV} (h : Ty tau (n + 1) 3 p) : ∃ x, p = .sc (.int .i64 x) ∧ i64B x = true := by
  have u : tau.und 3 = some (.int .i64) := by kernel_rfl
  obtain ⟨x, rfl, hx⟩ := Jdd u h
  refine ⟨x, rfl, ?_⟩
  have e1 : IntKind.i64.min = -9223372036854775808 := rfl
  have e2 : IntKind.i64.max = 9223372036854775807 := rfl
  simp only [Lit.wf, e1, e2, Bool.and_eq_true, decide_eq_true_eq] at hx
  simp only [i64B, Bool.and_eq_true, decide_eq_true_eq]
  omega
theorem Jmk {n : Nat} : ∀ (l : List PV), (∀ q ∈ l, Ty tau (n + 1) 5 q) → byB l = true
  | [], _ => rfl
  | p :: ps, h => by
      have u : tau.und 5 = some (.int .u8) := by kernel_rfl
      obtain ⟨x, rfl, hx⟩ := Jdd u (h p List.mem_cons_self)
      have ih := Jmk ps fun q hq => h q (List.mem_cons_of_mem _ hq)
      have e1 : IntKind.u8.min = 0 := rfl
      have e2 : IntKind.u8.max = 255 := rfl
      simp only [Lit.wf, e1, e2, Bool.and_eq_true, decide_eq_true_eq] at hx
      have e : byB (PV.sc (.int .u8 x) :: ps) = (((PV.sc (.int .u8 x)).isInt .u8 && (decide (0 ≤ (PV.sc (.int .u8 x)).int) && decide ((PV.sc (.int .u8 x)).int < 256))) && byB ps) := rfl
      rw [e, ih, Bool.and_true, Bool.and_eq_true, Bool.and_eq_true]
      exact ⟨rfl, decide_eq_true (by show 0 ≤ x; omega), decide_eq_true (by show x < 256; omega)⟩
theorem JfI {n : Nat} {p : PV} (h : Ty tau (n + 2) 29 p) : ∃ z b, p = .ro 5 z false b ∧ (z = true → b = []) ∧ b.length ≤ maxLen ∧ byB b = true := by
  have u : tau.und 29 = some (.slice 5) := by kernel_rfl
  obtain ⟨z, b, rfl, h1, h2, h3⟩ := JeM u h
  exact ⟨z, b, rfl, h1, h2, Jmk b h3⟩
theorem Ji9 {n : Nat} {p : PV} (h : Ty tau (n + 2) 37 p) : ∃ l, p = .ar 37 l ∧ l.length = 32 ∧ byB l = true := by
  have u : tau.und 37 = some (.array 32 5) := by kernel_rfl
  obtain ⟨l, rfl, h1, h2⟩ := Jkd u h
  exact ⟨l, rfl, h1, Jmk l h2⟩
theorem JjJ {n : Nat} {p : PV} (h : Ty tau (n + 3) 77 p) : ∃ z b m, p = .st 77 [.ro 5 z false b, .ar 37 m] ∧ (z = true → b = []) ∧ b.length ≤ maxLen ∧ byB b = true ∧ m.length = 32 ∧ byB m = true := by
  obtain ⟨fs, rfl, hf⟩ := JjI (n := n + 2) (T := 77) (tys := [29, 37]) (by kernel_rfl) (List.cons_ne_nil _ _) h
  obtain ⟨p, q, rfl, h1, h2⟩ := Jz1 hf
  obtain ⟨z, b, rfl, r1, r2, r3⟩ := JfI h1
  obtain ⟨m, rfl, r4, r5⟩ := Ji9 h2
  exact ⟨z, b, m, rfl, r1, r2, r3, r4, r5⟩
theorem JoQ {n : Nat} {p : PV} (h : Ty tau (n + 2) 55 p) : ∃ z l, p = .ro 3 z false l ∧ (z = true → l = []) ∧ l.length ≤ maxLen ∧ Jd .i64 l = true := by
  have u : tau.und 55 = some (.slice 3) := by kernel_rfl
  have u2 : tau.und 3 = some (.int .i64) := by kernel_rfl
  obtain ⟨z, b, rfl, h1, h2, h3⟩ := JeM u h
  exact ⟨z, b, rfl, h1, h2, JhJ u2 b h3⟩
-- FN
theorem JyW {n : Int} (h : 0 < n) (h2 : n < 1000000000000) : okW n = true := by rw [Z2, Bool.and_eq_true, decide_eq_true_eq, decide_eq_true_eq]; exact ⟨h, h2⟩
theorem h32_by {l : List PV} (h : byB l = true) (h2 : l.length = 32) : h32 l = true := h32_iff.2 ⟨(QK.1 h).1, h2⟩
theorem GK (s : ByteArray) : QZ s s = true := by rw [Jde]; exact decide_eq_true rfl
theorem Zt {l : List PV} (h : Jd .u8 l = true) : J6 l l = true := by
  rw [Qb h, WK]; exact beq_self_eq_true _
-- FN ref8.Same | ref9.Same
structure DD where
  (a b : DV)
structure EW where
  (b m : List PV) (at1 : Int) (o h mc : List PV)
structure EE where
  (a b : EW)
noncomputable def JcK : EE → Bool := hid fun x => QZ (tx x.a.b) (tx x.b.b) && (J6 x.a.m x.b.m && (x.a.at1 == x.b.at1 && (Gb ⟨x.a.o, x.b.o⟩ && (J6 x.a.h x.b.h && J6 x.a.mc x.b.mc))))
theorem JfJ (x : EE) : JcK x = (QZ (tx x.a.b) (tx x.b.b) && (J6 x.a.m x.b.m && (x.a.at1 == x.b.at1 && (Gb ⟨x.a.o, x.b.o⟩ && (J6 x.a.h x.b.h && J6 x.a.mc x.b.mc))))) := by rw [JcK, hid_eq]
noncomputable def eS : EW → Bool := hid fun d => Jd .u8 d.b && (h32 d.m && (cOk d.o && (h32 d.h && h32 d.mc)))
theorem Jeb {d : EW} : eS d = true ↔ Jd .u8 d.b = true ∧ (Jd .u8 d.m = true ∧ d.m.length = 32) ∧ cOk d.o = true ∧ (Jd .u8 d.h = true ∧ d.h.length = 32) ∧ (Jd .u8 d.mc = true ∧ d.mc.length = 32) := by rw [eS, hid_eq]; simp only [Bool.and_eq_true, h32_iff]
theorem Jhq {d : EW} (h : eS d = true) : JcK ⟨d, d⟩ = true := by
  obtain ⟨h1, ⟨h2, _⟩, h3, ⟨h4, _⟩, h5, _⟩ := Jeb.1 h
  rw [JfJ]; simp only [beq_self_eq_true, Zt h2, Zt h4, Zt h5, GK, Jhp, Bool.and_self]
noncomputable def Jhr : List PV → List Ent → (Res → Option Res) → Option Res
  | [.st 93 [.st 77 [.ro 5 bz bf b, .ar 37 m], .sc (.int .i64 at1), .ro 99 oz of o, .ar 37 h, .ar 37 mc], .st 93 [.st 77 [.ro 5 bz2 bf2 b2, .ar 37 m2], .sc (.int .i64 at2), .ro 99 oz2 of2 o2, .ar 37 h2, .ar 37 mc2]], [], k =>
    bif eS ⟨b, m, at1, o, h, mc⟩ && eS ⟨b2, m2, at2, o2, h2, mc2⟩ then k ⟨.sc (.bool (JcK ⟨⟨b, m, at1, o, h, mc⟩, ⟨b2, m2, at2, o2, h2, mc2⟩⟩)), [], []⟩ else none
  | _, _, _ => none
noncomputable def JyX : Sig := { own := [], run := Jhr }
theorem JtF (bz bf : Bool) (b m : List PV) (at1 : Int) (oz of : Bool) (o h mc : List PV) (bz2 bf2 : Bool) (b2 m2 : List PV) (at2 : Int) (oz2 of2 : Bool) (o2 h2 mc2 : List PV) (hc : (eS ⟨b, m, at1, o, h, mc⟩ && eS ⟨b2, m2, at2, o2, h2, mc2⟩) = true) (k : Res → Option Res) :
    g56 0 bz bf b m at1 oz of o h mc bz2 bf2 b2 m2 at2 oz2 of2 o2 h2 mc2 k = k ⟨.sc (.bool (JcK ⟨⟨b, m, at1, o, h, mc⟩, ⟨b2, m2, at2, o2, h2, mc2⟩⟩)), [], []⟩ := by
  rw [Bool.and_eq_true, Jeb, Jeb] at hc
  obtain ⟨⟨a1, ⟨a2, a3⟩, a4, ⟨a5, a6⟩, a7, a8⟩, b1, ⟨b2', b3⟩, b4, ⟨b5, b6⟩, b7, b8⟩ := hc
  rw [JfJ]
  unfold g56
  have t1 : ByteArray.mk (Array.mk (Jl (bz, b).2)) = tx b := rfl
  have t2 : ByteArray.mk (Array.mk (Jl (bz2, b2).2)) = tx b2 := rfl
  simp only [t1, t2]
  simp only [a1, a2, a3, a4, a5, a6, a7, a8, b1, b2', b3, b4, b5, b6, b7, b8, decide_true, Bool.and_true, Bool.and_self, cond_true]
  cases (QZ (tx b) (tx b2)) <;> cases (J6 m m2) <;> cases (at1 == at2) <;> cases (Gb ⟨o, o2⟩) <;> cases (J6 h h2) <;> rfl
theorem JyY : Jk tau Try.prog 56 JyX := JBl.of fun xs es k res hr => by
  change Jhr xs es k = some res at hr
  unfold Jhr at hr
  split at hr
  · rename_i bz bf b m at1 oz of o h mc bz2 bf2 b2 m2 at2 oz2 of2 o2 h2 mc2
    obtain ⟨hc, hr⟩ := JL hr
    exact (JtF bz bf b m at1 oz of o h mc bz2 bf2 b2 m2 at2 oz2 of2 o2 h2 mc2 hc k).trans hr
  · cases hr
noncomputable def F16 : Fns := JH 61 Jyr (JH 60 Jtn (JH 59 JlA (JH 58 JnY (JH 57 Jyp (JH 56 JyX (JH 55 Jyn (JH 54 JyP (JH 45 JyE (JH 42 JyA (JH 21 Jso (F0)))))))))))
theorem JtG : JA tau Try.prog F16 := (((((((((((JJ).add JpZ JtV).add JyB JA5).add JyF JBa).add JyQ JBg).add Jyo JAE).add JyY JBk).add Jyq JAX).add Jlz JsM).add JiA JnX).add JqU JxO).add Jys JA1
def JoR : An := (.seq .leaf (.seq (.seq .leaf (.cond (.seq .leaf .leaf) .leaf)) (.seq (.seq .leaf (.cond (.seq .leaf .leaf) .leaf)) (.seq .leaf (.seq .leaf (.seq .leaf (.seq .leaf (.seq (.seq .leaf (.cond (.seq .leaf .leaf) .leaf)) (.seq (.seq .leaf (.cond (.seq .leaf .leaf) .leaf)) (.seq (.seq .leaf (.block (some [(19, .any), (20, .any), (22, .bx (.st [.any, .any, .ro, .any, .any]))]) (.seq .leaf (.cond .leaf (.seq .leaf (.cond .leaf (.seq .leaf (.cond .leaf (.seq .leaf (.cond .leaf (.seq .leaf (.cond .leaf .leaf)))))))))))) (.seq .leaf .leaf)))))))))))
noncomputable def g16 (f : Nat) (key_z : Bool) (key_f : Bool) (key : List PV) (host : Int) (prev : List PV) (s_Body_z : Bool) (s_Body_f : Bool) (s_Body : List PV) (s_Mac : List PV) (at1 : Int) (n : Int) (ns_z : Bool) (ns_f : Bool) (ns : List PV) (which : Int) (by1 : Int) (k : Res → Option Res) : Option Res := bif decide (zi s_Body.length > 300) then k (Res.mk (.sc (.bool true)) [] []) else bif okW 3 then bif okW 100 then bif JjH (n % 100) ns then bif slB s_Body_z s_Body && eOk (EV.mk s_Body s_Mac at1 (Ja (MN.mk (n % 100) ns))) && (h32 prev && kO3 [.ro 5 false false (kb 0 key), .ro 5 false false (kb 1 key), .ro 5 false false (kb 2 key)]) then bif kIn (host % 3) && eOk (EV.mk s_Body s_Mac at1 (Ja (MN.mk (n % 100) ns))) && (h32 prev && kO3 [.ro 5 false false (kb 0 key), .ro 5 false false (kb 1 key), .ro 5 false false (kb 2 key)]) then bif eS (EW.mk s_Body s_Mac at1 (Ja (MN.mk (n % 100) ns)) (pu IntKind.u8 (nxP (NX.mk prev (EV.mk s_Body s_Mac at1 (Ja (MN.mk (n % 100) ns)))))) (pu IntKind.u8 (emP (EM.mk [.ro 5 false false (kb 0 key), .ro 5 false false (kb 1 key), .ro 5 false false (kb 2 key)] (host % 3) (EV.mk s_Body s_Mac at1 (Ja (MN.mk (n % 100) ns))) (pu IntKind.u8 (nxP (NX.mk prev (EV.mk s_Body s_Mac at1 (Ja (MN.mk (n % 100) ns)))))))))) && eS (EW.mk s_Body s_Mac at1 (Ja (MN.mk (n % 100) ns)) (pu IntKind.u8 (nxP (NX.mk prev (EV.mk s_Body s_Mac at1 (Ja (MN.mk (n % 100) ns)))))) (pu IntKind.u8 (emP (EM.mk [.ro 5 false false (kb 0 key), .ro 5 false false (kb 1 key), .ro 5 false false (kb 2 key)] (host % 3) (EV.mk s_Body s_Mac at1 (Ja (MN.mk (n % 100) ns))) (pu IntKind.u8 (nxP (NX.mk prev (EV.mk s_Body s_Mac at1 (Ja (MN.mk (n % 100) ns)))))))))) then bif !JcK (EE.mk (EW.mk s_Body s_Mac at1 (Ja (MN.mk (n % 100) ns)) (pu IntKind.u8 (nxP (NX.mk prev (EV.mk s_Body s_Mac at1 (Ja (MN.mk (n % 100) ns)))))) (pu IntKind.u8 (emP (EM.mk [.ro 5 false false (kb 0 key), .ro 5 false false (kb 1 key), .ro 5 false false (kb 2 key)] (host % 3) (EV.mk s_Body s_Mac at1 (Ja (MN.mk (n % 100) ns))) (pu IntKind.u8 (nxP (NX.mk prev (EV.mk s_Body s_Mac at1 (Ja (MN.mk (n % 100) ns)))))))))) (EW.mk s_Body s_Mac at1 (Ja (MN.mk (n % 100) ns)) (pu IntKind.u8 (nxP (NX.mk prev (EV.mk s_Body s_Mac at1 (Ja (MN.mk (n % 100) ns)))))) (pu IntKind.u8 (emP (EM.mk [.ro 5 false false (kb 0 key), .ro 5 false false (kb 1 key), .ro 5 false false (kb 2 key)] (host % 3) (EV.mk s_Body s_Mac at1 (Ja (MN.mk (n % 100) ns))) (pu IntKind.u8 (nxP (NX.mk prev (EV.mk s_Body s_Mac at1 (Ja (MN.mk (n % 100) ns))))))))))) then k (Res.mk (.sc (.bool false)) [] []) else bif eOk (EV.mk s_Body s_Mac at1 (Ja (MN.mk (n % 100) ns))) then bif Jd IntKind.u8 (pu IntKind.u8 (Jg (EV.mk s_Body s_Mac at1 (Ja (MN.mk (n % 100) ns))))) && true then bif eOk (EV.mk s_Body s_Mac at1 (Ja (MN.mk (n % 100) ns))) then bif Jd IntKind.u8 (List.take (Jg (EV.mk s_Body s_Mac at1 (Ja (MN.mk (n % 100) ns)))).length (pu IntKind.u8 (Jg (EV.mk s_Body s_Mac at1 (Ja (MN.mk (n % 100) ns)))))) && true then bif !QZ (ByteArray.mk (Array.mk (Jl (false, pu IntKind.u8 (Jg (EV.mk s_Body s_Mac at1 (Ja (MN.mk (n % 100) ns))))).snd))) (ByteArray.mk (Array.mk (Jl ((Ent.vec false 5 false (pu IntKind.u8 (Jg (EV.mk s_Body s_Mac at1 (Ja (MN.mk (n % 100) ns)))))).nil, List.take (Jg (EV.mk s_Body s_Mac at1 (Ja (MN.mk (n % 100) ns)))).length (List.drop 0 (pu IntKind.u8 (Jg (EV.mk s_Body s_Mac at1 (Ja (MN.mk (n % 100) ns))))))).snd))) then k (Res.mk (.sc (.bool false)) [] []) else bif eOk (EV.mk s_Body s_Mac at1 (Ja (MN.mk (n % 100) ns))) && (h32 (pu IntKind.u8 (nxP (NX.mk prev (EV.mk s_Body s_Mac at1 (Ja (MN.mk (n % 100) ns)))))) && (h32 (pu IntKind.u8 (emP (EM.mk [.ro 5 false false (kb 0 key), .ro 5 false false (kb 1 key), .ro 5 false false (kb 2 key)] (host % 3) (EV.mk s_Body s_Mac at1 (Ja (MN.mk (n % 100) ns))) (pu IntKind.u8 (nxP (NX.mk prev (EV.mk s_Body s_Mac at1 (Ja (MN.mk (n % 100) ns))))))))) && kO3 [.ro 5 false false (kb 0 key), .ro 5 false false (kb 1 key), .ro 5 false false (kb 2 key)])) then bif !emC (EC.mk [.ro 5 false false (kb 0 key), .ro 5 false false (kb 1 key), .ro 5 false false (kb 2 key)] (host % 3) (EV.mk s_Body s_Mac at1 (Ja (MN.mk (n % 100) ns))) (pu IntKind.u8 (nxP (NX.mk prev (EV.mk s_Body s_Mac at1 (Ja (MN.mk (n % 100) ns)))))) (pu IntKind.u8 (emP (EM.mk [.ro 5 false false (kb 0 key), .ro 5 false false (kb 1 key), .ro 5 false false (kb 2 key)] (host % 3) (EV.mk s_Body s_Mac at1 (Ja (MN.mk (n % 100) ns))) (pu IntKind.u8 (nxP (NX.mk prev (EV.mk s_Body s_Mac at1 (Ja (MN.mk (n % 100) ns)))))))))) then k (Res.mk (.sc (.bool false)) [] []) else bif eOk (EV.mk s_Body s_Mac at1 (Ja (MN.mk (n % 100) ns))) && (h32 (pu IntKind.u8 (nxP (NX.mk prev (EV.mk s_Body s_Mac at1 (Ja (MN.mk (n % 100) ns)))))) && (h32 (pu IntKind.u8 (emP (EM.mk [.ro 5 false false (kb 0 key), .ro 5 false false (kb 1 key), .ro 5 false false (kb 2 key)] (host % 3) (EV.mk s_Body s_Mac at1 (Ja (MN.mk (n % 100) ns))) (pu IntKind.u8 (nxP (NX.mk prev (EV.mk s_Body s_Mac at1 (Ja (MN.mk (n % 100) ns))))))))) && kO3 [.ro 5 false false (kb 0 key), .ro 5 false false (kb 1 key), .ro 5 false false (kb 2 key)])) then bif eOk (EV.mk s_Body s_Mac at1 (Ja (MN.mk (n % 100) ns))) && (h32 (pu IntKind.u8 (nxP (NX.mk prev (EV.mk s_Body s_Mac at1 (Ja (MN.mk (n % 100) ns)))))) && (h32 (pu IntKind.u8 (emP (EM.mk [.ro 5 false false (kb 0 key), .ro 5 false false (kb 1 key), .ro 5 false false (kb 2 key)] (host % 3) (EV.mk s_Body s_Mac at1 (Ja (MN.mk (n % 100) ns))) (pu IntKind.u8 (nxP (NX.mk prev (EV.mk s_Body s_Mac at1 (Ja (MN.mk (n % 100) ns))))))))) && kO3 [.ro 5 false false (kb 0 key), .ro 5 false false (kb 1 key), .ro 5 false false (kb 2 key)])) then bif !emC (EC.mk [.ro 5 false false (kb 0 key), .ro 5 false false (kb 1 key), .ro 5 false false (kb 2 key)] host (EV.mk s_Body s_Mac at1 (Ja (MN.mk (n % 100) ns))) (pu IntKind.u8 (nxP (NX.mk prev (EV.mk s_Body s_Mac at1 (Ja (MN.mk (n % 100) ns)))))) (pu IntKind.u8 (emP (EM.mk [.ro 5 false false (kb 0 key), .ro 5 false false (kb 1 key), .ro 5 false false (kb 2 key)] (host % 3) (EV.mk s_Body s_Mac at1 (Ja (MN.mk (n % 100) ns))) (pu IntKind.u8 (nxP (NX.mk prev (EV.mk s_Body s_Mac at1 (Ja (MN.mk (n % 100) ns)))))))))) == emC (EC.mk [.ro 5 false false (kb 0 key), .ro 5 false false (kb 1 key), .ro 5 false false (kb 2 key)] host (EV.mk s_Body s_Mac at1 (Ja (MN.mk (n % 100) ns))) (pu IntKind.u8 (nxP (NX.mk prev (EV.mk s_Body s_Mac at1 (Ja (MN.mk (n % 100) ns)))))) (pu IntKind.u8 (emP (EM.mk [.ro 5 false false (kb 0 key), .ro 5 false false (kb 1 key), .ro 5 false false (kb 2 key)] (host % 3) (EV.mk s_Body s_Mac at1 (Ja (MN.mk (n % 100) ns))) (pu IntKind.u8 (nxP (NX.mk prev (EV.mk s_Body s_Mac at1 (Ja (MN.mk (n % 100) ns)))))))))) then k (Res.mk (.sc (.bool false)) [] []) else bif eOk (EV.mk s_Body s_Mac at1 (Ja (MN.mk (n % 100) ns))) && (h32 (pu IntKind.u8 (nxP (NX.mk prev (EV.mk s_Body s_Mac at1 (Ja (MN.mk (n % 100) ns)))))) && (h32 (pu IntKind.u8 (emP (EM.mk [.ro 5 false false (kb 0 key), .ro 5 false false (kb 1 key), .ro 5 false false (kb 2 key)] (host % 3) (EV.mk s_Body s_Mac at1 (Ja (MN.mk (n % 100) ns))) (pu IntKind.u8 (nxP (NX.mk prev (EV.mk s_Body s_Mac at1 (Ja (MN.mk (n % 100) ns))))))))) && kO3 [.ro 5 false false (kb 0 key), .ro 5 false false (kb 1 key), .ro 5 false false (kb 2 key)])) then bif eOk (EV.mk s_Body s_Mac at1 (Ja (MN.mk (n % 100) ns))) && (h32 (pu IntKind.u8 (nxP (NX.mk prev (EV.mk s_Body s_Mac at1 (Ja (MN.mk (n % 100) ns)))))) && (h32 (pu IntKind.u8 (emP (EM.mk [.ro 5 false false (kb 0 key), .ro 5 false false (kb 1 key), .ro 5 false false (kb 2 key)] (host % 3) (EV.mk s_Body s_Mac at1 (Ja (MN.mk (n % 100) ns))) (pu IntKind.u8 (nxP (NX.mk prev (EV.mk s_Body s_Mac at1 (Ja (MN.mk (n % 100) ns))))))))) && kO3 [.ro 5 false false (kb 0 key), .ro 5 false false (kb 1 key), .ro 5 false false (kb 2 key)])) then bif !emC (EC.mk [.ro 5 false false (kb 0 key), .ro 5 false false (kb 1 key), .ro 5 false false (kb 2 key)] ((IntKind.i64.wrap (host % 3 + 1)).tmod 3) (EV.mk s_Body s_Mac at1 (Ja (MN.mk (n % 100) ns))) (pu IntKind.u8 (nxP (NX.mk prev (EV.mk s_Body s_Mac at1 (Ja (MN.mk (n % 100) ns)))))) (pu IntKind.u8 (emP (EM.mk [.ro 5 false false (kb 0 key), .ro 5 false false (kb 1 key), .ro 5 false false (kb 2 key)] (host % 3) (EV.mk s_Body s_Mac at1 (Ja (MN.mk (n % 100) ns))) (pu IntKind.u8 (nxP (NX.mk prev (EV.mk s_Body s_Mac at1 (Ja (MN.mk (n % 100) ns)))))))))) == emC (EC.mk [.ro 5 false false (kb 0 key), .ro 5 false false (kb 1 key), .ro 5 false false (kb 2 key)] ((IntKind.i64.wrap (host % 3 + 1)).tmod 3) (EV.mk s_Body s_Mac at1 (Ja (MN.mk (n % 100) ns))) (pu IntKind.u8 (nxP (NX.mk prev (EV.mk s_Body s_Mac at1 (Ja (MN.mk (n % 100) ns)))))) (pu IntKind.u8 (emP (EM.mk [.ro 5 false false (kb 0 key), .ro 5 false false (kb 1 key), .ro 5 false false (kb 2 key)] (host % 3) (EV.mk s_Body s_Mac at1 (Ja (MN.mk (n % 100) ns))) (pu IntKind.u8 (nxP (NX.mk prev (EV.mk s_Body s_Mac at1 (Ja (MN.mk (n % 100) ns)))))))))) then k (Res.mk (.sc (.bool false)) [] []) else bif okW 5 then bif which % 5 == 0 then bif eOk (EV.mk s_Body s_Mac (IntKind.i64.wrap (at1 + 1)) (Ja (MN.mk (n % 100) ns))) && (h32 (pu IntKind.u8 (nxP (NX.mk prev (EV.mk s_Body s_Mac at1 (Ja (MN.mk (n % 100) ns)))))) && (h32 (pu IntKind.u8 (emP (EM.mk [.ro 5 false false (kb 0 key), .ro 5 false false (kb 1 key), .ro 5 false false (kb 2 key)] (host % 3) (EV.mk s_Body s_Mac at1 (Ja (MN.mk (n % 100) ns))) (pu IntKind.u8 (nxP (NX.mk prev (EV.mk s_Body s_Mac at1 (Ja (MN.mk (n % 100) ns))))))))) && kO3 [.ro 5 false false (kb 0 key), .ro 5 false false (kb 1 key), .ro 5 false false (kb 2 key)])) then bif eOk (EV.mk s_Body s_Mac (IntKind.i64.wrap (at1 + 1)) (Ja (MN.mk (n % 100) ns))) && (h32 (pu IntKind.u8 (nxP (NX.mk prev (EV.mk s_Body s_Mac at1 (Ja (MN.mk (n % 100) ns)))))) && (h32 (pu IntKind.u8 (emP (EM.mk [.ro 5 false false (kb 0 key), .ro 5 false false (kb 1 key), .ro 5 false false (kb 2 key)] (host % 3) (EV.mk s_Body s_Mac at1 (Ja (MN.mk (n % 100) ns))) (pu IntKind.u8 (nxP (NX.mk prev (EV.mk s_Body s_Mac at1 (Ja (MN.mk (n % 100) ns))))))))) && kO3 [.ro 5 false false (kb 0 key), .ro 5 false false (kb 1 key), .ro 5 false false (kb 2 key)])) then bif emC (EC.mk [.ro 5 false false (kb 0 key), .ro 5 false false (kb 1 key), .ro 5 false false (kb 2 key)] (host % 3) (EV.mk s_Body s_Mac (IntKind.i64.wrap (at1 + 1)) (Ja (MN.mk (n % 100) ns))) (pu IntKind.u8 (nxP (NX.mk prev (EV.mk s_Body s_Mac at1 (Ja (MN.mk (n % 100) ns)))))) (pu IntKind.u8 (emP (EM.mk [.ro 5 false false (kb 0 key), .ro 5 false false (kb 1 key), .ro 5 false false (kb 2 key)] (host % 3) (EV.mk s_Body s_Mac at1 (Ja (MN.mk (n % 100) ns))) (pu IntKind.u8 (nxP (NX.mk prev (EV.mk s_Body s_Mac at1 (Ja (MN.mk (n % 100) ns)))))))))) == emC (EC.mk [.ro 5 false false (kb 0 key), .ro 5 false false (kb 1 key), .ro 5 false false (kb 2 key)] (host % 3) (EV.mk s_Body s_Mac (IntKind.i64.wrap (at1 + 1)) (Ja (MN.mk (n % 100) ns))) (pu IntKind.u8 (nxP (NX.mk prev (EV.mk s_Body s_Mac at1 (Ja (MN.mk (n % 100) ns)))))) (pu IntKind.u8 (emP (EM.mk [.ro 5 false false (kb 0 key), .ro 5 false false (kb 1 key), .ro 5 false false (kb 2 key)] (host % 3) (EV.mk s_Body s_Mac at1 (Ja (MN.mk (n % 100) ns))) (pu IntKind.u8 (nxP (NX.mk prev (EV.mk s_Body s_Mac at1 (Ja (MN.mk (n % 100) ns)))))))))) then bif eOk (EV.mk s_Body s_Mac (IntKind.i64.wrap (at1 + 1)) (Ja (MN.mk (n % 100) ns))) then bif Jd IntKind.u8 (pu IntKind.u8 (Jg (EV.mk s_Body s_Mac (IntKind.i64.wrap (at1 + 1)) (Ja (MN.mk (n % 100) ns))))) && true then bif eOk (EV.mk s_Body s_Mac (IntKind.i64.wrap (at1 + 1)) (Ja (MN.mk (n % 100) ns))) then bif Jd IntKind.u8 (List.take (Jg (EV.mk s_Body s_Mac (IntKind.i64.wrap (at1 + 1)) (Ja (MN.mk (n % 100) ns)))).length (pu IntKind.u8 (Jg (EV.mk s_Body s_Mac (IntKind.i64.wrap (at1 + 1)) (Ja (MN.mk (n % 100) ns)))))) && true then k (Res.mk (.sc (.bool (QZ (ByteArray.mk (Array.mk (Jl (false, pu IntKind.u8 (Jg (EV.mk s_Body s_Mac (IntKind.i64.wrap (at1 + 1)) (Ja (MN.mk (n % 100) ns))))).snd))) (ByteArray.mk (Array.mk (Jl ((Ent.vec false 5 false (pu IntKind.u8 (Jg (EV.mk s_Body s_Mac (IntKind.i64.wrap (at1 + 1)) (Ja (MN.mk (n % 100) ns)))))).nil, List.take (Jg (EV.mk s_Body s_Mac (IntKind.i64.wrap (at1 + 1)) (Ja (MN.mk (n % 100) ns)))).length (List.drop 0 (pu IntKind.u8 (Jg (EV.mk s_Body s_Mac (IntKind.i64.wrap (at1 + 1)) (Ja (MN.mk (n % 100) ns))))))).snd)))))) [] []) else none else none else none else none else k (Res.mk (.sc (.bool false)) [] []) else none else none else bif which % 5 == 1 then bif okW 32 then bif decide (0 ≤ at1 % 32) && decide (at1 % 32 < zi 32) && true then bif PV.isInt IntKind.u8 (Jn (PV.st 93 [.st 77 [.ro 5 s_Body_z s_Body_z s_Body, .ar 37 s_Mac], .sc (.int .i64 at1), .ro 99 (Ja (MN.mk (n % 100) ns)).isEmpty false (Ja (MN.mk (n % 100) ns)), .ar 37 (pu IntKind.u8 (nxP (NX.mk prev (EV.mk s_Body s_Mac at1 (Ja (MN.mk (n % 100) ns)))))), .ar 37 (pu IntKind.u8 (emP (EM.mk [.ro 5 false false (kb 0 key), .ro 5 false false (kb 1 key), .ro 5 false false (kb 2 key)] (host % 3) (EV.mk s_Body s_Mac at1 (Ja (MN.mk (n % 100) ns))) (pu IntKind.u8 (nxP (NX.mk prev (EV.mk s_Body s_Mac at1 (Ja (MN.mk (n % 100) ns)))))))))]) [3, (at1 % 32).toNat]) && true then bif decide (0 ≤ at1 % 32) && decide (at1 % 32 < zi 32) && true then bif eOk (EV.mk s_Body s_Mac at1 (Ja (MN.mk (n % 100) ns))) && (h32 ((pu IntKind.u8 (nxP (NX.mk prev (EV.mk s_Body s_Mac at1 (Ja (MN.mk (n % 100) ns)))))).set (at1 % 32).toNat (.sc (.int .u8 (IntKind.u8.wrap ((Jn (PV.st 93 [.st 77 [.ro 5 s_Body_z s_Body_z s_Body, .ar 37 s_Mac], .sc (.int .i64 at1), .ro 99 (Ja (MN.mk (n % 100) ns)).isEmpty false (Ja (MN.mk (n % 100) ns)), .ar 37 (pu IntKind.u8 (nxP (NX.mk prev (EV.mk s_Body s_Mac at1 (Ja (MN.mk (n % 100) ns)))))), .ar 37 (pu IntKind.u8 (emP (EM.mk [.ro 5 false false (kb 0 key), .ro 5 false false (kb 1 key), .ro 5 false false (kb 2 key)] (host % 3) (EV.mk s_Body s_Mac at1 (Ja (MN.mk (n % 100) ns))) (pu IntKind.u8 (nxP (NX.mk prev (EV.mk s_Body s_Mac at1 (Ja (MN.mk (n % 100) ns)))))))))]) [3, (at1 % 32).toNat]).int + by1))))) && (h32 (pu IntKind.u8 (emP (EM.mk [.ro 5 false false (kb 0 key), .ro 5 false false (kb 1 key), .ro 5 false false (kb 2 key)] (host % 3) (EV.mk s_Body s_Mac at1 (Ja (MN.mk (n % 100) ns))) (pu IntKind.u8 (nxP (NX.mk prev (EV.mk s_Body s_Mac at1 (Ja (MN.mk (n % 100) ns))))))))) && kO3 [.ro 5 false false (kb 0 key), .ro 5 false false (kb 1 key), .ro 5 false false (kb 2 key)])) then bif eOk (EV.mk s_Body s_Mac at1 (Ja (MN.mk (n % 100) ns))) && (h32 ((pu IntKind.u8 (nxP (NX.mk prev (EV.mk s_Body s_Mac at1 (Ja (MN.mk (n % 100) ns)))))).set (at1 % 32).toNat (.sc (.int .u8 (IntKind.u8.wrap ((Jn (PV.st 93 [.st 77 [.ro 5 s_Body_z s_Body_z s_Body, .ar 37 s_Mac], .sc (.int .i64 at1), .ro 99 (Ja (MN.mk (n % 100) ns)).isEmpty false (Ja (MN.mk (n % 100) ns)), .ar 37 (pu IntKind.u8 (nxP (NX.mk prev (EV.mk s_Body s_Mac at1 (Ja (MN.mk (n % 100) ns)))))), .ar 37 (pu IntKind.u8 (emP (EM.mk [.ro 5 false false (kb 0 key), .ro 5 false false (kb 1 key), .ro 5 false false (kb 2 key)] (host % 3) (EV.mk s_Body s_Mac at1 (Ja (MN.mk (n % 100) ns))) (pu IntKind.u8 (nxP (NX.mk prev (EV.mk s_Body s_Mac at1 (Ja (MN.mk (n % 100) ns)))))))))]) [3, (at1 % 32).toNat]).int + by1))))) && (h32 (pu IntKind.u8 (emP (EM.mk [.ro 5 false false (kb 0 key), .ro 5 false false (kb 1 key), .ro 5 false false (kb 2 key)] (host % 3) (EV.mk s_Body s_Mac at1 (Ja (MN.mk (n % 100) ns))) (pu IntKind.u8 (nxP (NX.mk prev (EV.mk s_Body s_Mac at1 (Ja (MN.mk (n % 100) ns))))))))) && kO3 [.ro 5 false false (kb 0 key), .ro 5 false false (kb 1 key), .ro 5 false false (kb 2 key)])) then bif emC (EC.mk [.ro 5 false false (kb 0 key), .ro 5 false false (kb 1 key), .ro 5 false false (kb 2 key)] (host % 3) (EV.mk s_Body s_Mac at1 (Ja (MN.mk (n % 100) ns))) ((pu IntKind.u8 (nxP (NX.mk prev (EV.mk s_Body s_Mac at1 (Ja (MN.mk (n % 100) ns)))))).set (at1 % 32).toNat (.sc (.int .u8 (IntKind.u8.wrap ((Jn (PV.st 93 [.st 77 [.ro 5 s_Body_z s_Body_z s_Body, .ar 37 s_Mac], .sc (.int .i64 at1), .ro 99 (Ja (MN.mk (n % 100) ns)).isEmpty false (Ja (MN.mk (n % 100) ns)), .ar 37 (pu IntKind.u8 (nxP (NX.mk prev (EV.mk s_Body s_Mac at1 (Ja (MN.mk (n % 100) ns)))))), .ar 37 (pu IntKind.u8 (emP (EM.mk [.ro 5 false false (kb 0 key), .ro 5 false false (kb 1 key), .ro 5 false false (kb 2 key)] (host % 3) (EV.mk s_Body s_Mac at1 (Ja (MN.mk (n % 100) ns))) (pu IntKind.u8 (nxP (NX.mk prev (EV.mk s_Body s_Mac at1 (Ja (MN.mk (n % 100) ns)))))))))]) [3, (at1 % 32).toNat]).int + by1))))) (pu IntKind.u8 (emP (EM.mk [.ro 5 false false (kb 0 key), .ro 5 false false (kb 1 key), .ro 5 false false (kb 2 key)] (host % 3) (EV.mk s_Body s_Mac at1 (Ja (MN.mk (n % 100) ns))) (pu IntKind.u8 (nxP (NX.mk prev (EV.mk s_Body s_Mac at1 (Ja (MN.mk (n % 100) ns)))))))))) == emC (EC.mk [.ro 5 false false (kb 0 key), .ro 5 false false (kb 1 key), .ro 5 false false (kb 2 key)] (host % 3) (EV.mk s_Body s_Mac at1 (Ja (MN.mk (n % 100) ns))) ((pu IntKind.u8 (nxP (NX.mk prev (EV.mk s_Body s_Mac at1 (Ja (MN.mk (n % 100) ns)))))).set (at1 % 32).toNat (.sc (.int .u8 (IntKind.u8.wrap ((Jn (PV.st 93 [.st 77 [.ro 5 s_Body_z s_Body_z s_Body, .ar 37 s_Mac], .sc (.int .i64 at1), .ro 99 (Ja (MN.mk (n % 100) ns)).isEmpty false (Ja (MN.mk (n % 100) ns)), .ar 37 (pu IntKind.u8 (nxP (NX.mk prev (EV.mk s_Body s_Mac at1 (Ja (MN.mk (n % 100) ns)))))), .ar 37 (pu IntKind.u8 (emP (EM.mk [.ro 5 false false (kb 0 key), .ro 5 false false (kb 1 key), .ro 5 false false (kb 2 key)] (host % 3) (EV.mk s_Body s_Mac at1 (Ja (MN.mk (n % 100) ns))) (pu IntKind.u8 (nxP (NX.mk prev (EV.mk s_Body s_Mac at1 (Ja (MN.mk (n % 100) ns)))))))))]) [3, (at1 % 32).toNat]).int + by1))))) (pu IntKind.u8 (emP (EM.mk [.ro 5 false false (kb 0 key), .ro 5 false false (kb 1 key), .ro 5 false false (kb 2 key)] (host % 3) (EV.mk s_Body s_Mac at1 (Ja (MN.mk (n % 100) ns))) (pu IntKind.u8 (nxP (NX.mk prev (EV.mk s_Body s_Mac at1 (Ja (MN.mk (n % 100) ns)))))))))) then bif eOk (EV.mk s_Body s_Mac at1 (Ja (MN.mk (n % 100) ns))) then bif Jd IntKind.u8 (pu IntKind.u8 (Jg (EV.mk s_Body s_Mac at1 (Ja (MN.mk (n % 100) ns))))) && true then bif eOk (EV.mk s_Body s_Mac at1 (Ja (MN.mk (n % 100) ns))) then bif Jd IntKind.u8 (List.take (Jg (EV.mk s_Body s_Mac at1 (Ja (MN.mk (n % 100) ns)))).length (pu IntKind.u8 (Jg (EV.mk s_Body s_Mac at1 (Ja (MN.mk (n % 100) ns)))))) && true then k (Res.mk (.sc (.bool (QZ (ByteArray.mk (Array.mk (Jl (false, pu IntKind.u8 (Jg (EV.mk s_Body s_Mac at1 (Ja (MN.mk (n % 100) ns))))).snd))) (ByteArray.mk (Array.mk (Jl ((Ent.vec false 5 false (pu IntKind.u8 (Jg (EV.mk s_Body s_Mac at1 (Ja (MN.mk (n % 100) ns)))))).nil, List.take (Jg (EV.mk s_Body s_Mac at1 (Ja (MN.mk (n % 100) ns)))).length (List.drop 0 (pu IntKind.u8 (Jg (EV.mk s_Body s_Mac at1 (Ja (MN.mk (n % 100) ns))))))).snd)))))) [] []) else none else none else none else none else k (Res.mk (.sc (.bool false)) [] []) else none else none else none else none else none else none else bif which % 5 == 2 then bif okW 32 then bif decide (0 ≤ at1 % 32) && decide (at1 % 32 < zi 32) && true then bif PV.isInt IntKind.u8 (Jn (PV.st 93 [.st 77 [.ro 5 s_Body_z s_Body_z s_Body, .ar 37 s_Mac], .sc (.int .i64 at1), .ro 99 (Ja (MN.mk (n % 100) ns)).isEmpty false (Ja (MN.mk (n % 100) ns)), .ar 37 (pu IntKind.u8 (nxP (NX.mk prev (EV.mk s_Body s_Mac at1 (Ja (MN.mk (n % 100) ns)))))), .ar 37 (pu IntKind.u8 (emP (EM.mk [.ro 5 false false (kb 0 key), .ro 5 false false (kb 1 key), .ro 5 false false (kb 2 key)] (host % 3) (EV.mk s_Body s_Mac at1 (Ja (MN.mk (n % 100) ns))) (pu IntKind.u8 (nxP (NX.mk prev (EV.mk s_Body s_Mac at1 (Ja (MN.mk (n % 100) ns)))))))))]) [4, (at1 % 32).toNat]) && true then bif decide (0 ≤ at1 % 32) && decide (at1 % 32 < zi 32) && true then bif eOk (EV.mk s_Body s_Mac at1 (Ja (MN.mk (n % 100) ns))) && (h32 (pu IntKind.u8 (nxP (NX.mk prev (EV.mk s_Body s_Mac at1 (Ja (MN.mk (n % 100) ns)))))) && (h32 ((pu IntKind.u8 (emP (EM.mk [.ro 5 false false (kb 0 key), .ro 5 false false (kb 1 key), .ro 5 false false (kb 2 key)] (host % 3) (EV.mk s_Body s_Mac at1 (Ja (MN.mk (n % 100) ns))) (pu IntKind.u8 (nxP (NX.mk prev (EV.mk s_Body s_Mac at1 (Ja (MN.mk (n % 100) ns))))))))).set (at1 % 32).toNat (.sc (.int .u8 (IntKind.u8.wrap ((Jn (PV.st 93 [.st 77 [.ro 5 s_Body_z s_Body_z s_Body, .ar 37 s_Mac], .sc (.int .i64 at1), .ro 99 (Ja (MN.mk (n % 100) ns)).isEmpty false (Ja (MN.mk (n % 100) ns)), .ar 37 (pu IntKind.u8 (nxP (NX.mk prev (EV.mk s_Body s_Mac at1 (Ja (MN.mk (n % 100) ns)))))), .ar 37 (pu IntKind.u8 (emP (EM.mk [.ro 5 false false (kb 0 key), .ro 5 false false (kb 1 key), .ro 5 false false (kb 2 key)] (host % 3) (EV.mk s_Body s_Mac at1 (Ja (MN.mk (n % 100) ns))) (pu IntKind.u8 (nxP (NX.mk prev (EV.mk s_Body s_Mac at1 (Ja (MN.mk (n % 100) ns)))))))))]) [4, (at1 % 32).toNat]).int + by1))))) && kO3 [.ro 5 false false (kb 0 key), .ro 5 false false (kb 1 key), .ro 5 false false (kb 2 key)])) then bif eOk (EV.mk s_Body s_Mac at1 (Ja (MN.mk (n % 100) ns))) && (h32 (pu IntKind.u8 (nxP (NX.mk prev (EV.mk s_Body s_Mac at1 (Ja (MN.mk (n % 100) ns)))))) && (h32 ((pu IntKind.u8 (emP (EM.mk [.ro 5 false false (kb 0 key), .ro 5 false false (kb 1 key), .ro 5 false false (kb 2 key)] (host % 3) (EV.mk s_Body s_Mac at1 (Ja (MN.mk (n % 100) ns))) (pu IntKind.u8 (nxP (NX.mk prev (EV.mk s_Body s_Mac at1 (Ja (MN.mk (n % 100) ns))))))))).set (at1 % 32).toNat (.sc (.int .u8 (IntKind.u8.wrap ((Jn (PV.st 93 [.st 77 [.ro 5 s_Body_z s_Body_z s_Body, .ar 37 s_Mac], .sc (.int .i64 at1), .ro 99 (Ja (MN.mk (n % 100) ns)).isEmpty false (Ja (MN.mk (n % 100) ns)), .ar 37 (pu IntKind.u8 (nxP (NX.mk prev (EV.mk s_Body s_Mac at1 (Ja (MN.mk (n % 100) ns)))))), .ar 37 (pu IntKind.u8 (emP (EM.mk [.ro 5 false false (kb 0 key), .ro 5 false false (kb 1 key), .ro 5 false false (kb 2 key)] (host % 3) (EV.mk s_Body s_Mac at1 (Ja (MN.mk (n % 100) ns))) (pu IntKind.u8 (nxP (NX.mk prev (EV.mk s_Body s_Mac at1 (Ja (MN.mk (n % 100) ns)))))))))]) [4, (at1 % 32).toNat]).int + by1))))) && kO3 [.ro 5 false false (kb 0 key), .ro 5 false false (kb 1 key), .ro 5 false false (kb 2 key)])) then bif emC (EC.mk [.ro 5 false false (kb 0 key), .ro 5 false false (kb 1 key), .ro 5 false false (kb 2 key)] (host % 3) (EV.mk s_Body s_Mac at1 (Ja (MN.mk (n % 100) ns))) (pu IntKind.u8 (nxP (NX.mk prev (EV.mk s_Body s_Mac at1 (Ja (MN.mk (n % 100) ns)))))) ((pu IntKind.u8 (emP (EM.mk [.ro 5 false false (kb 0 key), .ro 5 false false (kb 1 key), .ro 5 false false (kb 2 key)] (host % 3) (EV.mk s_Body s_Mac at1 (Ja (MN.mk (n % 100) ns))) (pu IntKind.u8 (nxP (NX.mk prev (EV.mk s_Body s_Mac at1 (Ja (MN.mk (n % 100) ns))))))))).set (at1 % 32).toNat (.sc (.int .u8 (IntKind.u8.wrap ((Jn (PV.st 93 [.st 77 [.ro 5 s_Body_z s_Body_z s_Body, .ar 37 s_Mac], .sc (.int .i64 at1), .ro 99 (Ja (MN.mk (n % 100) ns)).isEmpty false (Ja (MN.mk (n % 100) ns)), .ar 37 (pu IntKind.u8 (nxP (NX.mk prev (EV.mk s_Body s_Mac at1 (Ja (MN.mk (n % 100) ns)))))), .ar 37 (pu IntKind.u8 (emP (EM.mk [.ro 5 false false (kb 0 key), .ro 5 false false (kb 1 key), .ro 5 false false (kb 2 key)] (host % 3) (EV.mk s_Body s_Mac at1 (Ja (MN.mk (n % 100) ns))) (pu IntKind.u8 (nxP (NX.mk prev (EV.mk s_Body s_Mac at1 (Ja (MN.mk (n % 100) ns)))))))))]) [4, (at1 % 32).toNat]).int + by1)))))) == emC (EC.mk [.ro 5 false false (kb 0 key), .ro 5 false false (kb 1 key), .ro 5 false false (kb 2 key)] (host % 3) (EV.mk s_Body s_Mac at1 (Ja (MN.mk (n % 100) ns))) (pu IntKind.u8 (nxP (NX.mk prev (EV.mk s_Body s_Mac at1 (Ja (MN.mk (n % 100) ns)))))) ((pu IntKind.u8 (emP (EM.mk [.ro 5 false false (kb 0 key), .ro 5 false false (kb 1 key), .ro 5 false false (kb 2 key)] (host % 3) (EV.mk s_Body s_Mac at1 (Ja (MN.mk (n % 100) ns))) (pu IntKind.u8 (nxP (NX.mk prev (EV.mk s_Body s_Mac at1 (Ja (MN.mk (n % 100) ns))))))))).set (at1 % 32).toNat (.sc (.int .u8 (IntKind.u8.wrap ((Jn (PV.st 93 [.st 77 [.ro 5 s_Body_z s_Body_z s_Body, .ar 37 s_Mac], .sc (.int .i64 at1), .ro 99 (Ja (MN.mk (n % 100) ns)).isEmpty false (Ja (MN.mk (n % 100) ns)), .ar 37 (pu IntKind.u8 (nxP (NX.mk prev (EV.mk s_Body s_Mac at1 (Ja (MN.mk (n % 100) ns)))))), .ar 37 (pu IntKind.u8 (emP (EM.mk [.ro 5 false false (kb 0 key), .ro 5 false false (kb 1 key), .ro 5 false false (kb 2 key)] (host % 3) (EV.mk s_Body s_Mac at1 (Ja (MN.mk (n % 100) ns))) (pu IntKind.u8 (nxP (NX.mk prev (EV.mk s_Body s_Mac at1 (Ja (MN.mk (n % 100) ns)))))))))]) [4, (at1 % 32).toNat]).int + by1)))))) then bif eOk (EV.mk s_Body s_Mac at1 (Ja (MN.mk (n % 100) ns))) then bif Jd IntKind.u8 (pu IntKind.u8 (Jg (EV.mk s_Body s_Mac at1 (Ja (MN.mk (n % 100) ns))))) && true then bif eOk (EV.mk s_Body s_Mac at1 (Ja (MN.mk (n % 100) ns))) then bif Jd IntKind.u8 (List.take (Jg (EV.mk s_Body s_Mac at1 (Ja (MN.mk (n % 100) ns)))).length (pu IntKind.u8 (Jg (EV.mk s_Body s_Mac at1 (Ja (MN.mk (n % 100) ns)))))) && true then k (Res.mk (.sc (.bool (QZ (ByteArray.mk (Array.mk (Jl (false, pu IntKind.u8 (Jg (EV.mk s_Body s_Mac at1 (Ja (MN.mk (n % 100) ns))))).snd))) (ByteArray.mk (Array.mk (Jl ((Ent.vec false 5 false (pu IntKind.u8 (Jg (EV.mk s_Body s_Mac at1 (Ja (MN.mk (n % 100) ns)))))).nil, List.take (Jg (EV.mk s_Body s_Mac at1 (Ja (MN.mk (n % 100) ns)))).length (List.drop 0 (pu IntKind.u8 (Jg (EV.mk s_Body s_Mac at1 (Ja (MN.mk (n % 100) ns))))))).snd)))))) [] []) else none else none else none else none else k (Res.mk (.sc (.bool false)) [] []) else none else none else none else none else none else none else bif which % 5 == 3 then bif okW 32 then bif decide (0 ≤ at1 % 32) && decide (at1 % 32 < zi 32) && true then bif PV.isInt IntKind.u8 (Jn (PV.st 93 [.st 77 [.ro 5 s_Body_z s_Body_z s_Body, .ar 37 s_Mac], .sc (.int .i64 at1), .ro 99 (Ja (MN.mk (n % 100) ns)).isEmpty false (Ja (MN.mk (n % 100) ns)), .ar 37 (pu IntKind.u8 (nxP (NX.mk prev (EV.mk s_Body s_Mac at1 (Ja (MN.mk (n % 100) ns)))))), .ar 37 (pu IntKind.u8 (emP (EM.mk [.ro 5 false false (kb 0 key), .ro 5 false false (kb 1 key), .ro 5 false false (kb 2 key)] (host % 3) (EV.mk s_Body s_Mac at1 (Ja (MN.mk (n % 100) ns))) (pu IntKind.u8 (nxP (NX.mk prev (EV.mk s_Body s_Mac at1 (Ja (MN.mk (n % 100) ns)))))))))]) [0, 1, (at1 % 32).toNat]) && true then bif decide (0 ≤ at1 % 32) && decide (at1 % 32 < zi 32) && true then bif eOk (EV.mk s_Body (s_Mac.set (at1 % 32).toNat (.sc (.int .u8 (IntKind.u8.wrap ((Jn (PV.st 93 [.st 77 [.ro 5 s_Body_z s_Body_z s_Body, .ar 37 s_Mac], .sc (.int .i64 at1), .ro 99 (Ja (MN.mk (n % 100) ns)).isEmpty false (Ja (MN.mk (n % 100) ns)), .ar 37 (pu IntKind.u8 (nxP (NX.mk prev (EV.mk s_Body s_Mac at1 (Ja (MN.mk (n % 100) ns)))))), .ar 37 (pu IntKind.u8 (emP (EM.mk [.ro 5 false false (kb 0 key), .ro 5 false false (kb 1 key), .ro 5 false false (kb 2 key)] (host % 3) (EV.mk s_Body s_Mac at1 (Ja (MN.mk (n % 100) ns))) (pu IntKind.u8 (nxP (NX.mk prev (EV.mk s_Body s_Mac at1 (Ja (MN.mk (n % 100) ns)))))))))]) [0, 1, (at1 % 32).toNat]).int + by1))))) at1 (Ja (MN.mk (n % 100) ns))) && (h32 (pu IntKind.u8 (nxP (NX.mk prev (EV.mk s_Body s_Mac at1 (Ja (MN.mk (n % 100) ns)))))) && (h32 (pu IntKind.u8 (emP (EM.mk [.ro 5 false false (kb 0 key), .ro 5 false false (kb 1 key), .ro 5 false false (kb 2 key)] (host % 3) (EV.mk s_Body s_Mac at1 (Ja (MN.mk (n % 100) ns))) (pu IntKind.u8 (nxP (NX.mk prev (EV.mk s_Body s_Mac at1 (Ja (MN.mk (n % 100) ns))))))))) && kO3 [.ro 5 false false (kb 0 key), .ro 5 false false (kb 1 key), .ro 5 false false (kb 2 key)])) then bif eOk (EV.mk s_Body (s_Mac.set (at1 % 32).toNat (.sc (.int .u8 (IntKind.u8.wrap ((Jn (PV.st 93 [.st 77 [.ro 5 s_Body_z s_Body_z s_Body, .ar 37 s_Mac], .sc (.int .i64 at1), .ro 99 (Ja (MN.mk (n % 100) ns)).isEmpty false (Ja (MN.mk (n % 100) ns)), .ar 37 (pu IntKind.u8 (nxP (NX.mk prev (EV.mk s_Body s_Mac at1 (Ja (MN.mk (n % 100) ns)))))), .ar 37 (pu IntKind.u8 (emP (EM.mk [.ro 5 false false (kb 0 key), .ro 5 false false (kb 1 key), .ro 5 false false (kb 2 key)] (host % 3) (EV.mk s_Body s_Mac at1 (Ja (MN.mk (n % 100) ns))) (pu IntKind.u8 (nxP (NX.mk prev (EV.mk s_Body s_Mac at1 (Ja (MN.mk (n % 100) ns)))))))))]) [0, 1, (at1 % 32).toNat]).int + by1))))) at1 (Ja (MN.mk (n % 100) ns))) && (h32 (pu IntKind.u8 (nxP (NX.mk prev (EV.mk s_Body s_Mac at1 (Ja (MN.mk (n % 100) ns)))))) && (h32 (pu IntKind.u8 (emP (EM.mk [.ro 5 false false (kb 0 key), .ro 5 false false (kb 1 key), .ro 5 false false (kb 2 key)] (host % 3) (EV.mk s_Body s_Mac at1 (Ja (MN.mk (n % 100) ns))) (pu IntKind.u8 (nxP (NX.mk prev (EV.mk s_Body s_Mac at1 (Ja (MN.mk (n % 100) ns))))))))) && kO3 [.ro 5 false false (kb 0 key), .ro 5 false false (kb 1 key), .ro 5 false false (kb 2 key)])) then bif emC (EC.mk [.ro 5 false false (kb 0 key), .ro 5 false false (kb 1 key), .ro 5 false false (kb 2 key)] (host % 3) (EV.mk s_Body (s_Mac.set (at1 % 32).toNat (.sc (.int .u8 (IntKind.u8.wrap ((Jn (PV.st 93 [.st 77 [.ro 5 s_Body_z s_Body_z s_Body, .ar 37 s_Mac], .sc (.int .i64 at1), .ro 99 (Ja (MN.mk (n % 100) ns)).isEmpty false (Ja (MN.mk (n % 100) ns)), .ar 37 (pu IntKind.u8 (nxP (NX.mk prev (EV.mk s_Body s_Mac at1 (Ja (MN.mk (n % 100) ns)))))), .ar 37 (pu IntKind.u8 (emP (EM.mk [.ro 5 false false (kb 0 key), .ro 5 false false (kb 1 key), .ro 5 false false (kb 2 key)] (host % 3) (EV.mk s_Body s_Mac at1 (Ja (MN.mk (n % 100) ns))) (pu IntKind.u8 (nxP (NX.mk prev (EV.mk s_Body s_Mac at1 (Ja (MN.mk (n % 100) ns)))))))))]) [0, 1, (at1 % 32).toNat]).int + by1))))) at1 (Ja (MN.mk (n % 100) ns))) (pu IntKind.u8 (nxP (NX.mk prev (EV.mk s_Body s_Mac at1 (Ja (MN.mk (n % 100) ns)))))) (pu IntKind.u8 (emP (EM.mk [.ro 5 false false (kb 0 key), .ro 5 false false (kb 1 key), .ro 5 false false (kb 2 key)] (host % 3) (EV.mk s_Body s_Mac at1 (Ja (MN.mk (n % 100) ns))) (pu IntKind.u8 (nxP (NX.mk prev (EV.mk s_Body s_Mac at1 (Ja (MN.mk (n % 100) ns)))))))))) == emC (EC.mk [.ro 5 false false (kb 0 key), .ro 5 false false (kb 1 key), .ro 5 false false (kb 2 key)] (host % 3) (EV.mk s_Body (s_Mac.set (at1 % 32).toNat (.sc (.int .u8 (IntKind.u8.wrap ((Jn (PV.st 93 [.st 77 [.ro 5 s_Body_z s_Body_z s_Body, .ar 37 s_Mac], .sc (.int .i64 at1), .ro 99 (Ja (MN.mk (n % 100) ns)).isEmpty false (Ja (MN.mk (n % 100) ns)), .ar 37 (pu IntKind.u8 (nxP (NX.mk prev (EV.mk s_Body s_Mac at1 (Ja (MN.mk (n % 100) ns)))))), .ar 37 (pu IntKind.u8 (emP (EM.mk [.ro 5 false false (kb 0 key), .ro 5 false false (kb 1 key), .ro 5 false false (kb 2 key)] (host % 3) (EV.mk s_Body s_Mac at1 (Ja (MN.mk (n % 100) ns))) (pu IntKind.u8 (nxP (NX.mk prev (EV.mk s_Body s_Mac at1 (Ja (MN.mk (n % 100) ns)))))))))]) [0, 1, (at1 % 32).toNat]).int + by1))))) at1 (Ja (MN.mk (n % 100) ns))) (pu IntKind.u8 (nxP (NX.mk prev (EV.mk s_Body s_Mac at1 (Ja (MN.mk (n % 100) ns)))))) (pu IntKind.u8 (emP (EM.mk [.ro 5 false false (kb 0 key), .ro 5 false false (kb 1 key), .ro 5 false false (kb 2 key)] (host % 3) (EV.mk s_Body s_Mac at1 (Ja (MN.mk (n % 100) ns))) (pu IntKind.u8 (nxP (NX.mk prev (EV.mk s_Body s_Mac at1 (Ja (MN.mk (n % 100) ns)))))))))) then bif eOk (EV.mk s_Body (s_Mac.set (at1 % 32).toNat (.sc (.int .u8 (IntKind.u8.wrap ((Jn (PV.st 93 [.st 77 [.ro 5 s_Body_z s_Body_z s_Body, .ar 37 s_Mac], .sc (.int .i64 at1), .ro 99 (Ja (MN.mk (n % 100) ns)).isEmpty false (Ja (MN.mk (n % 100) ns)), .ar 37 (pu IntKind.u8 (nxP (NX.mk prev (EV.mk s_Body s_Mac at1 (Ja (MN.mk (n % 100) ns)))))), .ar 37 (pu IntKind.u8 (emP (EM.mk [.ro 5 false false (kb 0 key), .ro 5 false false (kb 1 key), .ro 5 false false (kb 2 key)] (host % 3) (EV.mk s_Body s_Mac at1 (Ja (MN.mk (n % 100) ns))) (pu IntKind.u8 (nxP (NX.mk prev (EV.mk s_Body s_Mac at1 (Ja (MN.mk (n % 100) ns)))))))))]) [0, 1, (at1 % 32).toNat]).int + by1))))) at1 (Ja (MN.mk (n % 100) ns))) then bif Jd IntKind.u8 (pu IntKind.u8 (Jg (EV.mk s_Body (s_Mac.set (at1 % 32).toNat (.sc (.int .u8 (IntKind.u8.wrap ((Jn (PV.st 93 [.st 77 [.ro 5 s_Body_z s_Body_z s_Body, .ar 37 s_Mac], .sc (.int .i64 at1), .ro 99 (Ja (MN.mk (n % 100) ns)).isEmpty false (Ja (MN.mk (n % 100) ns)), .ar 37 (pu IntKind.u8 (nxP (NX.mk prev (EV.mk s_Body s_Mac at1 (Ja (MN.mk (n % 100) ns)))))), .ar 37 (pu IntKind.u8 (emP (EM.mk [.ro 5 false false (kb 0 key), .ro 5 false false (kb 1 key), .ro 5 false false (kb 2 key)] (host % 3) (EV.mk s_Body s_Mac at1 (Ja (MN.mk (n % 100) ns))) (pu IntKind.u8 (nxP (NX.mk prev (EV.mk s_Body s_Mac at1 (Ja (MN.mk (n % 100) ns)))))))))]) [0, 1, (at1 % 32).toNat]).int + by1))))) at1 (Ja (MN.mk (n % 100) ns))))) && true then bif eOk (EV.mk s_Body (s_Mac.set (at1 % 32).toNat (.sc (.int .u8 (IntKind.u8.wrap ((Jn (PV.st 93 [.st 77 [.ro 5 s_Body_z s_Body_z s_Body, .ar 37 s_Mac], .sc (.int .i64 at1), .ro 99 (Ja (MN.mk (n % 100) ns)).isEmpty false (Ja (MN.mk (n % 100) ns)), .ar 37 (pu IntKind.u8 (nxP (NX.mk prev (EV.mk s_Body s_Mac at1 (Ja (MN.mk (n % 100) ns)))))), .ar 37 (pu IntKind.u8 (emP (EM.mk [.ro 5 false false (kb 0 key), .ro 5 false false (kb 1 key), .ro 5 false false (kb 2 key)] (host % 3) (EV.mk s_Body s_Mac at1 (Ja (MN.mk (n % 100) ns))) (pu IntKind.u8 (nxP (NX.mk prev (EV.mk s_Body s_Mac at1 (Ja (MN.mk (n % 100) ns)))))))))]) [0, 1, (at1 % 32).toNat]).int + by1))))) at1 (Ja (MN.mk (n % 100) ns))) then bif Jd IntKind.u8 (List.take (Jg (EV.mk s_Body (s_Mac.set (at1 % 32).toNat (.sc (.int .u8 (IntKind.u8.wrap ((Jn (PV.st 93 [.st 77 [.ro 5 s_Body_z s_Body_z s_Body, .ar 37 s_Mac], .sc (.int .i64 at1), .ro 99 (Ja (MN.mk (n % 100) ns)).isEmpty false (Ja (MN.mk (n % 100) ns)), .ar 37 (pu IntKind.u8 (nxP (NX.mk prev (EV.mk s_Body s_Mac at1 (Ja (MN.mk (n % 100) ns)))))), .ar 37 (pu IntKind.u8 (emP (EM.mk [.ro 5 false false (kb 0 key), .ro 5 false false (kb 1 key), .ro 5 false false (kb 2 key)] (host % 3) (EV.mk s_Body s_Mac at1 (Ja (MN.mk (n % 100) ns))) (pu IntKind.u8 (nxP (NX.mk prev (EV.mk s_Body s_Mac at1 (Ja (MN.mk (n % 100) ns)))))))))]) [0, 1, (at1 % 32).toNat]).int + by1))))) at1 (Ja (MN.mk (n % 100) ns)))).length (pu IntKind.u8 (Jg (EV.mk s_Body (s_Mac.set (at1 % 32).toNat (.sc (.int .u8 (IntKind.u8.wrap ((Jn (PV.st 93 [.st 77 [.ro 5 s_Body_z s_Body_z s_Body, .ar 37 s_Mac], .sc (.int .i64 at1), .ro 99 (Ja (MN.mk (n % 100) ns)).isEmpty false (Ja (MN.mk (n % 100) ns)), .ar 37 (pu IntKind.u8 (nxP (NX.mk prev (EV.mk s_Body s_Mac at1 (Ja (MN.mk (n % 100) ns)))))), .ar 37 (pu IntKind.u8 (emP (EM.mk [.ro 5 false false (kb 0 key), .ro 5 false false (kb 1 key), .ro 5 false false (kb 2 key)] (host % 3) (EV.mk s_Body s_Mac at1 (Ja (MN.mk (n % 100) ns))) (pu IntKind.u8 (nxP (NX.mk prev (EV.mk s_Body s_Mac at1 (Ja (MN.mk (n % 100) ns)))))))))]) [0, 1, (at1 % 32).toNat]).int + by1))))) at1 (Ja (MN.mk (n % 100) ns)))))) && true then k (Res.mk (.sc (.bool (QZ (ByteArray.mk (Array.mk (Jl (false, pu IntKind.u8 (Jg (EV.mk s_Body (s_Mac.set (at1 % 32).toNat (.sc (.int .u8 (IntKind.u8.wrap ((Jn (PV.st 93 [.st 77 [.ro 5 s_Body_z s_Body_z s_Body, .ar 37 s_Mac], .sc (.int .i64 at1), .ro 99 (Ja (MN.mk (n % 100) ns)).isEmpty false (Ja (MN.mk (n % 100) ns)), .ar 37 (pu IntKind.u8 (nxP (NX.mk prev (EV.mk s_Body s_Mac at1 (Ja (MN.mk (n % 100) ns)))))), .ar 37 (pu IntKind.u8 (emP (EM.mk [.ro 5 false false (kb 0 key), .ro 5 false false (kb 1 key), .ro 5 false false (kb 2 key)] (host % 3) (EV.mk s_Body s_Mac at1 (Ja (MN.mk (n % 100) ns))) (pu IntKind.u8 (nxP (NX.mk prev (EV.mk s_Body s_Mac at1 (Ja (MN.mk (n % 100) ns)))))))))]) [0, 1, (at1 % 32).toNat]).int + by1))))) at1 (Ja (MN.mk (n % 100) ns))))).snd))) (ByteArray.mk (Array.mk (Jl ((Ent.vec false 5 false (pu IntKind.u8 (Jg (EV.mk s_Body (s_Mac.set (at1 % 32).toNat (.sc (.int .u8 (IntKind.u8.wrap ((Jn (PV.st 93 [.st 77 [.ro 5 s_Body_z s_Body_z s_Body, .ar 37 s_Mac], .sc (.int .i64 at1), .ro 99 (Ja (MN.mk (n % 100) ns)).isEmpty false (Ja (MN.mk (n % 100) ns)), .ar 37 (pu IntKind.u8 (nxP (NX.mk prev (EV.mk s_Body s_Mac at1 (Ja (MN.mk (n % 100) ns)))))), .ar 37 (pu IntKind.u8 (emP (EM.mk [.ro 5 false false (kb 0 key), .ro 5 false false (kb 1 key), .ro 5 false false (kb 2 key)] (host % 3) (EV.mk s_Body s_Mac at1 (Ja (MN.mk (n % 100) ns))) (pu IntKind.u8 (nxP (NX.mk prev (EV.mk s_Body s_Mac at1 (Ja (MN.mk (n % 100) ns)))))))))]) [0, 1, (at1 % 32).toNat]).int + by1))))) at1 (Ja (MN.mk (n % 100) ns)))))).nil, List.take (Jg (EV.mk s_Body (s_Mac.set (at1 % 32).toNat (.sc (.int .u8 (IntKind.u8.wrap ((Jn (PV.st 93 [.st 77 [.ro 5 s_Body_z s_Body_z s_Body, .ar 37 s_Mac], .sc (.int .i64 at1), .ro 99 (Ja (MN.mk (n % 100) ns)).isEmpty false (Ja (MN.mk (n % 100) ns)), .ar 37 (pu IntKind.u8 (nxP (NX.mk prev (EV.mk s_Body s_Mac at1 (Ja (MN.mk (n % 100) ns)))))), .ar 37 (pu IntKind.u8 (emP (EM.mk [.ro 5 false false (kb 0 key), .ro 5 false false (kb 1 key), .ro 5 false false (kb 2 key)] (host % 3) (EV.mk s_Body s_Mac at1 (Ja (MN.mk (n % 100) ns))) (pu IntKind.u8 (nxP (NX.mk prev (EV.mk s_Body s_Mac at1 (Ja (MN.mk (n % 100) ns)))))))))]) [0, 1, (at1 % 32).toNat]).int + by1))))) at1 (Ja (MN.mk (n % 100) ns)))).length (List.drop 0 (pu IntKind.u8 (Jg (EV.mk s_Body (s_Mac.set (at1 % 32).toNat (.sc (.int .u8 (IntKind.u8.wrap ((Jn (PV.st 93 [.st 77 [.ro 5 s_Body_z s_Body_z s_Body, .ar 37 s_Mac], .sc (.int .i64 at1), .ro 99 (Ja (MN.mk (n % 100) ns)).isEmpty false (Ja (MN.mk (n % 100) ns)), .ar 37 (pu IntKind.u8 (nxP (NX.mk prev (EV.mk s_Body s_Mac at1 (Ja (MN.mk (n % 100) ns)))))), .ar 37 (pu IntKind.u8 (emP (EM.mk [.ro 5 false false (kb 0 key), .ro 5 false false (kb 1 key), .ro 5 false false (kb 2 key)] (host % 3) (EV.mk s_Body s_Mac at1 (Ja (MN.mk (n % 100) ns))) (pu IntKind.u8 (nxP (NX.mk prev (EV.mk s_Body s_Mac at1 (Ja (MN.mk (n % 100) ns)))))))))]) [0, 1, (at1 % 32).toNat]).int + by1))))) at1 (Ja (MN.mk (n % 100) ns))))))).snd)))))) [] []) else none else none else none else none else k (Res.mk (.sc (.bool false)) [] []) else none else none else none else none else none else none else bif which % 5 == 4 then bif Jj (0 + (Ja (MN.mk (n % 100) ns)).length) 32 && true then bif Jj (0 + (Ja (MN.mk (n % 100) ns)).length + 1) 32 && true then bif eOk (EV.mk s_Body s_Mac at1 (List.take (0 + (Ja (MN.mk (n % 100) ns)).length + 1) (List.take (0 + (Ja (MN.mk (n % 100) ns)).length) (Ja (MN.mk (n % 100) ns)) ++ [.st 99 [.sc (.int .i64 2), .sc (.int .i64 0), .sc (.string (ByteArray.mk (Array.mk (u8l [120]))))]]))) && (h32 (pu IntKind.u8 (nxP (NX.mk prev (EV.mk s_Body s_Mac at1 (Ja (MN.mk (n % 100) ns)))))) && (h32 (pu IntKind.u8 (emP (EM.mk [.ro 5 false false (kb 0 key), .ro 5 false false (kb 1 key), .ro 5 false false (kb 2 key)] (host % 3) (EV.mk s_Body s_Mac at1 (Ja (MN.mk (n % 100) ns))) (pu IntKind.u8 (nxP (NX.mk prev (EV.mk s_Body s_Mac at1 (Ja (MN.mk (n % 100) ns))))))))) && kO3 [.ro 5 false false (kb 0 key), .ro 5 false false (kb 1 key), .ro 5 false false (kb 2 key)])) then bif eOk (EV.mk s_Body s_Mac at1 (List.take (0 + (Ja (MN.mk (n % 100) ns)).length + 1) (List.take (0 + (Ja (MN.mk (n % 100) ns)).length) (Ja (MN.mk (n % 100) ns)) ++ [.st 99 [.sc (.int .i64 2), .sc (.int .i64 0), .sc (.string (ByteArray.mk (Array.mk (u8l [120]))))]]))) && (h32 (pu IntKind.u8 (nxP (NX.mk prev (EV.mk s_Body s_Mac at1 (Ja (MN.mk (n % 100) ns)))))) && (h32 (pu IntKind.u8 (emP (EM.mk [.ro 5 false false (kb 0 key), .ro 5 false false (kb 1 key), .ro 5 false false (kb 2 key)] (host % 3) (EV.mk s_Body s_Mac at1 (Ja (MN.mk (n % 100) ns))) (pu IntKind.u8 (nxP (NX.mk prev (EV.mk s_Body s_Mac at1 (Ja (MN.mk (n % 100) ns))))))))) && kO3 [.ro 5 false false (kb 0 key), .ro 5 false false (kb 1 key), .ro 5 false false (kb 2 key)])) then bif emC (EC.mk [.ro 5 false false (kb 0 key), .ro 5 false false (kb 1 key), .ro 5 false false (kb 2 key)] (host % 3) (EV.mk s_Body s_Mac at1 (List.take (0 + (Ja (MN.mk (n % 100) ns)).length + 1) (List.take (0 + (Ja (MN.mk (n % 100) ns)).length) (Ja (MN.mk (n % 100) ns)) ++ [.st 99 [.sc (.int .i64 2), .sc (.int .i64 0), .sc (.string (ByteArray.mk (Array.mk (u8l [120]))))]]))) (pu IntKind.u8 (nxP (NX.mk prev (EV.mk s_Body s_Mac at1 (Ja (MN.mk (n % 100) ns)))))) (pu IntKind.u8 (emP (EM.mk [.ro 5 false false (kb 0 key), .ro 5 false false (kb 1 key), .ro 5 false false (kb 2 key)] (host % 3) (EV.mk s_Body s_Mac at1 (Ja (MN.mk (n % 100) ns))) (pu IntKind.u8 (nxP (NX.mk prev (EV.mk s_Body s_Mac at1 (Ja (MN.mk (n % 100) ns)))))))))) == emC (EC.mk [.ro 5 false false (kb 0 key), .ro 5 false false (kb 1 key), .ro 5 false false (kb 2 key)] (host % 3) (EV.mk s_Body s_Mac at1 (List.take (0 + (Ja (MN.mk (n % 100) ns)).length + 1) (List.take (0 + (Ja (MN.mk (n % 100) ns)).length) (Ja (MN.mk (n % 100) ns)) ++ [.st 99 [.sc (.int .i64 2), .sc (.int .i64 0), .sc (.string (ByteArray.mk (Array.mk (u8l [120]))))]]))) (pu IntKind.u8 (nxP (NX.mk prev (EV.mk s_Body s_Mac at1 (Ja (MN.mk (n % 100) ns)))))) (pu IntKind.u8 (emP (EM.mk [.ro 5 false false (kb 0 key), .ro 5 false false (kb 1 key), .ro 5 false false (kb 2 key)] (host % 3) (EV.mk s_Body s_Mac at1 (Ja (MN.mk (n % 100) ns))) (pu IntKind.u8 (nxP (NX.mk prev (EV.mk s_Body s_Mac at1 (Ja (MN.mk (n % 100) ns)))))))))) then bif eOk (EV.mk s_Body s_Mac at1 (List.take (0 + (Ja (MN.mk (n % 100) ns)).length + 1) (List.take (0 + (Ja (MN.mk (n % 100) ns)).length) (Ja (MN.mk (n % 100) ns)) ++ [.st 99 [.sc (.int .i64 2), .sc (.int .i64 0), .sc (.string (ByteArray.mk (Array.mk (u8l [120]))))]]))) then bif Jd IntKind.u8 (pu IntKind.u8 (Jg (EV.mk s_Body s_Mac at1 (List.take (0 + (Ja (MN.mk (n % 100) ns)).length + 1) (List.take (0 + (Ja (MN.mk (n % 100) ns)).length) (Ja (MN.mk (n % 100) ns)) ++ [.st 99 [.sc (.int .i64 2), .sc (.int .i64 0), .sc (.string (ByteArray.mk (Array.mk (u8l [120]))))]]))))) && true then bif eOk (EV.mk s_Body s_Mac at1 (List.take (0 + (Ja (MN.mk (n % 100) ns)).length + 1) (List.take (0 + (Ja (MN.mk (n % 100) ns)).length) (Ja (MN.mk (n % 100) ns)) ++ [.st 99 [.sc (.int .i64 2), .sc (.int .i64 0), .sc (.string (ByteArray.mk (Array.mk (u8l [120]))))]]))) then bif Jd IntKind.u8 (List.take (Jg (EV.mk s_Body s_Mac at1 (List.take (0 + (Ja (MN.mk (n % 100) ns)).length + 1) (List.take (0 + (Ja (MN.mk (n % 100) ns)).length) (Ja (MN.mk (n % 100) ns)) ++ [.st 99 [.sc (.int .i64 2), .sc (.int .i64 0), .sc (.string (ByteArray.mk (Array.mk (u8l [120]))))]])))).length (pu IntKind.u8 (Jg (EV.mk s_Body s_Mac at1 (List.take (0 + (Ja (MN.mk (n % 100) ns)).length + 1) (List.take (0 + (Ja (MN.mk (n % 100) ns)).length) (Ja (MN.mk (n % 100) ns)) ++ [.st 99 [.sc (.int .i64 2), .sc (.int .i64 0), .sc (.string (ByteArray.mk (Array.mk (u8l [120]))))]])))))) && true then k (Res.mk (.sc (.bool (QZ (ByteArray.mk (Array.mk (Jl (false, pu IntKind.u8 (Jg (EV.mk s_Body s_Mac at1 (List.take (0 + (Ja (MN.mk (n % 100) ns)).length + 1) (List.take (0 + (Ja (MN.mk (n % 100) ns)).length) (Ja (MN.mk (n % 100) ns)) ++ [.st 99 [.sc (.int .i64 2), .sc (.int .i64 0), .sc (.string (ByteArray.mk (Array.mk (u8l [120]))))]]))))).snd))) (ByteArray.mk (Array.mk (Jl ((Ent.vec false 5 false (pu IntKind.u8 (Jg (EV.mk s_Body s_Mac at1 (List.take (0 + (Ja (MN.mk (n % 100) ns)).length + 1) (List.take (0 + (Ja (MN.mk (n % 100) ns)).length) (Ja (MN.mk (n % 100) ns)) ++ [.st 99 [.sc (.int .i64 2), .sc (.int .i64 0), .sc (.string (ByteArray.mk (Array.mk (u8l [120]))))]])))))).nil, List.take (Jg (EV.mk s_Body s_Mac at1 (List.take (0 + (Ja (MN.mk (n % 100) ns)).length + 1) (List.take (0 + (Ja (MN.mk (n % 100) ns)).length) (Ja (MN.mk (n % 100) ns)) ++ [.st 99 [.sc (.int .i64 2), .sc (.int .i64 0), .sc (.string (ByteArray.mk (Array.mk (u8l [120]))))]])))).length (List.drop 0 (pu IntKind.u8 (Jg (EV.mk s_Body s_Mac at1 (List.take (0 + (Ja (MN.mk (n % 100) ns)).length + 1) (List.take (0 + (Ja (MN.mk (n % 100) ns)).length) (Ja (MN.mk (n % 100) ns)) ++ [.st 99 [.sc (.int .i64 2), .sc (.int .i64 0), .sc (.string (ByteArray.mk (Array.mk (u8l [120]))))]]))))))).snd)))))) [] []) else none else none else none else none else k (Res.mk (.sc (.bool false)) [] []) else none else none else none else none else bif eOk (EV.mk s_Body s_Mac at1 (Ja (MN.mk (n % 100) ns))) && (h32 (pu IntKind.u8 (nxP (NX.mk prev (EV.mk s_Body s_Mac at1 (Ja (MN.mk (n % 100) ns)))))) && (h32 (pu IntKind.u8 (emP (EM.mk [.ro 5 false false (kb 0 key), .ro 5 false false (kb 1 key), .ro 5 false false (kb 2 key)] (host % 3) (EV.mk s_Body s_Mac at1 (Ja (MN.mk (n % 100) ns))) (pu IntKind.u8 (nxP (NX.mk prev (EV.mk s_Body s_Mac at1 (Ja (MN.mk (n % 100) ns))))))))) && kO3 [.ro 5 false false (kb 0 key), .ro 5 false false (kb 1 key), .ro 5 false false (kb 2 key)])) then bif eOk (EV.mk s_Body s_Mac at1 (Ja (MN.mk (n % 100) ns))) && (h32 (pu IntKind.u8 (nxP (NX.mk prev (EV.mk s_Body s_Mac at1 (Ja (MN.mk (n % 100) ns)))))) && (h32 (pu IntKind.u8 (emP (EM.mk [.ro 5 false false (kb 0 key), .ro 5 false false (kb 1 key), .ro 5 false false (kb 2 key)] (host % 3) (EV.mk s_Body s_Mac at1 (Ja (MN.mk (n % 100) ns))) (pu IntKind.u8 (nxP (NX.mk prev (EV.mk s_Body s_Mac at1 (Ja (MN.mk (n % 100) ns))))))))) && kO3 [.ro 5 false false (kb 0 key), .ro 5 false false (kb 1 key), .ro 5 false false (kb 2 key)])) then bif emC (EC.mk [.ro 5 false false (kb 0 key), .ro 5 false false (kb 1 key), .ro 5 false false (kb 2 key)] (host % 3) (EV.mk s_Body s_Mac at1 (Ja (MN.mk (n % 100) ns))) (pu IntKind.u8 (nxP (NX.mk prev (EV.mk s_Body s_Mac at1 (Ja (MN.mk (n % 100) ns)))))) (pu IntKind.u8 (emP (EM.mk [.ro 5 false false (kb 0 key), .ro 5 false false (kb 1 key), .ro 5 false false (kb 2 key)] (host % 3) (EV.mk s_Body s_Mac at1 (Ja (MN.mk (n % 100) ns))) (pu IntKind.u8 (nxP (NX.mk prev (EV.mk s_Body s_Mac at1 (Ja (MN.mk (n % 100) ns)))))))))) == emC (EC.mk [.ro 5 false false (kb 0 key), .ro 5 false false (kb 1 key), .ro 5 false false (kb 2 key)] (host % 3) (EV.mk s_Body s_Mac at1 (Ja (MN.mk (n % 100) ns))) (pu IntKind.u8 (nxP (NX.mk prev (EV.mk s_Body s_Mac at1 (Ja (MN.mk (n % 100) ns)))))) (pu IntKind.u8 (emP (EM.mk [.ro 5 false false (kb 0 key), .ro 5 false false (kb 1 key), .ro 5 false false (kb 2 key)] (host % 3) (EV.mk s_Body s_Mac at1 (Ja (MN.mk (n % 100) ns))) (pu IntKind.u8 (nxP (NX.mk prev (EV.mk s_Body s_Mac at1 (Ja (MN.mk (n % 100) ns)))))))))) then bif eOk (EV.mk s_Body s_Mac at1 (Ja (MN.mk (n % 100) ns))) then bif Jd IntKind.u8 (pu IntKind.u8 (Jg (EV.mk s_Body s_Mac at1 (Ja (MN.mk (n % 100) ns))))) && true then bif eOk (EV.mk s_Body s_Mac at1 (Ja (MN.mk (n % 100) ns))) then bif Jd IntKind.u8 (List.take (Jg (EV.mk s_Body s_Mac at1 (Ja (MN.mk (n % 100) ns)))).length (pu IntKind.u8 (Jg (EV.mk s_Body s_Mac at1 (Ja (MN.mk (n % 100) ns)))))) && true then k (Res.mk (.sc (.bool (QZ (ByteArray.mk (Array.mk (Jl (false, pu IntKind.u8 (Jg (EV.mk s_Body s_Mac at1 (Ja (MN.mk (n % 100) ns))))).snd))) (ByteArray.mk (Array.mk (Jl ((Ent.vec false 5 false (pu IntKind.u8 (Jg (EV.mk s_Body s_Mac at1 (Ja (MN.mk (n % 100) ns)))))).nil, List.take (Jg (EV.mk s_Body s_Mac at1 (Ja (MN.mk (n % 100) ns)))).length (List.drop 0 (pu IntKind.u8 (Jg (EV.mk s_Body s_Mac at1 (Ja (MN.mk (n % 100) ns))))))).snd)))))) [] []) else none else none else none else none else k (Res.mk (.sc (.bool false)) [] []) else none else none else none else none else none else none else none else none else none else none else none else none else none else none else none else none else none else none
theorem e16 (f : Nat) (key_z : Bool) (key_f : Bool) (key : List PV) (host : Int) (prev : List PV) (s_Body_z : Bool) (s_Body_f : Bool) (s_Body : List PV) (s_Mac : List PV) (at1 : Int) (n : Int) (ns_z : Bool) (ns_f : Bool) (ns : List PV) (which : Int) (by1 : Int) (k : Res → Option Res) : JN tau F16 Try.f16 (Try.f16.body.get!) JoR [.ro] 0 [.ro 5 key_z key_f key, .sc (.int .i64 host), .ar 37 prev, .st 77 [.ro 5 s_Body_z s_Body_f s_Body, .ar 37 s_Mac], .sc (.int .i64 at1), .sc (.int .i64 n), .ro 3 ns_z ns_f ns, .sc (.int .i64 which), .sc (.int .u8 by1)] [] k = g16 f key_z key_f key host prev s_Body_z s_Body_f s_Body s_Mac at1 n ns_z ns_f ns which by1 k := by kernel_rfl
theorem JBm (f : Nat) : Ji (Try.f16.body.get!) JoR = [] := by kernel_rfl
theorem JBn (f : Nat) : ∀ q ∈ Ji (Try.f16.body.get!) JoR, q.Ok tau Try.prog 0 := by
  rw [JBm f]; intro q hq; cases hq
theorem JtH : Try.prog.funcs[16]? = some Try.f16 := by kernel_rfl
theorem JBo : Try.f16.body = some (Try.f16.body.get!) := by kernel_rfl
noncomputable def Jml : List PV → List Ent → (Res → Option Res) → Option Res
  | [.ro 5 key_z key_f key, .sc (.int .i64 host), .ar 37 prev, .st 77 [.ro 5 s_Body_z s_Body_f s_Body, .ar 37 s_Mac], .sc (.int .i64 at1), .sc (.int .i64 n), .ro 3 ns_z ns_f ns, .sc (.int .i64 which), .sc (.int .u8 by1)], [], k => g16 0 key_z key_f key host prev s_Body_z s_Body_f s_Body s_Mac at1 n ns_z ns_f ns which by1 k
  | _, _, _ => none
noncomputable def s16 : Sig := { own := [], run := Jml }
theorem JBp : Jk tau Try.prog 16 s16 := JV Js JtG Jt JtH JBo JoR [.ro] 0 [] Jml (JBn 0) fun xs es k res hr => by
  unfold Jml at hr
  split at hr
  · exact ⟨rfl, 0, (e16 0 _ _ _ _ _ _ _ _ _ _ _ _ _ _ _ _  _).trans hr⟩
  · cases hr

-- FN law8.within

-- FN law8.Good
structure GO where
  (kd n : Int) (ns : List PV)
theorem Jec (x : Int) {m : Int} (h : 0 < m) : 0 ≤ x % m ∧ x % m < m := ⟨Int.emod_nonneg _ (by omega), Int.emod_lt_of_pos _ h⟩

-- FN wire.Bytes
structure WM where
  (l : List PV) (c : C13) (b : List PV)

-- FN
noncomputable def kk (key : List PV) : List PV := [.ro 5 false false (kb 0 key), .ro 5 false false (kb 1 key), .ro 5 false false (kb 2 key)]
theorem JtI {key : List PV} (h : byB key = true) : kO3 (kk key) = true := by
  have hkk : ∀ i, kOk (kb i key) = true := fun i => Jin i (QK.1 h).1
  exact Jd3.2 ⟨hkk 0, hkk 1, hkk 2⟩
-- FN law9.SignEntries
theorem Jmm {l : List PV} (h1 : ∀ p ∈ l, isCp p = true) (h2 : ∀ p ∈ l, (cv p).s.size ≤ 10) (h3 : l.length ≤ 20) : cBy l = true ∧ (opB l).length ≤ 65535 := by
  refine ⟨Xf.2 ⟨List.all_eq_true.2 h1, fun p hp => by have := h2 p hp; omega, by omega⟩, ?_⟩
  have := Jbn 10 l h2
  rw [GD, JjE, List.length_append]; simp only [List.length_cons, List.length_nil]; omega
theorem Jhs {l : List PV} (h : Jd .u8 l = true) (i : Nat) (x : Int) : Jd .u8 (l.set i (.sc (.int .u8 x))) = true := by
  induction l generalizing i with
  | nil => exact h
  | cons p ps ih =>
    have e : ∀ (q : PV) (l : List PV), Jd .u8 (q :: l) = (q.isInt .u8 && Jd .u8 l) := fun _ _ => rfl
    rw [e, Bool.and_eq_true] at h
    cases i with
    | zero => rw [List.set_cons_zero, e, h.2]; rfl
    | succ i => rw [List.set_cons_succ, e, ih h.2 i, h.1]; rfl
theorem h32_set {l : List PV} (h : h32 l = true) (i : Nat) (x : Int) : h32 (l.set i (.sc (.int .u8 x))) = true := by
  obtain ⟨a, b⟩ := h32_iff.1 h
  exact h32_iff.2 ⟨Jhs a i x, by rw [List.length_set]; exact b⟩
theorem Yq {l : List PV} (h : Jd .u8 l = true) {i : Nat} (hi : i < l.length) : (l.getD i .top).isInt .u8 = true := by
  induction l generalizing i with
  | nil => simp at hi
  | cons p ps ih =>
    have e : Jd .u8 (p :: ps) = (p.isInt .u8 && Jd .u8 ps) := rfl
    rw [e, Bool.and_eq_true] at h
    cases i with
    | zero => exact h.1
    | succ i => simpa using ih h.2 (by simpa using hi)
theorem Jmn (kz kf : Bool) (key : List PV) (host : Int) (prev : List PV) (z f : Bool) (b m : List PV) (at1 n : Int) (nz nf : Bool) (ns : List PV) (which by1 : Int) (hk : byB key = true) (hp : byB prev = true) (hp2 : prev.length = 32) (hz : z = true → b = []) (hb : byB b = true) (hm : byB m = true) (hm2 : m.length = 32) (hn : Jd .i64 ns = true) (hn2 : ns.length ≤ 9223372036854775807) (k : Res → Option Res) :
    g16 0 kz kf key host prev z f b m at1 n nz nf ns which by1 k = k ⟨.sc (.bool true), [], []⟩ := by
  unfold g16
  by_cases hl : b.length > 300
  · exact Jb (by simp only [zi, decide_eq_true_eq]; omega)
  have hkk : [PV.ro 5 false false (kb 0 key), .ro 5 false false (kb 1 key), .ro 5 false false (kb 2 key)] = kk key := rfl
  have hK := JtI hk
  obtain ⟨n1, n2⟩ := Jec n (m := 100) (by decide)
  have hns : JjH (n % 100) ns = true := JfE.2 ⟨n1, by omega, hn, hn2⟩
  have hmk := Jmc ns n1 (by omega)
  simp only [hkk]
  generalize Ja ⟨n % 100, ns⟩ = mo at *
  have ho : mo.length ≤ 14 := by have := hmk.len; omega
  have hm32 := h32_by hm hm2
  have eok : ∀ (m' : List PV) (a : Int) (o : List PV), h32 m' = true → cBy o = true ∧ (opB o).length ≤ 65535 → eOk ⟨b, m', a, o⟩ = true := fun m' a o h1 h2 =>
    WE.2 ⟨(QK.1 hb).1, by show b.length ≤ _; omega, (h32_iff.1 h1).1, (h32_iff.1 h1).2, h2.1, h2.2⟩
  have hmo := Jmm hmk.cp hmk.sz (by omega)
  have he := eok m at1 mo hm32 hmo
  have hp3 := h32_by hp hp2
  have hnx : h32 (pu .u8 (nxP ⟨prev, ⟨b, m, at1, mo⟩⟩)) = true := h32_iff.2 ⟨JF _ _, by rw [JG]; exact Ym _⟩
  have hnl : (nxP ⟨prev, ⟨b, m, at1, mo⟩⟩).length = 32 := Ym _
  generalize nxP ⟨prev, ⟨b, m, at1, mo⟩⟩ = nx at *
  have hem : h32 (pu .u8 (emP ⟨kk key, host % 3, ⟨b, m, at1, mo⟩, pu .u8 nx⟩)) = true := h32_iff.2 ⟨JF _ _, by rw [JG]; exact Yn _⟩
  have hel : (emP ⟨kk key, host % 3, ⟨b, m, at1, mo⟩, pu .u8 nx⟩).length = 32 := Yn _
  obtain ⟨a1, a2⟩ := Jec host (m := 3) (by decide)
  have hin : kIn (host % 3) = true := by rw [GE]; simp only [QB, Bool.and_eq_true, decide_eq_true_eq]; omega
  have hC : emC ⟨kk key, host % 3, ⟨b, m, at1, mo⟩, pu .u8 nx, pu .u8 (emP ⟨kk key, host % 3, ⟨b, m, at1, mo⟩, pu .u8 nx⟩)⟩ = true := by
    rw [Jd4, Qf, hin, beq_self_eq_true]; rfl
  generalize emP ⟨kk key, host % 3, ⟨b, m, at1, mo⟩, pu .u8 nx⟩ = em at *
  have A : ∀ (ev : EV) (x y : List PV), eOk ev = true → h32 x = true → h32 y = true → (bif eOk ev && (h32 x && (h32 y && kO3 (kk key))) then
      bif eOk ev && (h32 x && (h32 y && kO3 (kk key))) then
        bif emC ⟨kk key, host % 3, ev, x, y⟩ == emC ⟨kk key, host % 3, ev, x, y⟩ then
          bif eOk ev then
            bif Jd .u8 (pu .u8 (Jg ev)) && true then
              bif eOk ev then
                bif Jd .u8 (List.take (Jg ev).length (pu .u8 (Jg ev))) && true then
                  k ⟨.sc (.bool (QZ (ByteArray.mk (Array.mk (Jl (false, pu .u8 (Jg ev)).2))) (ByteArray.mk (Array.mk (Jl ((Ent.vec false 5 false (pu .u8 (Jg ev))).nil, List.take (Jg ev).length (List.drop 0 (pu .u8 (Jg ev)))).2))))), [], []⟩
                else none
              else none
            else none
          else none
        else k ⟨.sc (.bool false), [], []⟩
      else none
    else none) = k ⟨.sc (.bool true), [], []⟩ := fun ev x y h1 h2 h3 => by
    have tk : List.take (Jg ev).length (pu .u8 (Jg ev)) = pu .u8 (Jg ev) := List.take_of_length_le (by simp)
    have hc : (eOk ev && (h32 x && (h32 y && kO3 (kk key)))) = true := by rw [h1, h2, h3, hK]; rfl
    simp only [tk, List.drop_zero]
    refine (Jb hc).trans ((Jb hc).trans ((Jb (beq_self_eq_true _)).trans ((Jb h1).trans ((Jb (by rw [JF]; rfl)).trans ((Jb h1).trans ((Jb (by rw [JF]; rfl)).trans ?_))))))
    rw [GK]
  have hsl : slB z b = true := Q3.2 ⟨hz, by omega⟩
  have hES : eS ⟨b, m, at1, mo, pu .u8 nx, pu .u8 em⟩ = true := Jeb.2 ⟨(QK.1 hb).1, h32_iff.1 hm32, ZF.2 ⟨List.all_eq_true.2 hmk.cp, by show mo.length ≤ _; omega⟩, h32_iff.1 hnx, h32_iff.1 hem⟩
  have hc0 : (eOk ⟨b, m, at1, mo⟩ && (h32 (pu .u8 nx) && (h32 (pu .u8 em) && kO3 (kk key)))) = true := by rw [he, hnx, hem, hK]; rfl
  have tk0 : List.take (Jg ⟨b, m, at1, mo⟩).length (pu .u8 (Jg ⟨b, m, at1, mo⟩)) = pu .u8 (Jg ⟨b, m, at1, mo⟩) := List.take_of_length_le (by simp)
  obtain ⟨i1, i2⟩ := Jec at1 (m := 32) (by decide)
  have hrng : (decide (0 ≤ at1 % 32) && decide (at1 % 32 < zi 32) && true) = true := by simp [zi]; omega
  have okw : ∀ n : Int, 0 < n → n < 1000000000000 → okW n = true := fun n h h2 => JyW h h2
  refine (Jx (by simp only [zi, decide_eq_false_iff_not]; omega)).trans ((Jb (okw _ (by decide) (by decide))).trans ((Jb (okw _ (by decide) (by decide))).trans ((Jb hns).trans ?_)))
  refine (Jb (by rw [hsl, he, hp3, hK]; rfl)).trans ((Jb (by rw [hin, he, hp3, hK]; rfl)).trans ((Jb (by rw [hES]; rfl)).trans ((Jx (by rw [Jhq hES]; rfl)).trans ?_)))
  refine (Jb he).trans ((Jb (by rw [JF]; rfl)).trans ((Jb he).trans ((Jb (by rw [tk0, JF]; rfl)).trans ((Jx (by rw [List.drop_zero, tk0, GK]; rfl)).trans ?_))))
  refine (Jb hc0).trans ((Jx (by rw [hC]; rfl)).trans ((Jb hc0).trans ((Jb hc0).trans ((Jx (by rw [beq_self_eq_true]; rfl)).trans ?_))))
  refine (Jb hc0).trans ((Jb hc0).trans ((Jx (by rw [beq_self_eq_true]; rfl)).trans ((Jb (okw _ (by decide) (by decide))).trans ?_)))
  cases (which % 5 == 0) with
  | true => exact (Jb rfl).trans (A _ _ _ (eok _ _ _ hm32 hmo) hnx hem)
  | false =>
  refine (Jx rfl).trans ?_
  cases (which % 5 == 1) with
  | true =>
    refine (Jb rfl).trans ((Jb (okw _ (by decide) (by decide))).trans ((Jb hrng).trans ((Jb ?_).trans ((Jb hrng).trans (A _ _ _ he (h32_set hnx _ _) hem)))))
    rw [Bool.and_true]
    exact Yq (l := pu .u8 nx) (JF _ _) (by rw [JG]; omega)
  | false =>
  refine (Jx rfl).trans ?_
  cases (which % 5 == 2) with
  | true =>
    refine (Jb rfl).trans ((Jb (okw _ (by decide) (by decide))).trans ((Jb hrng).trans ((Jb ?_).trans ((Jb hrng).trans (A _ _ _ he hnx (h32_set hem _ _))))))
    rw [Bool.and_true]
    exact Yq (l := pu .u8 em) (JF _ _) (by rw [JG]; omega)
  | false =>
  refine (Jx rfl).trans ?_
  cases (which % 5 == 3) with
  | true =>
    refine (Jb rfl).trans ((Jb (okw _ (by decide) (by decide))).trans ((Jb hrng).trans ((Jb ?_).trans ((Jb hrng).trans (A _ _ _ (eok _ _ _ (h32_set hm32 _ _) hmo) hnx hem)))))
    rw [Bool.and_true]
    exact Yq (l := m) (QK.1 hm).1 (by omega)
  | false =>
  refine (Jx rfl).trans ?_
  cases (which % 5 == 4) with
  | true =>
    refine (Jb rfl).trans ((Jb (by simp [Jj]; omega)).trans ((Jb (by simp [Jj]; omega)).trans (A _ _ _ (eok _ _ _ hm32 ?_) hnx hem)))
    have e : List.take (0 + mo.length + 1) (List.take (0 + mo.length) mo ++ [PV.st 99 [PV.sc (Value.int IntKind.i64 2), PV.sc (Value.int IntKind.i64 0), PV.sc (Value.string (ByteArray.mk (Array.mk (u8l [120]))))]]) = mo ++ [ptP (ByteArray.mk (Array.mk (u8l [120])))] := by
      rw [List.take_of_length_le (l := mo) (by omega)]; exact List.take_of_length_le (by simp)
    rw [e]
    refine Jmm (fun p hp => ?_) (fun p hp => ?_) (by simp; omega)
    · rcases List.mem_append.1 hp with h | h
      · exact hmk.cp p h
      · rw [List.mem_singleton.1 h]; rfl
    · rcases List.mem_append.1 hp with h | h
      · exact hmk.sz p h
      · rw [List.mem_singleton.1 h]; show (1 : Nat) ≤ 10; omega
  | false => exact (Jx rfl).trans (A _ _ _ he hnx hem)
noncomputable def Jht : List PV → List Ent → (Res → Option Res) → Option Res
  | [.ro 5 kz kf key, .sc (.int .i64 host), .ar 37 prev, .st 77 [.ro 5 z f b, .ar 37 m], .sc (.int .i64 at1), .sc (.int .i64 n), .ro 3 nz nf ns, .sc (.int .i64 which), .sc (.int .u8 by1)], [], k => bif byB key && ((byB prev && decide (prev.length = 32)) && (((!z || b.isEmpty) && byB b) && ((byB m && decide (m.length = 32)) && (Jd .i64 ns && decide (ns.length ≤ 9223372036854775807))))) then k ⟨.sc (.bool true), [], []⟩ else none
  | _, _, _ => none
noncomputable def JyZ : Sig := { own := [], run := Jht }
theorem Jy0 : Jk tau Try.prog 16 JyZ := JBp.of fun xs es k res hr => by
  change Jht xs es k = some res at hr
  unfold Jht at hr
  split at hr
  · rename_i kz kf key host prev z f b m at1 n nz nf ns which by1
    obtain ⟨hc, hr⟩ := JL hr
    simp only [Bool.and_eq_true, decide_eq_true_eq, Bool.or_eq_true, Bool.not_eq_true', List.isEmpty_iff] at hc
    obtain ⟨c1, ⟨c2, c3⟩, ⟨c4, c5⟩, ⟨c6, c7⟩, c8, c9⟩ := hc
    exact (Jmn kz kf key host prev z f b m at1 n nz nf ns which by1 c1 c2 c3 (fun h => c4.resolve_left (by rw [h]; decide)) c5 c6 c7 c8 c9 k).trans hr
  · cases hr
theorem Jhu : ∀ pvs, TyL tau 4 [29, 3, 37, 77, 3, 3, 55, 3, 5] pvs → JyZ.run pvs [] some = some ⟨.sc (.bool true), [], []⟩ := by
  intro pvs h
  obtain ⟨p1, r1, rfl, h1, hf⟩ := XF h
  obtain ⟨p2, r2, rfl, h2, hf⟩ := XF hf
  obtain ⟨p3, r3, rfl, h3, hf⟩ := XF hf
  obtain ⟨p4, r4, rfl, h4, hf⟩ := XF hf
  obtain ⟨p5, r5, rfl, h5, hf⟩ := XF hf
  obtain ⟨p6, r6, rfl, h6, hf⟩ := XF hf
  obtain ⟨p7, p8, p9, rfl, h7, h8, h9⟩ := Jz2 hf
  obtain ⟨kz, key, rfl, _, _, a1⟩ := JfI (n := 2) h1
  obtain ⟨host, rfl, _⟩ := Jea (n := 3) h2
  obtain ⟨prev, rfl, b1, b2⟩ := Ji9 (n := 2) h3
  obtain ⟨z, b, m, rfl, a4, _, a5, a6, a7⟩ := JjJ (n := 1) h4
  obtain ⟨at1, rfl, _⟩ := Jea (n := 3) h5
  obtain ⟨n, rfl, _⟩ := Jea (n := 3) h6
  obtain ⟨nz, ns, rfl, _, c1, c2⟩ := JoQ (n := 2) h7
  obtain ⟨which, rfl, _⟩ := Jea (n := 3) h8
  obtain ⟨by1, rfl, _⟩ := Jdd (n := 3) (by kernel_rfl : tau.und 5 = some (.int .u8)) h9
  refine Jb ?_
  have e1 : maxLen ≤ 9223372036854775807 := by decide
  simp only [a1, b1, b2, a5, a6, a7, c2, Bool.and_eq_true, decide_eq_true_eq, Bool.or_eq_true, Bool.not_eq_true', List.isEmpty_iff]
  refine ⟨trivial, ⟨trivial, trivial⟩, ⟨?_, trivial⟩, ⟨trivial, trivial⟩, trivial, by omega⟩
  cases z with
  | true => exact .inr (a4 rfl)
  | false => exact .inl rfl
end Go.Proofs.Ytcklhipdldpkhaa.Rx
