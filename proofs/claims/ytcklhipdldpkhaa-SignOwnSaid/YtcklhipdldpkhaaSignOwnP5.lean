/- What the functions of this law compute, and their plain laws. Conditions: none. -/
import Derived.Test.YtcklhipdldpkhaaSignOwnP4
namespace Go.Proofs.Ytcklhipdldpkhaa.Rx
open Go
set_option linter.unusedVariables false
set_option linter.unusedSimpArgs false
set_option maxRecDepth 100000
set_option maxHeartbeats 0
noncomputable def F15 : Fns := JG 53 Jxb (JG 49 JsY (JG 46 JsX (JG 45 Jyr (JG 44 Jyt (JG 43 s43 (JG 42 Jx2 (JG 36 Jwl (JG 21 Jr3 (F0)))))))))
theorem Jtk : Jx tau Try.prog F15 := (((((((((JE).add JpE Jtz).add Jwm JzH).add Jx3 JAp).add JAv JAu).add Jyu JAF).add Jys JAJ).add Jqw Jxj).add Jqx JxQ).add Jxc JzZ
def Jow : An := (.seq .leaf (.seq (.seq .leaf (.cond (.seq .leaf .leaf) .leaf)) (.seq (.seq .leaf (.cond (.seq .leaf .leaf) .leaf)) (.seq .leaf (.seq .leaf (.seq .leaf (.seq .leaf (.seq .leaf (.seq .leaf (.seq .leaf .leaf))))))))))
noncomputable def g15 (f : Nat) (key_z : Bool) (key_f : Bool) (key : List
  PV) (d_Author_D : Int) (d_Author_U : Int) (d_Id : Int) (d_Version : Int) (d_Hash : List
  PV) (d_Kind : Int) (d_Op_z : Bool) (d_Op_f : Bool) (d_Op : List PV) (d_Who_D : Int) (d_Who_U : Int) (ns_z : Bool) (ns_f : Bool) (ns : List PV) (by1 : Int) (k : Res → Option Res) : Option Res :=
  bif cOk d_Op then
    bif !JgJ d_Op then
      k (Res.mk (PV.sc (Value.bool true)) [] [])
    else bif Jbx 9 ns then
      bif dOk (DV.mk (d_Author_D % 3) (d_Author_U % 8) (d_Id % 1073741825) (d_Version % 1048577) d_Hash (gdK d_Kind) (gdO (GO.mk d_Kind 9 ns)) (gdW d_Kind d_Who_D 3) (gdW d_Kind d_Who_U 8)) then
        bif okW 2 then
          bif decide (0 ≤ (IntKind.i64.wrap (IntKind.i64.wrap (d_Author_D % 3 + 1) + by1 % 2)).tmod 3) && decide ((IntKind.i64.wrap (IntKind.i64.wrap (d_Author_D % 3 + 1) + by1 % 2)).tmod 3 < zi 3) &&
            true then
            bif PV.isRo 5
                (Jk (PV.st 31 [PV.ro 5 false false (kb 0 key), PV.ro 5 false false (kb 1 key), PV.ro 5 false false (kb 2 key)])
                  [((IntKind.i64.wrap (IntKind.i64.wrap (d_Author_D % 3 + 1) + by1 % 2)).tmod 3).toNat]) &&
              true then
              bif Je IntKind.u8
                    (Jk (PV.st 31 [PV.ro 5 false false (kb 0 key), PV.ro 5 false false (kb 1 key), PV.ro 5 false false (kb 2 key)])
                        [((IntKind.i64.wrap (IntKind.i64.wrap (d_Author_D % 3 + 1) + by1 % 2)).tmod 3).toNat]).els &&
                  decide
                    ((Jk (PV.st 31 [PV.ro 5 false false (kb 0 key), PV.ro 5 false false (kb 1 key), PV.ro 5 false false (kb 2 key)])
                            [((IntKind.i64.wrap (IntKind.i64.wrap (d_Author_D % 3 + 1) + by1 % 2)).tmod 3).toNat]).els.length ≤
                      1000000000) &&
                (Je IntKind.u8
                    (List.take
                      (dlB
                          (DV.mk (d_Author_D % 3) (d_Author_U % 8) (d_Id % 1073741825) (d_Version % 1048577) d_Hash (gdK d_Kind) (gdO (GO.mk d_Kind 9 ns)) (gdW d_Kind d_Who_D 3)
                            (gdW d_Kind d_Who_U 8))).length
                      (pu IntKind.u8
                        (dlB
                          (DV.mk (d_Author_D % 3) (d_Author_U % 8) (d_Id % 1073741825) (d_Version % 1048577) d_Hash (gdK d_Kind) (gdO (GO.mk d_Kind 9 ns)) (gdW d_Kind d_Who_D 3)
                            (gdW d_Kind d_Who_U 8))))) &&
                  decide
                    ((List.take
                          (dlB
                              (DV.mk (d_Author_D % 3) (d_Author_U % 8) (d_Id % 1073741825) (d_Version % 1048577) d_Hash (gdK d_Kind) (gdO (GO.mk d_Kind 9 ns)) (gdW d_Kind d_Who_D 3)
                                (gdW d_Kind d_Who_U 8))).length
                          (pu IntKind.u8
                            (dlB
                              (DV.mk (d_Author_D % 3) (d_Author_U % 8) (d_Id % 1073741825) (d_Version % 1048577) d_Hash (gdK d_Kind) (gdO (GO.mk d_Kind 9 ns)) (gdW d_Kind d_Who_D 3)
                                (gdW d_Kind d_Who_U 8))))).length ≤
                      1000000000)) then
                bif slB
                      (Ent.vec false 5 false
                          (pu IntKind.u8
                            (dlB
                              (DV.mk (d_Author_D % 3) (d_Author_U % 8) (d_Id % 1073741825) (d_Version % 1048577) d_Hash (gdK d_Kind) (gdO (GO.mk d_Kind 9 ns)) (gdW d_Kind d_Who_D 3)
                                (gdW d_Kind d_Who_U 8))))).nil
                      (List.take
                        (dlB
                            (DV.mk (d_Author_D % 3) (d_Author_U % 8) (d_Id % 1073741825) (d_Version % 1048577) d_Hash (gdK d_Kind) (gdO (GO.mk d_Kind 9 ns)) (gdW d_Kind d_Who_D 3)
                              (gdW d_Kind d_Who_U 8))).length
                        (List.drop 0
                          (pu IntKind.u8
                            (dlB
                              (DV.mk (d_Author_D % 3) (d_Author_U % 8) (d_Id % 1073741825) (d_Version % 1048577) d_Hash (gdK d_Kind) (gdO (GO.mk d_Kind 9 ns)) (gdW d_Kind d_Who_D 3)
                                (gdW d_Kind d_Who_U 8)))))) &&
                    byB
                      (List.take
                        (dlB
                            (DV.mk (d_Author_D % 3) (d_Author_U % 8) (d_Id % 1073741825) (d_Version % 1048577) d_Hash (gdK d_Kind) (gdO (GO.mk d_Kind 9 ns)) (gdW d_Kind d_Who_D 3)
                              (gdW d_Kind d_Who_U 8))).length
                        (pu IntKind.u8
                          (dlB
                            (DV.mk (d_Author_D % 3) (d_Author_U % 8) (d_Id % 1073741825) (d_Version % 1048577) d_Hash (gdK d_Kind) (gdO (GO.mk d_Kind 9 ns)) (gdW d_Kind d_Who_D 3)
                              (gdW d_Kind d_Who_U 8))))) &&
                  (h32
                      (pu IntKind.u8
                        (Qw
                          (Jf
                            (Jk (PV.st 31 [PV.ro 5 false false (kb 0 key), PV.ro 5 false false (kb 1 key), PV.ro 5 false false (kb 2 key)])
                                [((IntKind.i64.wrap (IntKind.i64.wrap (d_Author_D % 3 + 1) + by1 % 2)).tmod 3).toNat]).els)
                          (Jf
                            (List.take
                              (dlB
                                  (DV.mk (d_Author_D % 3) (d_Author_U % 8) (d_Id % 1073741825) (d_Version % 1048577) d_Hash (gdK d_Kind) (gdO (GO.mk d_Kind 9 ns)) (gdW d_Kind d_Who_D 3)
                                    (gdW d_Kind d_Who_U 8))).length
                              (pu IntKind.u8
                                (dlB
                                  (DV.mk (d_Author_D % 3) (d_Author_U % 8) (d_Id % 1073741825) (d_Version % 1048577) d_Hash (gdK d_Kind) (gdO (GO.mk d_Kind 9 ns)) (gdW d_Kind d_Who_D 3)
                                    (gdW d_Kind d_Who_U 8)))))))) &&
                    kO3 [PV.ro 5 false false (kb 0 key), PV.ro 5 false false (kb 1 key), PV.ro 5 false false (kb 2 key)]) then
                  bif dOk
                      (DV.mk (d_Author_D % 3) (d_Author_U % 8) (d_Id % 1073741825) (d_Version % 1048577) d_Hash (gdK d_Kind) (gdO (GO.mk d_Kind 9 ns)) (gdW d_Kind d_Who_D 3) (gdW d_Kind d_Who_U 8)) &&
                    kO3 [PV.ro 5 false false (kb 0 key), PV.ro 5 false false (kb 1 key), PV.ro 5 false false (kb 2 key)] then
                    bif decide (0 ≤ d_Author_D % 3) && decide (d_Author_D % 3 < zi 3) && true then
                      bif PV.isRo 5 (Jk (PV.st 31 [PV.ro 5 false false (kb 0 key), PV.ro 5 false false (kb 1 key), PV.ro 5 false false (kb 2 key)]) [(d_Author_D % 3).toNat]) && true then
                        bif Je IntKind.u8 (Jk (PV.st 31 [PV.ro 5 false false (kb 0 key), PV.ro 5 false false (kb 1 key), PV.ro 5 false false (kb 2 key)]) [(d_Author_D % 3).toNat]).els &&
                            decide
                              ((Jk (PV.st 31 [PV.ro 5 false false (kb 0 key), PV.ro 5 false false (kb 1 key), PV.ro 5 false false (kb 2 key)]) [(d_Author_D % 3).toNat]).els.length ≤ 1000000000) &&
                          (Je IntKind.u8
                              (List.take
                                (dlB
                                    (DV.mk (d_Author_D % 3) (d_Author_U % 8) (d_Id % 1073741825) (d_Version % 1048577) d_Hash (gdK d_Kind) (gdO (GO.mk d_Kind 9 ns)) (gdW d_Kind d_Who_D 3)
                                      (gdW d_Kind d_Who_U 8))).length
                                (pu IntKind.u8
                                  (dlB
                                    (DV.mk (d_Author_D % 3) (d_Author_U % 8) (d_Id % 1073741825) (d_Version % 1048577) d_Hash (gdK d_Kind) (gdO (GO.mk d_Kind 9 ns)) (gdW d_Kind d_Who_D 3)
                                      (gdW d_Kind d_Who_U 8))))) &&
                            decide
                              ((List.take
                                    (dlB
                                        (DV.mk (d_Author_D % 3) (d_Author_U % 8) (d_Id % 1073741825) (d_Version % 1048577) d_Hash (gdK d_Kind) (gdO (GO.mk d_Kind 9 ns)) (gdW d_Kind d_Who_D 3)
                                          (gdW d_Kind d_Who_U 8))).length
                                    (pu IntKind.u8
                                      (dlB
                                        (DV.mk (d_Author_D % 3) (d_Author_U % 8) (d_Id % 1073741825) (d_Version % 1048577) d_Hash (gdK d_Kind) (gdO (GO.mk d_Kind 9 ns)) (gdW d_Kind d_Who_D 3)
                                          (gdW d_Kind d_Who_U 8))))).length ≤
                                1000000000)) then
                          bif decide
                                    ((pu IntKind.u8
                                          (mcK
                                            (MK.mk [PV.ro 5 false false (kb 0 key), PV.ro 5 false false (kb 1 key), PV.ro 5 false false (kb 2 key)] (d_Author_D % 3)
                                              (dlB
                                                (DV.mk (d_Author_D % 3) (d_Author_U % 8) (d_Id % 1073741825) (d_Version % 1048577) d_Hash (gdK d_Kind) (gdO (GO.mk d_Kind 9 ns)) (gdW d_Kind d_Who_D 3)
                                                  (gdW d_Kind d_Who_U 8)))))).length =
                                      32) &&
                                  decide
                                    ((pu IntKind.u8
                                          (Qw (Jf (Jk (PV.st 31 [PV.ro 5 false false (kb 0 key), PV.ro 5 false false (kb 1 key), PV.ro 5 false false (kb 2 key)]) [(d_Author_D % 3).toNat]).els)
                                            (Jf
                                              (List.take
                                                (dlB
                                                    (DV.mk (d_Author_D % 3) (d_Author_U % 8) (d_Id % 1073741825) (d_Version % 1048577) d_Hash (gdK d_Kind) (gdO (GO.mk d_Kind 9 ns))
                                                      (gdW d_Kind d_Who_D 3) (gdW d_Kind d_Who_U 8))).length
                                                (pu IntKind.u8
                                                  (dlB
                                                    (DV.mk (d_Author_D % 3) (d_Author_U % 8) (d_Id % 1073741825) (d_Version % 1048577) d_Hash (gdK d_Kind) (gdO (GO.mk d_Kind 9 ns))
                                                      (gdW d_Kind d_Who_D 3) (gdW d_Kind d_Who_U 8)))))))).length =
                                      32) &&
                                Je IntKind.u8
                                  (pu IntKind.u8
                                    (mcK
                                      (MK.mk [PV.ro 5 false false (kb 0 key), PV.ro 5 false false (kb 1 key), PV.ro 5 false false (kb 2 key)] (d_Author_D % 3)
                                        (dlB
                                          (DV.mk (d_Author_D % 3) (d_Author_U % 8) (d_Id % 1073741825) (d_Version % 1048577) d_Hash (gdK d_Kind) (gdO (GO.mk d_Kind 9 ns)) (gdW d_Kind d_Who_D 3)
                                            (gdW d_Kind d_Who_U 8)))))) &&
                              Je IntKind.u8
                                (pu IntKind.u8
                                  (Qw (Jf (Jk (PV.st 31 [PV.ro 5 false false (kb 0 key), PV.ro 5 false false (kb 1 key), PV.ro 5 false false (kb 2 key)]) [(d_Author_D % 3).toNat]).els)
                                    (Jf
                                      (List.take
                                        (dlB
                                            (DV.mk (d_Author_D % 3) (d_Author_U % 8) (d_Id % 1073741825) (d_Version % 1048577) d_Hash (gdK d_Kind) (gdO (GO.mk d_Kind 9 ns)) (gdW d_Kind d_Who_D 3)
                                              (gdW d_Kind d_Who_U 8))).length
                                        (pu IntKind.u8
                                          (dlB
                                            (DV.mk (d_Author_D % 3) (d_Author_U % 8) (d_Id % 1073741825) (d_Version % 1048577) d_Hash (gdK d_Kind) (gdO (GO.mk d_Kind 9 ns)) (gdW d_Kind d_Who_D 3)
                                              (gdW d_Kind d_Who_U 8)))))))) &&
                            true then
                            bif Qy
                              (pu IntKind.u8
                                (mcK
                                  (MK.mk [PV.ro 5 false false (kb 0 key), PV.ro 5 false false (kb 1 key), PV.ro 5 false false (kb 2 key)] (d_Author_D % 3)
                                    (dlB
                                      (DV.mk (d_Author_D % 3) (d_Author_U % 8) (d_Id % 1073741825) (d_Version % 1048577) d_Hash (gdK d_Kind) (gdO (GO.mk d_Kind 9 ns)) (gdW d_Kind d_Who_D 3)
                                        (gdW d_Kind d_Who_U 8))))))
                              (pu IntKind.u8
                                (Qw (Jf (Jk (PV.st 31 [PV.ro 5 false false (kb 0 key), PV.ro 5 false false (kb 1 key), PV.ro 5 false false (kb 2 key)]) [(d_Author_D % 3).toNat]).els)
                                  (Jf
                                    (List.take
                                      (dlB
                                          (DV.mk (d_Author_D % 3) (d_Author_U % 8) (d_Id % 1073741825) (d_Version % 1048577) d_Hash (gdK d_Kind) (gdO (GO.mk d_Kind 9 ns)) (gdW d_Kind d_Who_D 3)
                                            (gdW d_Kind d_Who_U 8))).length
                                      (pu IntKind.u8
                                        (dlB
                                          (DV.mk (d_Author_D % 3) (d_Author_U % 8) (d_Id % 1073741825) (d_Version % 1048577) d_Hash (gdK d_Kind) (gdO (GO.mk d_Kind 9 ns)) (gdW d_Kind d_Who_D 3)
                                            (gdW d_Kind d_Who_U 8)))))))) then
                              bif soE
                                  (SO.mk [PV.ro 5 false false (kb 0 key), PV.ro 5 false false (kb 1 key), PV.ro 5 false false (kb 2 key)]
                                    (List.take
                                      (dlB
                                          (DV.mk (d_Author_D % 3) (d_Author_U % 8) (d_Id % 1073741825) (d_Version % 1048577) d_Hash (gdK d_Kind) (gdO (GO.mk d_Kind 9 ns)) (gdW d_Kind d_Who_D 3)
                                            (gdW d_Kind d_Who_U 8))).length
                                      (pu IntKind.u8
                                        (dlB
                                          (DV.mk (d_Author_D % 3) (d_Author_U % 8) (d_Id % 1073741825) (d_Version % 1048577) d_Hash (gdK d_Kind) (gdO (GO.mk d_Kind 9 ns)) (gdW d_Kind d_Who_D 3)
                                            (gdW d_Kind d_Who_U 8)))))
                                    (pu IntKind.u8
                                      (Qw
                                        (Jf
                                          (Jk (PV.st 31 [PV.ro 5 false false (kb 0 key), PV.ro 5 false false (kb 1 key), PV.ro 5 false false (kb 2 key)])
                                              [((IntKind.i64.wrap (IntKind.i64.wrap (d_Author_D % 3 + 1) + by1 % 2)).tmod 3).toNat]).els)
                                        (Jf
                                          (List.take
                                            (dlB
                                                (DV.mk (d_Author_D % 3) (d_Author_U % 8) (d_Id % 1073741825) (d_Version % 1048577) d_Hash (gdK d_Kind) (gdO (GO.mk d_Kind 9 ns)) (gdW d_Kind d_Who_D 3)
                                                  (gdW d_Kind d_Who_U 8))).length
                                            (pu IntKind.u8
                                              (dlB
                                                (DV.mk (d_Author_D % 3) (d_Author_U % 8) (d_Id % 1073741825) (d_Version % 1048577) d_Hash (gdK d_Kind) (gdO (GO.mk d_Kind 9 ns)) (gdW d_Kind d_Who_D 3)
                                                  (gdW d_Kind d_Who_U 8))))))))) ==
                                14 then
                                k (Res.mk (PV.sc (Value.bool true)) [] [])
                              else bif decide (0 ≤ d_Author_D % 3) && decide (d_Author_D % 3 < zi 3) && true then
                                bif PV.isRo 5 (Jk (PV.st 31 [PV.ro 5 false false (kb 0 key), PV.ro 5 false false (kb 1 key), PV.ro 5 false false (kb 2 key)]) [(d_Author_D % 3).toNat]) && true then
                                  bif Je IntKind.u8
                                        (Jk (PV.st 31 [PV.ro 5 false false (kb 0 key), PV.ro 5 false false (kb 1 key), PV.ro 5 false false (kb 2 key)]) [(d_Author_D % 3).toNat]).els &&
                                      decide
                                        ((Jk (PV.st 31 [PV.ro 5 false false (kb 0 key), PV.ro 5 false false (kb 1 key), PV.ro 5 false false (kb 2 key)]) [(d_Author_D % 3).toNat]).els.length ≤
                                          1000000000) &&
                                    (Je IntKind.u8
                                        (List.take
                                          (dlB
                                              (DV.mk (d_Author_D % 3) (d_Author_U % 8) (d_Id % 1073741825) (d_Version % 1048577) d_Hash (gdK d_Kind) (gdO (GO.mk d_Kind 9 ns)) (gdW d_Kind d_Who_D 3)
                                                (gdW d_Kind d_Who_U 8))).length
                                          (pu IntKind.u8
                                            (dlB
                                              (DV.mk (d_Author_D % 3) (d_Author_U % 8) (d_Id % 1073741825) (d_Version % 1048577) d_Hash (gdK d_Kind) (gdO (GO.mk d_Kind 9 ns)) (gdW d_Kind d_Who_D 3)
                                                (gdW d_Kind d_Who_U 8))))) &&
                                      decide
                                        ((List.take
                                              (dlB
                                                  (DV.mk (d_Author_D % 3) (d_Author_U % 8) (d_Id % 1073741825) (d_Version % 1048577) d_Hash (gdK d_Kind) (gdO (GO.mk d_Kind 9 ns))
                                                    (gdW d_Kind d_Who_D 3) (gdW d_Kind d_Who_U 8))).length
                                              (pu IntKind.u8
                                                (dlB
                                                  (DV.mk (d_Author_D % 3) (d_Author_U % 8) (d_Id % 1073741825) (d_Version % 1048577) d_Hash (gdK d_Kind) (gdO (GO.mk d_Kind 9 ns))
                                                    (gdW d_Kind d_Who_D 3) (gdW d_Kind d_Who_U 8))))).length ≤
                                          1000000000)) then
                                    bif decide
                                              ((pu IntKind.u8
                                                    (Qw
                                                      (Jf
                                                        (Jk (PV.st 31 [PV.ro 5 false false (kb 0 key), PV.ro 5 false false (kb 1 key), PV.ro 5 false false (kb 2 key)])
                                                            [((IntKind.i64.wrap (IntKind.i64.wrap (d_Author_D % 3 + 1) + by1 % 2)).tmod 3).toNat]).els)
                                                      (Jf
                                                        (List.take
                                                          (dlB
                                                              (DV.mk (d_Author_D % 3) (d_Author_U % 8) (d_Id % 1073741825) (d_Version % 1048577) d_Hash (gdK d_Kind) (gdO (GO.mk d_Kind 9 ns))
                                                                (gdW d_Kind d_Who_D 3) (gdW d_Kind d_Who_U 8))).length
                                                          (pu IntKind.u8
                                                            (dlB
                                                              (DV.mk (d_Author_D % 3) (d_Author_U % 8) (d_Id % 1073741825) (d_Version % 1048577) d_Hash (gdK d_Kind) (gdO (GO.mk d_Kind 9 ns))
                                                                (gdW d_Kind d_Who_D 3) (gdW d_Kind d_Who_U 8)))))))).length =
                                                32) &&
                                            decide
                                              ((pu IntKind.u8
                                                    (Qw
                                                      (Jf
                                                        (Jk (PV.st 31 [PV.ro 5 false false (kb 0 key), PV.ro 5 false false (kb 1 key), PV.ro 5 false false (kb 2 key)]) [(d_Author_D % 3).toNat]).els)
                                                      (Jf
                                                        (List.take
                                                          (dlB
                                                              (DV.mk (d_Author_D % 3) (d_Author_U % 8) (d_Id % 1073741825) (d_Version % 1048577) d_Hash (gdK d_Kind) (gdO (GO.mk d_Kind 9 ns))
                                                                (gdW d_Kind d_Who_D 3) (gdW d_Kind d_Who_U 8))).length
                                                          (pu IntKind.u8
                                                            (dlB
                                                              (DV.mk (d_Author_D % 3) (d_Author_U % 8) (d_Id % 1073741825) (d_Version % 1048577) d_Hash (gdK d_Kind) (gdO (GO.mk d_Kind 9 ns))
                                                                (gdW d_Kind d_Who_D 3) (gdW d_Kind d_Who_U 8)))))))).length =
                                                32) &&
                                          Je IntKind.u8
                                            (pu IntKind.u8
                                              (Qw
                                                (Jf
                                                  (Jk (PV.st 31 [PV.ro 5 false false (kb 0 key), PV.ro 5 false false (kb 1 key), PV.ro 5 false false (kb 2 key)])
                                                      [((IntKind.i64.wrap (IntKind.i64.wrap (d_Author_D % 3 + 1) + by1 % 2)).tmod 3).toNat]).els)
                                                (Jf
                                                  (List.take
                                                    (dlB
                                                        (DV.mk (d_Author_D % 3) (d_Author_U % 8) (d_Id % 1073741825) (d_Version % 1048577) d_Hash (gdK d_Kind) (gdO (GO.mk d_Kind 9 ns))
                                                          (gdW d_Kind d_Who_D 3) (gdW d_Kind d_Who_U 8))).length
                                                    (pu IntKind.u8
                                                      (dlB
                                                        (DV.mk (d_Author_D % 3) (d_Author_U % 8) (d_Id % 1073741825) (d_Version % 1048577) d_Hash (gdK d_Kind) (gdO (GO.mk d_Kind 9 ns))
                                                          (gdW d_Kind d_Who_D 3) (gdW d_Kind d_Who_U 8)))))))) &&
                                        Je IntKind.u8
                                          (pu IntKind.u8
                                            (Qw (Jf (Jk (PV.st 31 [PV.ro 5 false false (kb 0 key), PV.ro 5 false false (kb 1 key), PV.ro 5 false false (kb 2 key)]) [(d_Author_D % 3).toNat]).els)
                                              (Jf
                                                (List.take
                                                  (dlB
                                                      (DV.mk (d_Author_D % 3) (d_Author_U % 8) (d_Id % 1073741825) (d_Version % 1048577) d_Hash (gdK d_Kind) (gdO (GO.mk d_Kind 9 ns))
                                                        (gdW d_Kind d_Who_D 3) (gdW d_Kind d_Who_U 8))).length
                                                  (pu IntKind.u8
                                                    (dlB
                                                      (DV.mk (d_Author_D % 3) (d_Author_U % 8) (d_Id % 1073741825) (d_Version % 1048577) d_Hash (gdK d_Kind) (gdO (GO.mk d_Kind 9 ns))
                                                        (gdW d_Kind d_Who_D 3) (gdW d_Kind d_Who_U 8)))))))) &&
                                      true then
                                      k (Res.mk
                                        (PV.sc
                                          (Value.bool
                                            (Qy
                                              (pu IntKind.u8
                                                (Qw
                                                  (Jf
                                                    (Jk (PV.st 31 [PV.ro 5 false false (kb 0 key), PV.ro 5 false false (kb 1 key), PV.ro 5 false false (kb 2 key)])
                                                        [((IntKind.i64.wrap (IntKind.i64.wrap (d_Author_D % 3 + 1) + by1 % 2)).tmod 3).toNat]).els)
                                                  (Jf
                                                    (List.take
                                                      (dlB
                                                          (DV.mk (d_Author_D % 3) (d_Author_U % 8) (d_Id % 1073741825) (d_Version % 1048577) d_Hash (gdK d_Kind) (gdO (GO.mk d_Kind 9 ns))
                                                            (gdW d_Kind d_Who_D 3) (gdW d_Kind d_Who_U 8))).length
                                                      (pu IntKind.u8
                                                        (dlB
                                                          (DV.mk (d_Author_D % 3) (d_Author_U % 8) (d_Id % 1073741825) (d_Version % 1048577) d_Hash (gdK d_Kind) (gdO (GO.mk d_Kind 9 ns))
                                                            (gdW d_Kind d_Who_D 3) (gdW d_Kind d_Who_U 8))))))))
                                              (pu IntKind.u8
                                                (Qw
                                                  (Jf (Jk (PV.st 31 [PV.ro 5 false false (kb 0 key), PV.ro 5 false false (kb 1 key), PV.ro 5 false false (kb 2 key)]) [(d_Author_D % 3).toNat]).els)
                                                  (Jf
                                                    (List.take
                                                      (dlB
                                                          (DV.mk (d_Author_D % 3) (d_Author_U % 8) (d_Id % 1073741825) (d_Version % 1048577) d_Hash (gdK d_Kind) (gdO (GO.mk d_Kind 9 ns))
                                                            (gdW d_Kind d_Who_D 3) (gdW d_Kind d_Who_U 8))).length
                                                      (pu IntKind.u8
                                                        (dlB
                                                          (DV.mk (d_Author_D % 3) (d_Author_U % 8) (d_Id % 1073741825) (d_Version % 1048577) d_Hash (gdK d_Kind) (gdO (GO.mk d_Kind 9 ns))
                                                            (gdW d_Kind d_Who_D 3) (gdW d_Kind d_Who_U 8)))))))))))
                                        [] [])
                                    else none
                                  else none
                                else none
                              else none
                            else none
                          else none
                        else none
                      else none
                    else none
                  else none
                else none
              else none
            else none
          else none
        else none
      else none
    else none
  else none
theorem e15 (f : Nat) (key_z : Bool) (key_f : Bool) (key : List PV) (d_Author_D : Int) (d_Author_U : Int) (d_Id : Int) (d_Version : Int) (d_Hash : List PV) (d_Kind : Int) (d_Op_z : Bool) (d_Op_f : Bool) (d_Op : List PV) (d_Who_D : Int) (d_Who_U : Int) (ns_z : Bool) (ns_f : Bool) (ns : List PV) (by1 : Int) (k : Res → Option Res) : JM tau F15 Try.f15 (Try.f15.body.get!) Jow [.ro] 0 [.ro 5 key_z key_f key, .st 73 [.st 45 [.sc (.int .i64 d_Author_D), .sc (.int .i64 d_Author_U)], .sc (.int .i64 d_Id), .sc (.int .i64 d_Version), .ar 37 d_Hash, .sc (.int .i64 d_Kind), .ro 99 d_Op_z d_Op_f d_Op, .st 45 [.sc (.int .i64 d_Who_D), .sc (.int .i64 d_Who_U)]], .ro 3 ns_z ns_f ns, .sc (.int .i64 by1)] [] k = g15 f key_z key_f key d_Author_D d_Author_U d_Id d_Version d_Hash d_Kind d_Op_z d_Op_f d_Op d_Who_D d_Who_U ns_z ns_f ns by1 k := by kernel_rfl
theorem JAL (f : Nat) : Jg (Try.f15.body.get!) Jow = [] := by kernel_rfl
theorem JAM (f : Nat) : ∀ q ∈ Jg (Try.f15.body.get!) Jow, q.Ok tau Try.prog 0 := by
  rw [JAL f]; intro q hq; cases hq
theorem Jtl : Try.prog.funcs[15]? = some Try.f15 := by kernel_rfl
theorem JAN : Try.f15.body = some (Try.f15.body.get!) := by kernel_rfl
noncomputable def Jl0 : List PV → List Ent → (Res → Option Res) → Option Res
  | [.ro 5 key_z key_f key, .st 73 [.st 45 [.sc (.int .i64 d_Author_D), .sc (.int .i64 d_Author_U)], .sc (.int .i64 d_Id), .sc (.int .i64 d_Version), .ar 37 d_Hash, .sc (.int .i64 d_Kind), .ro 99 d_Op_z d_Op_f d_Op, .st 45 [.sc (.int .i64 d_Who_D), .sc (.int .i64 d_Who_U)]], .ro 3 ns_z ns_f ns, .sc (.int .i64 by1)], [], k => g15 0 key_z key_f key d_Author_D d_Author_U d_Id d_Version d_Hash d_Kind d_Op_z d_Op_f d_Op d_Who_D d_Who_U ns_z ns_f ns by1 k
  | _, _, _ => none
noncomputable def s15 : Sig := { own := [], run := Jl0 }
theorem JAO : Jh tau Try.prog 15 s15 := JY Jq Jtk Jr Jtl JAN Jow [.ro] 0 [] Jl0 (JAM 0) fun xs es k res hr => by
  unfold Jl0 at hr
  split at hr
  · exact ⟨rfl, 0, (e15 0 _ _ _ _ _ _ _ _ _ _ _ _ _ _ _ _ _ _  _).trans hr⟩
  · cases hr

-- FN ref4.Same
structure O2 where
  (a b : List PV)


-- FN ref8.Same | ref9.Same
structure DD where
  (a b : DV)
structure EW where
  (b m : List PV) (at1 : Int) (o h mc : List PV)
structure EE where
  (a b : EW)

-- FN wire.Bytes
structure WM where
  (l : List PV) (c : C13) (b : List PV)

-- FN
noncomputable def kk (key : List PV) : List PV := [.ro 5 false false (kb 0 key), .ro 5 false false (kb 1 key), .ro 5 false false (kb 2 key)]
theorem Jl1 {key : List PV} (h : byB key = true) : kO3 (kk key) = true := by
  have hkk : ∀ i, kOk (kb i key) = true := fun i => Jh6 i (Q9.1 h).1
  exact JdR.2 ⟨hkk 0, hkk 1, hkk 2⟩
theorem JqH {key : List PV} (h : byB key = true) {d : Int} (h0 : 0 ≤ d) (h3 : d < 3) :
    PV.isRo 5 (Jk (PV.st 31 (kk key)) [d.toNat]) = true ∧ (Jk (PV.st 31 (kk key)) [d.toNat]).els = QD ⟨kk key, d⟩ ∧ Je .u8 (QD ⟨kk key, d⟩) = true ∧ (QD ⟨kk key, d⟩).length ≤ 1000000000 := by
  have hin : QL d 2 = true := by simp only [QL, Bool.and_eq_true, decide_eq_true_eq]; omega
  have hK := Jl1 h
  obtain ⟨q1, q2⟩ := JsW hK hin
  obtain ⟨q3, q4⟩ := JdT hK d
  exact ⟨q1, q2, q3, q4⟩
theorem Jtm {x : SO} (h : dE x.b = 0) : soE x = bif mcK ⟨x.l, dF 0 x.b, Jf x.b⟩ == Jf x.m then 0 else 14 := by
  rw [JdS, ZD, h]
  have h1 : kIn (dF 0 x.b) = true := by rw [JdJ]; exact Jqv h
  rw [h1]; rfl
-- FN law9.SignOwn
theorem Jl2 (kz kf : Bool) (key : List PV) (d : DV) (oz of : Bool) (nz nf : Bool) (ns : List PV) (by1 : Int) (hk : byB key = true) (hh : byB d.h = true) (hh2 : d.h.length = 32) (ho : cOk d.o = true) (hn : Je .i64 ns = true) (hn2 : ns.length ≤ 9223372036854775807) (k : Res → Option Res) :
    g15 0 kz kf key d.ad d.au d.id d.ve d.h d.kd oz of d.o d.wd d.wu nz nf ns by1 k = k ⟨.sc (.bool true), [], []⟩ := by
  unfold g15
  have hkk : [PV.ro 5 false false (kb 0 key), .ro 5 false false (kb 1 key), .ro 5 false false (kb 2 key)] = kk key := rfl
  have hG : DV.mk (d.ad % 3) (d.au % 8) (d.id % 1073741825) (d.ve % 1048577) d.h (gdK d.kd) (gdO ⟨d.kd, 9, ns⟩) (gdW d.kd d.wd 3) (gdW d.kd d.wu 8) = gdV d 9 ns := rfl
  simp only [hkk, hG]
  have hK := Jl1 hk
  have hns : Jbx 9 ns = true := Jby.2 ⟨by decide, by decide, hn, hn2⟩
  have hok := Jti (d := d) (h32_by hh hh2) hns
  have hck := Jtj (d := d) hns
  have hgh : (gdV d 9 ns).h = d.h := rfl
  have hga : (gdV d 9 ns).ad = d.ad % 3 := rfl
  generalize gdV d 9 ns = G at *
  obtain ⟨t1, t2⟩ := Jg1 hok (by rw [hgh]; exact hh) hck
  have hF : dF 0 (pu .u8 (dlB G)) = d.ad % 3 := by rw [(Jbu t1 t2 (by rw [hgh]; exact (Q9.1 hh).1)).1, hga]
  obtain ⟨a1, a2⟩ := Wd d.ad (m := 3) (by decide)
  obtain ⟨b1, b2⟩ := Wd by1 (m := 2) (by decide)
  have w1 : IntKind.i64.wrap (d.ad % 3 + 1) = d.ad % 3 + 1 := wrap_i64 (by omega) (by omega)
  have w2 : IntKind.i64.wrap (d.ad % 3 + 1 + by1 % 2) = d.ad % 3 + 1 + by1 % 2 := wrap_i64 (by omega) (by omega)
  have o1 := Int.tmod_nonneg 3 (show 0 ≤ d.ad % 3 + 1 + by1 % 2 by omega)
  have o2 := Int.tmod_lt_of_pos (d.ad % 3 + 1 + by1 % 2) (show (0 : Int) < 3 by decide)
  rw [w1, w2]
  generalize (d.ad % 3 + 1 + by1 % 2).tmod 3 = oth at *
  generalize d.ad % 3 = ad at *
  have tk : List.take (dlB G).length (pu .u8 (dlB G)) = pu .u8 (dlB G) := List.take_of_length_le (by simp)
  obtain ⟨q1, q2, q3, q4⟩ := JqH hk a1 a2
  obtain ⟨r1, r2, r3, r4⟩ := JqH hk o1 o2
  have hsm := GB hok
  have hM : ∀ i, Qw (Jf (QD ⟨kk key, i⟩)) (dlB G) = mcK ⟨kk key, i, dlB G⟩ := fun i => by rw [GA]
  simp only [tk, List.drop_zero, q1, q2, r1, r2, Qv, hM, JI, Yf, JV]
  by_cases hf : ¬ JgJ d.o = true
  · exact (Ja ho).trans (Ja (by rw [Bool.eq_false_iff.2 hf]; rfl))
  have hf := Decidable.not_not.1 hf
  refine (Ja ho).trans ((JA (by rw [hf]; rfl)).trans ((Ja hns).trans ((Ja hok).trans ((Ja (JqG (by decide) (by decide))).trans ((Ja (by simp [zi]; omega)).trans ((Ja rfl).trans ((Ja (by rw [r3]; simp; omega)).trans ?_)))))))
  refine (Ja ?_).trans ((Ja (by rw [hok, hK]; rfl)).trans ((Ja (by simp [zi]; omega)).trans ((Ja rfl).trans ((Ja (by rw [q3]; simp; omega)).trans ((Ja (by simp)).trans ((Ja (G6 (JV _ _))).trans ?_))))))
  · rw [JlJ G (by rw [hgh]; exact hh), hK, (h32_iff.2 ⟨JV _ _, by rw [JI]; exact Yf _⟩ : h32 (pu .u8 (mcK ⟨kk key, oth, dlB G⟩)) = true), (Q8.2 ⟨fun h => (by cases h), by rw [JI]; omega⟩ : slB (Ent.vec false 5 false (pu .u8 (dlB G))).nil (pu .u8 (dlB G)) = true)]; rfl
  have hE := Jtm (x := ⟨kk key, pu .u8 (dlB G), pu .u8 (mcK ⟨kk key, oth, dlB G⟩)⟩) t1
  simp only [hF, Qv] at hE
  rw [hE]
  cases hc : (mcK ⟨kk key, ad, dlB G⟩ == mcK ⟨kk key, oth, dlB G⟩) with
  | false => exact Ja rfl
  | true =>
    rw [beq_iff_eq.1 hc]
    refine (JA rfl).trans ((Ja (by simp [zi]; omega)).trans ((Ja rfl).trans ((Ja (by rw [q3]; simp; omega)).trans ((Ja (by simp)).trans ?_))))
    rw [G6 (JV _ _)]
noncomputable def Jhd : List PV → List Ent → (Res → Option Res) → Option Res
  | [.ro 5 kz kf key, .st 73 [.st 45 [.sc (.int .i64 ad), .sc (.int .i64 au)], .sc (.int .i64 id1), .sc (.int .i64 ve), .ar 37 h, .sc (.int .i64 kd), .ro 99 oz of o, .st 45 [.sc (.int .i64 wd), .sc (.int .i64 wu)]], .ro 3 nz nf ns, .sc (.int .i64 by1)], [], k => bif byB key && ((byB h && decide (h.length = 32)) && (cOk o && (Je .i64 ns && decide (ns.length ≤ 9223372036854775807)))) then k ⟨.sc (.bool true), [], []⟩ else none
  | _, _, _ => none
noncomputable def Jyv : Sig := { own := [], run := Jhd }
theorem Jyw : Jh tau Try.prog 15 Jyv := JAO.of fun xs es k res hr => by
  change Jhd xs es k = some res at hr
  unfold Jhd at hr
  split at hr
  · rename_i kz kf key ad au id1 ve h kd oz of o wd wu nz nf ns by1
    obtain ⟨hc, hr⟩ := JH hr
    simp only [Bool.and_eq_true, decide_eq_true_eq] at hc
    obtain ⟨c1, ⟨c2, c3⟩, c4, c5, c6⟩ := hc
    exact (Jl2 kz kf key ⟨ad, au, id1, ve, h, kd, o, wd, wu⟩ oz of nz nf ns by1 c1 c2 c3 c4 c5 c6 k).trans hr
  · cases hr
theorem Jhe : ∀ pvs, TyL tau 4 [29, 73, 55, 3] pvs → Jyv.run pvs [] some = some ⟨.sc (.bool true), [], []⟩ := by
  intro pvs h
  obtain ⟨p1, r1, rfl, h1, hf⟩ := Xz h
  obtain ⟨p3, p4, p5, rfl, h3, h4, h5⟩ := JvY hf
  obtain ⟨kz, key, rfl, _, _, a1⟩ := JlV (n := 2) h1
  obtain ⟨ad, au, id1, ve, hs, kd, z, o, wd, wu, rfl, a2, a3, _, a4, a5⟩ := JlW (n := 0) h3
  obtain ⟨nz, ns, rfl, _, a6, a7⟩ := Jou (n := 2) h4
  obtain ⟨x, rfl, _⟩ := Zk (n := 3) h5
  refine Ja ?_
  have e1 : maxLen ≤ 9223372036854775807 := by decide
  simp only [a1, a2, a3, a7, Bool.and_eq_true, decide_eq_true_eq]
  exact ⟨trivial, ⟨trivial, trivial⟩, VY.2 ⟨a5, by omega⟩, trivial, by omega⟩
end Go.Proofs.Ytcklhipdldpkhaa.Rx
