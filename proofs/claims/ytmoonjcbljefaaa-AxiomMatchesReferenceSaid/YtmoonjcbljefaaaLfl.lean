/- Written by gen.py: what is left to show of each function. One operation after the other on a memory, and the law of sequential executions: the functions compute what they should. Changes of graphs and tests, and the law of the reference: the functions compute what they should. The law of the reference. -/
import Derived.Test.YtmoonjcbljefaaaLfk
set_option linter.unusedVariables false
set_option linter.unusedSimpArgs false
namespace Go.User
open Go.Proofs Go.Lf
set_option maxRecDepth 100000
theorem vc14 : funI C14 (stpP C14) S14 L14 Try.f14 = (
let q0 : Int := (0 : Int);
let q1 : Nat := (100 : Nat);
let q2 : Prop := True ∧ True ∧ True;
let q3 : Prop := q2 ∧ True;
let q4 : Prop := True ∧ q2;
let q5 : Prop := True ∧ q4;
let q6 : Prop := True ∧ q5;
let q7 : Prop := True ∧ True ∧ q6;
let q8 : Prop := (True ∧ True) ∧ True ∧ True;
let q9 : Prop := (True ∧ True) ∧ True;
let q10 : List (List Int) := ([] : List tI.slice.den);
let q11 : List Int × Unit := (([] : List tI.den), ());
let q12 : List (Int × (Int × Int × Int × Unit) × Int × Unit) × List Int × List (List Int) × List Int × Unit := (([] : List tLEv.den), ([] : List tI.den), q10, q11);
let q13 : Prop := q12 = q12;
let q14 : List (List Int) × List Int × Unit := (([] : List tI.den) :: ([] : List tI.den) :: ([] : List tI.den) :: q10, q11);
let q15 : List Int × List (List Int) × List Int × Unit := (([] : List tI.den), q14);
let q16 : Int := (1 : Int);
let q17 : Int := (-1 : tI.den);
let q18 : Prop := q4 ∧ True;
let q19 : List Int := -q16 :: ([] : List tI.den);
let q20 : List Step := Step.fst :: ([] : List Step);
let q21 : List Step := Step.snd :: q20;
let q22 : List Step := List.append._f (([] : List Step)) PUnit.unit q21;
let q23 : Int × Unit := (q0, ());
let q24 : Int × (Int × Int × Int × Unit) × Int × Unit := (q0, (q0, q0, q23), q23);
let q25 : List Step := Step.snd :: q21;
let q26 : List Step := List.append._f (([] : List Step)) PUnit.unit (Step.snd :: q25);
let q27 : Prop := Step.snd = Step.snd ∧ Step.snd = Step.snd ∧ Step.fst = Step.fst ∧ True;
∀ (x : (List (List (Int × Int × Int × Unit)) × Unit) × List Int × Unit),
  let q28 : List (Int × (Int × Int × Int × Unit) × Int × Unit) := Sp.evs q0 x.1.1;
  let q29 : Nat := q28.length;
  let q30 : Nat := x.1.1.length;
  let q31 : Prop := x.2.1 = x.2.1;
  let q32 : Prop := x.1 = x.1;
  let q33 : List (Int × (Int × Int × Int × Unit) × Int × Unit) × List Int × List (List Int) × List Int × Unit := (q28, q15);
  let q34 : Prop := q31 ∧ q32 ∧ q13 ∧ q33 = q33 ∧ True;
  let q35 : List Int := Sp.enN x.1.1 q30;
  (q29 ≤ q1 ∧ ∀ (x : Sp.LEv), x ∈ q28 → inN x.2.1.2.1 (3 : Nat)) ∧ q30 ≤ q1 →
    dFact (((Ty.int IntKind.i64).prod ((Ty.int IntKind.i64).prod ((Ty.int IntKind.i64).prod Ty.unit))).slice.slice.prod Ty.unit) x.1 ∧ dFact (Ty.int IntKind.u8).slice x.2.1 ∧ True →
      q3 ∧
        ((True ∧ q29 ≤ (1000 : Nat) ∧ q7) ∧ True ∧ True) ∧
          q8 ∧
            q8 ∧
              q9 ∧
                q9 ∧
                  (∃ (x_1 : Nat), x_1 ≤ q30 ∧ q0 = (↑x_1 : Int) ∧ q0 = (↑(Sp.evs q0 (List.take x_1 x.1.1)).length : Int) ∧ ([] : List tI.den) = Sp.nxN x.1.1 x_1 ∧ ([] : List tI.den) = Sp.enN x.1.1 x_1 ∧ q34) ∧
                    ∀ (x_1 : Nat),
                      let q36 : Int := (↑(Sp.evs q0 (List.take x_1 x.1.1)).length : Int);
                      let q37 : List Int := Sp.nxN x.1.1 x_1;
                      let q38 : List Int := Sp.enN x.1.1 x_1;
                      let q39 : Bool := decide ((↑x_1 : Int) < (↑q30 : Int));
                      let q40 : List Int := q36 :: ([] : List tI.den);
                      let q41 : Int := q36 + (↑(List.length (x.1.1.getD (↑x_1 : Int).toNat (([] : List tLOp.den)))) : Int);
                      let q42 : Nat := q38.length;
                      let q43 : List Int := q41 :: ([] : List tI.den);
                      let q44 : Int := (↑x_1 : Int) + q16;
                      let q45 : Prop := q38 = q38;
                      let q46 : Prop := q36 = q36;
                      let q47 : Prop := q45 ∧ q46 ∧ True;
                      let q48 : Prop := q31 ∧ q32 ∧ q13 ∧ q37 = q37 ∧ q47;
                      let q49 : Prop := q31 ∧ q32 ∧ q13 ∧ q47;
                      x_1 ≤ q30 →
                        dFact (Ty.int IntKind.i64) (↑x_1 : Int) ∧ dFact (Ty.int IntKind.i64) q36 ∧ dFact (Ty.int IntKind.i64).slice q37 ∧ dFact (Ty.int IntKind.i64).slice q38 ∧ True →
                          (q6 ∧ True) ∧
                            (q39 = true → (q4 ∧ (↑(q37.length + q40.length) : Int) ≤ maxNew ∧ True ∧ True) ∧ ((True ∧ True ∧ True ∧ True ∧ inN (↑x_1 : Int) q30 ∧ True ∧ True ∧ inK IntKind.i64 q41 ∧ True ∧ True) ∧ True) ∧ (q4 ∧ (↑(q42 + q43.length) : Int) ≤ maxNew ∧ True ∧ True) ∧ ((True ∧ inK IntKind.i64 q44 ∧ True ∧ True) ∧ True) ∧ ∃ (y : Nat), y ≤ q30 ∧ q30 - y < q30 - x_1 ∧ q44 = (↑y : Int) ∧ q41 = (↑(Sp.evs q0 (List.take y x.1.1)).length : Int) ∧ q37 ++ q40 = Sp.nxN x.1.1 y ∧ q38 ++ q43 = Sp.enN x.1.1 y ∧ q34) ∧
                              (q39 = false →
                                q9 ∧
                                  (∃ (x : Nat), x ≤ q29 ∧ q0 = (↑x : Int) ∧ q33 = (q28, List.replicate x q17, q14) ∧ q48) ∧
                                    ∀ (x_2 : Nat),
                                      let q50 : List Int := List.replicate x_2 q17;
                                      let q51 : List (Int × (Int × Int × Int × Unit) × Int × Unit) × List Int × List (List Int) × List Int × Unit := (q28, q50, q14);
                                      let q52 : Bool := decide ((↑x_2 : Int) < q36);
                                      let q53 : Int := (↑x_2 : Int) + q16;
                                      x_2 ≤ q29 →
                                        dFact (Ty.int IntKind.i64) (↑x_2 : Int) ∧ dFact (((Ty.int IntKind.i64).prod (((Ty.int IntKind.i64).prod ((Ty.int IntKind.i64).prod ((Ty.int IntKind.i64).prod Ty.unit))).prod ((Ty.int IntKind.i64).prod Ty.unit))).slice.prod ((Ty.int IntKind.i64).slice.prod ((Ty.int IntKind.i64).slice.slice.prod ((Ty.int IntKind.i64).slice.prod Ty.unit)))) q51 ∧ True →
                                          q18 ∧
                                            (q52 = true → (q4 ∧ (↑(q50.length + q19.length) : Int) ≤ maxNew ∧ True ∧ q22 = q22 ∧ True) ∧ ((True ∧ inK IntKind.i64 q53 ∧ True ∧ True) ∧ True) ∧ ∃ (y : Nat), y ≤ q29 ∧ q29 - y < q29 - x_2 ∧ q53 = (↑y : Int) ∧ (q28, q50 ++ q19, q14) = (q28, List.replicate y q17, q14) ∧ q48) ∧
                                              (q52 = false →
                                                q9 ∧
                                                  (∃ (x_3 : Nat),
                                                      let q54 : List Int × List (Int × (Int × Int × Int × Unit) × Int × Unit) × List Int × List (List Int) × List Int := Sp.runN x.1.1 x.2.1 x_3;
                                                      let q55 : List (Int × (Int × Int × Int × Unit) × Int × Unit) × List Int × List (List Int) × List Int := q54.2;
                                                      let q56 : List Int × List (List Int) × List Int := q55.2;
                                                      let q57 : List (List Int) × List Int := q56.2;
                                                      x_3 ≤ q29 ∧ q0 = (↑x_3 : Int) ∧ q37 = q54.1 ∧ q51 = (q55.1, q56.1, q57.1, q57.2, ()) ∧ q49) ∧
                                                    ∀ (x_3 : Nat),
                                                      let q58 : List Int × List (Int × (Int × Int × Int × Unit) × Int × Unit) × List Int × List (List Int) × List Int := Sp.runN x.1.1 x.2.1 x_3;
                                                      let q59 : List Int := q58.1;
                                                      let q60 : List (Int × (Int × Int × Int × Unit) × Int × Unit) × List Int × List (List Int) × List Int := q58.2;
                                                      let q61 : List (Int × (Int × Int × Int × Unit) × Int × Unit) := q60.1;
                                                      let q62 : List Int × List (List Int) × List Int := q60.2;
                                                      let q63 : List Int := q62.1;
                                                      let q64 : List (List Int) × List Int := q62.2;
                                                      let q65 : List (List Int) := q64.1;
                                                      let q66 : List Int := q64.2;
                                                      let q67 : List Int × Unit := (q66, ());
                                                      let q68 : List (List Int) × List Int × Unit := (q65, q67);
                                                      let q69 : List (Int × (Int × Int × Int × Unit) × Int × Unit) × List Int × List (List Int) × List Int × Unit := (q61, q63, q68);
                                                      let q70 : Bool := decide ((↑x_3 : Int) < q36);
                                                      let q71 : Nat := q59.length;
                                                      let q72 : Prop := q31 ∧ q32 ∧ q13 ∧ q69 = q69 ∧ q59 = q59 ∧ q45 ∧ q46 ∧ (↑x_3 : Int) = (↑x_3 : Int) ∧ True;
                                                      let q73 : Nat := q59.length;
                                                      let q74 : Int := Sp.byteAt x.2.1 (↑x_3 : Int);
                                                      let q75 : Nat := q61.length;
                                                      let q76 : Int := (↑x_3 : Int) + q16;
                                                      let q77 : Prop := (True ∧ inK IntKind.i64 q76 ∧ True ∧ True) ∧ True;
                                                      let q78 : Nat := q65.length;
                                                      x_3 ≤ q29 →
                                                        dFact (Ty.int IntKind.i64) (↑x_3 : Int) ∧ dFact (Ty.int IntKind.i64).slice q59 ∧ dFact (((Ty.int IntKind.i64).prod (((Ty.int IntKind.i64).prod ((Ty.int IntKind.i64).prod ((Ty.int IntKind.i64).prod Ty.unit))).prod ((Ty.int IntKind.i64).prod Ty.unit))).slice.prod ((Ty.int IntKind.i64).slice.prod ((Ty.int IntKind.i64).slice.slice.prod ((Ty.int IntKind.i64).slice.prod Ty.unit)))) q69 ∧ True →
                                                          q18 ∧
                                                            (q70 = true →
                                                                q8 ∧
                                                                  q9 ∧
                                                                    (∃ (x : Nat), x ≤ q71 ∧ q0 = (↑x : Int) ∧ ([] : List tI.den) = Sp.canN q59 q35 x ∧ q72) ∧
                                                                      ∀ (x_4 : Nat),
                                                                        let q79 : Bool := decide ((↑x_4 : Int) < (↑q73 : Int));
                                                                        let q80 : Nat := (↑x_4 : Int).toNat;
                                                                        let q81 : Bool := decide (q59.getD q80 q0 < q38.getD q80 q0);
                                                                        let q82 : Nat := (Sp.canN q59 q35 x_4).length;
                                                                        let q83 : List Int := (↑x_4 : Int) :: ([] : List tI.den);
                                                                        let q84 : Int := (↑x_4 : Int) + q16;
                                                                        let q85 : Prop := (True ∧ inK IntKind.i64 q84 ∧ True ∧ True) ∧ True;
                                                                        let q86 : Int := (↑q82 : Int);
                                                                        let q87 : Int := q74.tmod q86;
                                                                        let q88 : Int := (Sp.canN q59 q35 x_4).getD q87.toNat q0;
                                                                        let q89 : Prop := inN q88 q73;
                                                                        let q90 : Nat := q88.toNat;
                                                                        let q91 : Int := q59.getD q90 q0;
                                                                        let q92 : Int := q91 + q16;
                                                                        let q93 : Prop := inN q91 q75;
                                                                        let q94 : Nat := q91.toNat;
                                                                        let q95 : Int × (Int × Int × Int × Unit) × Int × Unit := q61.getD q94 q24;
                                                                        let q96 : (Int × Int × Int × Unit) × Int × Unit := q95.2;
                                                                        let q97 : Int × Int × Int × Unit := q96.1;
                                                                        let q98 : Bool := q97.1 == (4 : Int);
                                                                        let q99 : List Int := q91 :: ([] : List tI.den);
                                                                        let q100 : Nat := q99.length;
                                                                        let q101 : Int := q97.2.1;
                                                                        let q102 : Prop := inN q101 q78;
                                                                        let q103 : Bool := Sp.reads q97;
                                                                        let q104 : Prop := (true && bif q103 then true else false) = true → True;
                                                                        let q105 : Nat := q101.toNat;
                                                                        let q106 : List Int := q65.getD q105 (([] : List tI.den));
                                                                        let q107 : Nat := q106.length;
                                                                        let q108 : Int := (↑q107 : Int);
                                                                        let q109 : Bool := bif q103 then decide (q108 > q0) else false;
                                                                        let q110 : Int := q108 - q16;
                                                                        let q111 : List Int := q63.set q94 (q106.getD q110.toNat q0);
                                                                        let q112 : Int := q111.getD q94 q0;
                                                                        let q113 : Bool := Sp.writes q97;
                                                                        let q114 : Prop := q113 = true;
                                                                        let q115 : Prop := True ∧ True ∧ True ∧ True ∧ True ∧ True ∧ True ∧ (↑(q107 + q100) : Int) ≤ maxNew ∧ q102 ∧ True;
                                                                        let q116 : Prop := Step.snd = Step.snd ∧ Step.snd = Step.snd ∧ Step.fst = Step.fst ∧ Step.idx q105 = Step.idx q105 ∧ True;
                                                                        let q117 : Prop := True ∧ q27 ∧ True ∧ True ∧ q116 ∧ q5;
                                                                        let q118 : Prop := True ∧ True ∧ True ∧ True ∧ True ∧ True ∧ True ∧ True ∧ True ∧ True ∧ q116 ∧ True ∧ True ∧ True ∧ q27 ∧ True ∧ True ∧ True ∧ True ∧ True ∧ True ∧ True ∧ True ∧ True ∧ True ∧ True ∧ True ∧ True ∧ True ∧ True ∧ True ∧ True ∧ True ∧ True ∧ True ∧ True ∧ True ∧ True ∧ True ∧ True ∧ True ∧ True ∧ True ∧ True ∧ True ∧ True ∧ True ∧ True ∧ True ∧ True ∧ True ∧ True ∧ True ∧ True ∧ True ∧ True ∧ True ∧ True ∧ True ∧ True ∧ True ∧ True ∧ True ∧ True ∧ True ∧ True ∧ True ∧ True ∧ True ∧ True ∧ True ∧ True ∧ True ∧ True ∧ True ∧ True ∧ True ∧ True ∧ True ∧ True ∧ True ∧ True ∧ True ∧ True ∧ True ∧ True ∧ True ∧ True ∧ True ∧ True ∧ True ∧ True ∧ True ∧ True ∧ True ∧ True ∧ True ∧ True ∧ True ∧ True ∧ True ∧ True ∧ True ∧ True ∧ True ∧ True ∧ True ∧ True ∧ True ∧ True ∧ True ∧ True ∧ True ∧ True ∧ True ∧ True ∧ True ∧ True ∧ q116 ∧ True ∧ True ∧ True ∧ True ∧ True ∧ True ∧ True ∧ True ∧ True ∧ True ∧ q7;
                                                                        let q119 : List Step := List.append._f q25 ⟨List.append._f q21 ⟨List.append._f q20 ⟨List.append._f (([] : List Step)) PUnit.unit, PUnit.unit⟩, List.append._f (([] : List Step)) PUnit.unit, PUnit.unit⟩, List.append._f q20 ⟨List.append._f (([] : List Step)) PUnit.unit, PUnit.unit⟩, List.append._f (([] : List Step)) PUnit.unit, PUnit.unit⟩ (Step.idx q105 :: ([] : List Step));
                                                                        let q120 : Prop := q119 = q119 ∧ True;
                                                                        let q121 : List (Int × (Int × Int × Int × Unit) × Int × Unit) := q61.set q94 (q95.1, q97, Sp.value q61 q112, q96.2.2);
                                                                        let q122 : List (List Int) × List Int × Unit := (q65.set q105 (q106 ++ q99), q67);
                                                                        let q123 : Prop := q113 = false;
                                                                        x_4 ≤ q71 →
                                                                          dFact (Ty.int IntKind.i64) (↑x_4 : Int) ∧ dFact (Ty.int IntKind.i64).slice (Sp.canN q59 q35 x_4) ∧ True →
                                                                            (q5 ∧ True) ∧
                                                                              (q79 = true → ((True ∧ True ∧ inN (↑x_4 : Int) q73 ∧ True ∧ True ∧ True ∧ inN (↑x_4 : Int) q42 ∧ q2) ∧ True) ∧ (q81 = true → (q4 ∧ (↑(q82 + q83.length) : Int) ≤ maxNew ∧ True ∧ True) ∧ q85 ∧ ∃ (y : Nat), y ≤ q71 ∧ q71 - y < q71 - x_4 ∧ q84 = (↑y : Int) ∧ Sp.canN q59 q35 x_4 ++ q83 = Sp.canN q59 q35 y ∧ q72) ∧ (q81 = false → q85 ∧ ∃ (y : Nat), y ≤ q71 ∧ q71 - y < q71 - x_4 ∧ q84 = (↑y : Int) ∧ Sp.canN q59 q35 x_4 = Sp.canN q59 q35 y ∧ q72)) ∧
                                                                                (q79 = false →
                                                                                  ((True ∧ True ∧ True ∧ (0 : (AK.val tI).den) ≤ (↑x_3 : Int) ∧ True ∧ True ∧ q86 ≠ q0 ∧ inN q87 q82 ∧ q2) ∧ True) ∧
                                                                                    ((True ∧ True ∧ q89 ∧ q2) ∧ True) ∧
                                                                                      ((True ∧ True ∧ q89 ∧ True ∧ inK IntKind.i64 q92 ∧ q89 ∧ True) ∧ True ∧ True) ∧
                                                                                        ((True ∧ True ∧ True ∧ q93 ∧ q4) ∧ True ∧ True) ∧
                                                                                          q18 ∧
                                                                                            (q98 = true →
                                                                                                (q5 ∧ (↑(q66.length + q100) : Int) ≤ maxNew ∧ True ∧ q26 = q26 ∧ True) ∧
                                                                                                  q77 ∧
                                                                                                    ∃ (y : Nat),
                                                                                                      let q124 : List Int × List (Int × (Int × Int × Int × Unit) × Int × Unit) × List Int × List (List Int) × List Int := Sp.runN x.1.1 x.2.1 y;
                                                                                                      let q125 : List (Int × (Int × Int × Int × Unit) × Int × Unit) × List Int × List (List Int) × List Int := q124.2;
                                                                                                      let q126 : List Int × List (List Int) × List Int := q125.2;
                                                                                                      let q127 : List (List Int) × List Int := q126.2;
                                                                                                      y ≤ q29 ∧ q29 - y < q29 - x_3 ∧ q76 = (↑y : Int) ∧ q59.set q90 q92 = q124.1 ∧ (q61, q63, q65, q66 ++ q99, ()) = (q125.1, q126.1, q127.1, q127.2, ()) ∧ q49) ∧
                                                                                              (q98 = false →
                                                                                                ((True ∧ True ∧ True ∧ True ∧ q102 ∧ q2) ∧ True) ∧
                                                                                                  ((True ∧ True ∧ True ∧ q104 ∧ q104 ∧ q104 ∧ True ∧ True) ∧ True) ∧
                                                                                                    (q109 = true →
                                                                                                        ((True ∧ True ∧ True ∧ True ∧ True ∧ True ∧ inK IntKind.i64 q110 ∧ inN q110 q107 ∧ True ∧ inN q91 q63.length ∧ True) ∧ True ∧ True) ∧
                                                                                                          ((True ∧ True ∧ True ∧ True ∧ True ∧ True ∧ True ∧ inN q91 q111.length ∧ True ∧ q112 < (↑q75 : Int) ∧ q93 ∧ True ∧ True) ∧ True ∧ True) ∧
                                                                                                            q3 ∧
                                                                                                              (q114 →
                                                                                                                  ((q115 ∧ True ∧ True ∧ True ∧ True ∧ True ∧ True ∧ True ∧ (q117 ∧ True ∧ True ∧ True ∧ True ∧ True ∧ True ∧ True ∧ True ∧ True ∧ True ∧ True ∧ True ∧ True ∧ True ∧ True ∧ True ∧ True ∧ True ∧ True ∧ True ∧ True ∧ True ∧ True ∧ True ∧ True ∧ True ∧ True ∧ True ∧ True ∧ q116 ∧ q116 ∧ q118) ∧ True ∧ True) ∧ q120) ∧
                                                                                                                    q77 ∧
                                                                                                                      ∃ (y : Nat),
                                                                                                                        let q128 : List Int × List (Int × (Int × Int × Int × Unit) × Int × Unit) × List Int × List (List Int) × List Int := Sp.runN x.1.1 x.2.1 y;
                                                                                                                        let q129 : List (Int × (Int × Int × Int × Unit) × Int × Unit) × List Int × List (List Int) × List Int := q128.2;
                                                                                                                        let q130 : List Int × List (List Int) × List Int := q129.2;
                                                                                                                        let q131 : List (List Int) × List Int := q130.2;
                                                                                                                        y ≤ q29 ∧ q29 - y < q29 - x_3 ∧ q76 = (↑y : Int) ∧ q59.set q90 q92 = q128.1 ∧ (q121, q111, q122) = (q129.1, q130.1, q131.1, q131.2, ()) ∧ q49) ∧
                                                                                                                (q123 →
                                                                                                                  q77 ∧
                                                                                                                    ∃ (y : Nat),
                                                                                                                      let q132 : List Int × List (Int × (Int × Int × Int × Unit) × Int × Unit) × List Int × List (List Int) × List Int := Sp.runN x.1.1 x.2.1 y;
                                                                                                                      let q133 : List (Int × (Int × Int × Int × Unit) × Int × Unit) × List Int × List (List Int) × List Int := q132.2;
                                                                                                                      let q134 : List Int × List (List Int) × List Int := q133.2;
                                                                                                                      let q135 : List (List Int) × List Int := q134.2;
                                                                                                                      y ≤ q29 ∧ q29 - y < q29 - x_3 ∧ q76 = (↑y : Int) ∧ q59.set q90 q92 = q132.1 ∧ (q121, q111, q68) = (q133.1, q134.1, q135.1, q135.2, ()) ∧ q49)) ∧
                                                                                                      (q109 = false →
                                                                                                        q3 ∧
                                                                                                          (q114 →
                                                                                                              ((q115 ∧ True ∧ True ∧ True ∧ True ∧ True ∧ True ∧ True ∧ (q117 ∧ True ∧ True ∧ True ∧ True ∧ True ∧ True ∧ True ∧ True ∧ True ∧ True ∧ True ∧ True ∧ True ∧ True ∧ True ∧ True ∧ True ∧ True ∧ True ∧ True ∧ True ∧ True ∧ True ∧ True ∧ True ∧ True ∧ True ∧ True ∧ True ∧ True ∧ True ∧ q118) ∧ True ∧ True) ∧ q120) ∧
                                                                                                                q77 ∧
                                                                                                                  ∃ (y : Nat),
                                                                                                                    let q136 : List Int × List (Int × (Int × Int × Int × Unit) × Int × Unit) × List Int × List (List Int) × List Int := Sp.runN x.1.1 x.2.1 y;
                                                                                                                    let q137 : List (Int × (Int × Int × Int × Unit) × Int × Unit) × List Int × List (List Int) × List Int := q136.2;
                                                                                                                    let q138 : List Int × List (List Int) × List Int := q137.2;
                                                                                                                    let q139 : List (List Int) × List Int := q138.2;
                                                                                                                    y ≤ q29 ∧ q29 - y < q29 - x_3 ∧ q76 = (↑y : Int) ∧ q59.set q90 q92 = q136.1 ∧ (q61, q63, q122) = (q137.1, q138.1, q139.1, q139.2, ()) ∧ q49) ∧
                                                                                                            (q123 →
                                                                                                              q77 ∧
                                                                                                                ∃ (y : Nat),
                                                                                                                  let q140 : List Int × List (Int × (Int × Int × Int × Unit) × Int × Unit) × List Int × List (List Int) × List Int := Sp.runN x.1.1 x.2.1 y;
                                                                                                                  let q141 : List (Int × (Int × Int × Int × Unit) × Int × Unit) × List Int × List (List Int) × List Int := q140.2;
                                                                                                                  let q142 : List Int × List (List Int) × List Int := q141.2;
                                                                                                                  let q143 : List (List Int) × List Int := q142.2;
                                                                                                                  y ≤ q29 ∧ q29 - y < q29 - x_3 ∧ q76 = (↑y : Int) ∧ q59.set q90 q92 = q140.1 ∧ q69 = (q141.1, q142.1, q143.1, q143.2, ()) ∧ q49))))) ∧
                                                              (q70 = false → q8 ∧ q69 = (Sp.iE x.1 x.2.1, Sp.iF x.1 x.2.1, Sp.iM x.1 x.2.1, Sp.iO x.1 x.2.1, ()))))) := by kernel_rfl
theorem vc4 : funI C4 (stpP C4) S4 L4 Try.f4 = (
let q0 : Prop := (True ∧ True) ∧ True;
let q1 : Prop := True ∧ True ∧ True;
let q2 : Prop := q1 ∧ True;
let q3 : Int := (0 : Int);
let q4 : Nat := (100 : Nat);
let q5 : Prop := (true && true) = true;
let q6 : Prop := q5 → True;
∀ (x : List Int × List Int × Unit),
  let q7 : List (Int × (Int × Int × Int × Unit) × Int × Unit) := Sp.evs q3 (Sp.madeP x.1);
  let q8 : Nat := q7.length;
  let q9 : Prop := q8 ≤ (1000 : Nat);
  let q10 : List (List (Int × Int × Int × Unit)) × Unit := (Sp.madeP x.1, ());
  let q11 : List (Int × (Int × Int × Int × Unit) × Int × Unit) × List Int × List (List Int) × List Int × Unit := (Sp.iE q10 x.2.1, Sp.iF q10 x.2.1, Sp.iM q10 x.2.1, Sp.iO q10 x.2.1, ());
  let q12 : Bool := Sp.right q10 q11;
  let q13 : Prop := (true && bif q12 then true else false) = true;
  let q14 : Prop := q13 → True;
  True → dFact (Ty.int IntKind.u8).slice x.1 ∧ dFact (Ty.int IntKind.u8).slice x.2.1 ∧ True → q0 ∧ q2 ∧ q2 ∧ ((!true) = true → q0 ∧ false = true) ∧ ((!true) = false → ((True ∧ q1) ∧ True ∧ True) ∧ ((True ∧ True ∧ ((q8 ≤ q4 ∧ ∀ (x : Sp.LEv), x ∈ q7 → inN x.2.1.2.1 (3 : Nat)) ∧ (Sp.madeP x.1).length ≤ q4) ∧ True ∧ True) ∧ True ∧ True) ∧ ((True ∧ True ∧ q6 ∧ q6 ∧ (q5 → q9) ∧ True ∧ True ∧ q14 ∧ q14 ∧ (q13 → q9) ∧ q1) ∧ True) ∧ (bif q12 then Sp.allowed q10 q11 else false) = true)) := by kernel_rfl
end Go.User
namespace Go.User
open Go.Lf Go.Proofs

theorem can_succ {nx en : List Int} {i : Nat} (h : nx.getD i 0 < en.getD i 0) : Sp.canN nx en i ++ [(i : Int)] = Sp.canN nx en (i + 1) := by
  unfold Sp.canN; rw [Sp.sel_succ, if_pos (decide_eq_true h)]
theorem can_same {nx en : List Int} {i : Nat} (h : en.getD i 0 ≤ nx.getD i 0) : Sp.canN nx en i = Sp.canN nx en (i + 1) := by
  unfold Sp.canN; rw [Sp.sel_succ, if_neg (by simp; exact h), List.append_nil]

theorem ok14 : FOk Try.prog 14 S14 := by
  have hC : CtxOK Try.prog C14 := ctx_ok rfl rfl (fns_cons ok32 (fns_cons ok33 (fns_cons ok37 (fns_cons ok38 (fns_cons ok40 fns_nil))))) ptrs_nil
  refine FOk.intro hC (stpP_ok hC) Try.call14 Try.func14 (by kernel_rfl) (by kernel_rfl) L14 (vc14.mpr ?_)
  simp only [z1, z2, z3, z4, z5, z6, z7, z8, z9, z10, z11, z12, z13, z14, z15, z16, z17, z18, z19, z20, z21, z22, z23, z24, z25, z26, z27, z28, z29, z30, z31, z32, z33, z34, z35, z36, z37, z38, dFact]
  intro x hp hx
  obtain ⟨⟨h100, hX⟩, hp100⟩ := hp
  have hb := hx.2.2
  have hruns := Sp.IL.all (p := x.1.1) hX x.2.1
  have hst : ∀ i, i ≤ x.1.1.length → (Sp.evs 0 (x.1.1.take i)).length ≤ 100 := by
    intro i hi
    have := Sp.st_mono (p := x.1.1) hi
    rw [Sp.st_all] at this
    unfold Sp.st at this
    omega
  have hst1 : ∀ i, i < x.1.1.length → (Sp.evs 0 (x.1.1.take (i + 1))).length = (Sp.evs 0 (x.1.1.take i)).length + (x.1.1.getD i []).length := fun i hi => Sp.st_succ hi
  refine ⟨by omega, ⟨0, Nat.zero_le _, rfl, rfl, rfl, rfl⟩, ?_⟩
  intro i hi _
  refine ⟨fun hlt => ?_, fun hge => ?_⟩
  · have hlt : i < x.1.1.length := by omega
    have h1 := hst1 i hlt
    have h2 := hst (i + 1) hlt
    rw [Sp.nxN_len, Sp.enN_len]
    refine ⟨by rw [maxNew_eq]; omega, ⟨⟨by omega, by omega⟩, inK_of (by omega) (by show _ + ((x.1.1.getD i []).length : Int) ≤ _; omega)⟩, by rw [maxNew_eq]; omega, inK_of (by omega) (by omega), i + 1, by omega, by omega, by omega, ?_, ?_, ?_⟩
    · rw [h1]; rfl
    · rw [Sp.nxN_succ]
    · rw [Sp.enN_succ, h1]; rfl
  have hi' : i = x.1.1.length := by omega
  subst hi'
  refine ⟨⟨0, Nat.zero_le _, rfl, rfl⟩, ?_⟩
  have hall : (Sp.evs 0 (x.1.1.take x.1.1.length)).length = (Sp.evs 0 x.1.1).length := by rw [List.take_length]
  rw [hall]
  intro j hj _
  refine ⟨fun hlt => ⟨by rw [List.length_replicate, maxNew_eq]; omega, inK_of (by omega) (by omega), j + 1, by omega, by omega, by omega, by rw [List.replicate_succ']⟩, fun hge => ?_⟩
  have hj' : j = (Sp.evs 0 x.1.1).length := by omega
  subst hj'
  refine ⟨⟨0, Nat.zero_le _, rfl, rfl, rfl⟩, ?_⟩
  intro k hk _
  have h := hruns k hk
  have hsl := Sp.seqN_len x.1.1 x.2.1 k
  refine ⟨fun hlt => ?_, fun hge => ?_⟩
  · have hlt : k < (Sp.evs 0 x.1.1).length := by omega
    refine ⟨⟨0, Nat.zero_le _, rfl, rfl⟩, ?_⟩
    obtain ⟨hne, c, hc, hpc, e, hpe, hnx, he1, he2, hen, heX⟩ := h.next x.2.1 (k := k) (by omega)
    have hfoot : ∀ m : Nat, (Sp.runN x.1.1 x.2.1 (k + 1)) = Sp.runS (Sp.enN x.1.1 x.1.1.length) x.2.1 k (Sp.runN x.1.1 x.2.1 k) := fun _ => rfl
    have hlens : ((Sp.runN x.1.1 x.2.1 k).2.2.2.2).length ≤ 100 ∧ ∀ q : Nat, q < 3 → ((Sp.runN x.1.1 x.2.1 k).2.2.2.1.getD q []).length ≤ 100 := by
      refine ⟨?_, fun q hq => ?_⟩
      · rw [h.fo]
        have := List.length_filter_le (Sp.fX (Sp.evs 0 x.1.1)) (Sp.seqN x.1.1 x.2.1 k)
        omega
      · rw [h.mo q hq]
        have := List.length_filter_le (Sp.wX (Sp.evs 0 x.1.1) (q : Int)) (Sp.seqN x.1.1 x.2.1 k)
        omega
    have hpl3 := h.mo
    have hsame := (h.same (e : Int)).2
    have hX3 : inN (Sp.ev (Sp.runN x.1.1 x.2.1 k).2.1 (e : Int)).2.1.2.1 3 := by rw [hsame]; exact hX _ (Sp.ev_mem hen)
    have hnl := h.nxl
    have hel := h.el
    have hfl := h.fl
    have hml := h.ml
    have hinr := h.inr
    generalize hS : Sp.runN x.1.1 x.2.1 k = s at *
    obtain ⟨nx, E, F, M, O⟩ := s
    simp only at *
    intro i hi _
    have hcl : (Sp.canN nx (Sp.enN x.1.1 x.1.1.length) i).length ≤ i := by unfold Sp.canN; exact Sp.sel_len _ _
    have henl := Sp.enN_len x.1.1 x.1.1.length
    refine ⟨fun hlt2 => ⟨⟨inN_of hlt2, by omega, by rw [henl]; omega⟩, fun hcond => ⟨by rw [maxNew_eq]; omega, inK_of (by omega) (by omega), i + 1, by omega, by omega, by omega, can_succ hcond⟩, fun hcond => ⟨inK_of (by omega) (by omega), i + 1, by omega, by omega, by omega, can_same hcond⟩⟩, fun hge2 => ?_⟩
    have hi' : i = nx.length := by omega
    subst hi'
    have hcc : (Sp.canN nx (Sp.enN x.1.1 x.1.1.length) nx.length).getD ((Sp.byteAt x.2.1 (k : Int)).tmod ((Sp.canN nx (Sp.enN x.1.1 x.1.1.length) nx.length).length : Int)).toNat 0 = (c : Int) := hpc
    have hbn := Sp.byteAt_nonneg hb (k : Int)
    have ht1 := Int.tmod_nonneg ((Sp.canN nx (Sp.enN x.1.1 x.1.1.length) nx.length).length : Int) hbn.1
    have ht2 := Int.tmod_lt_of_pos (Sp.byteAt x.2.1 (k : Int)) (show (0 : Int) < ((Sp.canN nx (Sp.enN x.1.1 x.1.1.length) nx.length).length : Int) by omega)
    have hnx' : nx.getD (Int.toNat (c : Int)) 0 = (e : Int) := hnx
    rw [hcc, hnx']
    have hev : E.getD (Int.toNat (e : Int)) (0, (0, 0, 0, ()), 0, ()) = Sp.ev E (e : Int) := rfl
    simp only [hev, Int.toNat_natCast]
    have hev' : E.getD e (0, (0, 0, 0, ()), 0, ()) = Sp.ev E (e : Int) := rfl
    simp only [hev']
    have hrs : Sp.runN x.1.1 x.2.1 (k + 1) = (nx.set c ((e : Int) + 1), Sp.xE E M (e : Int), Sp.xF E F M (e : Int), Sp.xM E M (e : Int), Sp.xO E O (e : Int)) := by
      show Sp.runS (Sp.enN x.1.1 x.1.1.length) x.2.1 k (Sp.runN x.1.1 x.2.1 k) = _
      rw [hS]
      unfold Sp.runS Sp.xN
      simp only
      rw [hpc, hpe, Int.toNat_natCast]
    have hXt := hX3.2
    have hX0 := hX3.1
    have hpl : M.getD (Sp.ev E (e : Int)).2.1.2.1.toNat [] = Sp.plL E M (e : Int) := rfl
    have hplen := hlens.2 (Sp.ev E (e : Int)).2.1.2.1.toNat (by omega)
    simp only [hpl] at hplen ⊢
    have htk : Sp.takes E M (e : Int) = (!decide ((Sp.ev E (e : Int)).2.1.1 = 4) && Sp.reads (Sp.ev E (e : Int)).2.1 && decide (0 < (Sp.plL E M (e : Int)).length)) := rfl
    have hla : ((Sp.plL E M (e : Int)).getD ((((Sp.plL E M (e : Int)).length : Nat) : Int) - 1).toNat 0) = Sp.lastL E M (e : Int) := by
      unfold Sp.lastL; rw [show ((((Sp.plL E M (e : Int)).length : Nat) : Int) - 1).toNat = (Sp.plL E M (e : Int)).length - 1 from by omega]
    simp only [hla]
    have hplX : ∀ a ∈ Sp.plL E M (e : Int), 0 ≤ a ∧ a < (Sp.evs 0 x.1.1).length := by
      intro a ha
      unfold Sp.plL at ha
      rw [hpl3 _ (by omega)] at ha
      exact hinr a (List.mem_filter.1 ha).1
    have hnext : ∀ E' F' M' O', (E', F', M', O', ()) = (Sp.xE E M (e : Int), Sp.xF E F M (e : Int), Sp.xM E M (e : Int), Sp.xO E O (e : Int), ()) → inK .i64 ((k : Int) + 1) ∧ ∃ y : Nat, y ≤ (Sp.evs 0 x.1.1).length ∧ (Sp.evs 0 x.1.1).length - y < (Sp.evs 0 x.1.1).length - k ∧ (k : Int) + 1 = (y : Int) ∧ nx.set c ((e : Int) + 1) = (Sp.runN x.1.1 x.2.1 y).1 ∧ (E', F', M', O', ()) = ((Sp.runN x.1.1 x.2.1 y).2.1, (Sp.runN x.1.1 x.2.1 y).2.2.1, (Sp.runN x.1.1 x.2.1 y).2.2.2.1, (Sp.runN x.1.1 x.2.1 y).2.2.2.2, ()) := by
      intro E' F' M' O' heq
      refine ⟨inK_of (by omega) (by omega), k + 1, by omega, by omega, by omega, ?_, ?_⟩
      · rw [hrs]
      · rw [hrs]; exact heq
    refine ⟨⟨by show (0 : Int) ≤ _; omega, by omega, ⟨ht1, ht2⟩⟩, ⟨by omega, by omega⟩, ⟨⟨by omega, by omega⟩, inK_of (by omega) (by omega), ⟨by omega, by omega⟩⟩, ⟨by omega, by omega⟩, fun h4 => ?_, fun h4 => ⟨⟨by omega, by omega⟩, fun hrd => ?_, fun hrd => ?_⟩⟩
    · have htk0 : Sp.takes E M (e : Int) ≠ true := by rw [htk, decide_eq_true h4]; simp
      have := hnext E F M (O ++ [(e : Int)]) (by unfold Sp.xE Sp.xF Sp.xM Sp.xO; rw [if_neg htk0, if_neg htk0, if_neg (fun h => h.1 h4), if_pos h4])
      exact ⟨by rw [maxNew_eq]; omega, this⟩
    · have htk1 : Sp.takes E M (e : Int) = true := by rw [htk, decide_eq_false h4, hrd.1, decide_eq_true (by have := hrd.2; omega)]; rfl
      have hl0 : 0 < (Sp.plL E M (e : Int)).length := by have := hrd.2; omega
      have hlm : Sp.lastL E M (e : Int) ∈ Sp.plL E M (e : Int) := by
        unfold Sp.lastL; rw [Sp.getD_lt (by omega)]; exact List.getElem_mem _
      have hget : (F.set e (Sp.lastL E M (e : Int))).getD e 0 = Sp.lastL E M (e : Int) := by
        rw [Sp.getD_lt (by simp; omega)]; simp
      have hO : Sp.xO E O (e : Int) = O := by unfold Sp.xO; rw [if_neg h4]
      have hF : Sp.xF E F M (e : Int) = F.set e (Sp.lastL E M (e : Int)) := by unfold Sp.xF; rw [if_pos htk1]; rfl
      have hE : Sp.xE E M (e : Int) = E.set e ((Sp.ev E (e : Int)).1, (Sp.ev E (e : Int)).2.1, Sp.value E (Sp.lastL E M (e : Int)), (Sp.ev E (e : Int)).2.2.2) := by unfold Sp.xE; rw [if_pos htk1]; rfl
      rw [hget]
      refine ⟨⟨inK_of (by omega) (by omega), ⟨by omega, by omega⟩, ⟨by omega, by omega⟩⟩, ⟨⟨by omega, by simp; omega⟩, by have := hplX _ hlm; omega, ⟨by omega, by omega⟩⟩, fun hw => ⟨⟨by rw [maxNew_eq]; omega, ⟨by omega, by omega⟩⟩, hnext _ _ _ _ ?_⟩, fun hw => hnext _ _ _ _ ?_⟩
      · rw [hO, hF, hE]; unfold Sp.xM; rw [if_pos ⟨h4, hw⟩]
      · rw [hO, hF, hE]; unfold Sp.xM; rw [if_neg (fun h => by rw [hw] at h; exact absurd h.2 (by decide))]
    · have htk0 : Sp.takes E M (e : Int) ≠ true := by
        rw [htk, decide_eq_false h4]
        intro hh
        simp only [Bool.not_false, Bool.true_and, Bool.and_eq_true, decide_eq_true_eq] at hh
        rw [hh.1, decide_eq_true (by have := hh.2; omega)] at hrd
        cases hrd
      have hO : Sp.xO E O (e : Int) = O := by unfold Sp.xO; rw [if_neg h4]
      have hF : Sp.xF E F M (e : Int) = F := by unfold Sp.xF; rw [if_neg htk0]
      have hE : Sp.xE E M (e : Int) = E := by unfold Sp.xE; rw [if_neg htk0]
      refine ⟨fun hw => ⟨⟨by rw [maxNew_eq]; omega, ⟨by omega, by omega⟩⟩, hnext _ _ _ _ ?_⟩, fun hw => hnext _ _ _ _ ?_⟩
      · rw [hO, hF, hE]; unfold Sp.xM; rw [if_pos ⟨h4, hw⟩]
      · rw [hO, hF, hE]; unfold Sp.xM; rw [if_neg (fun h => by rw [hw] at h; exact absurd h.2 (by decide))]
  · have hk' : k = (Sp.evs 0 x.1.1).length := by omega
    subst hk'
    rfl

theorem ok4 : FOk Try.prog 4 S4 := by
  have hC : CtxOK Try.prog C4 := ctx_ok rfl rfl (fns_cons ok10 (fns_cons ok11 (fns_cons ok14 (fns_cons ok16 (fns_cons ok18 fns_nil))))) ptrs_nil
  refine FOk.intro hC (stpP_ok hC) Try.call4 Try.func4 (by kernel_rfl) (by kernel_rfl) L4 (vc4.mpr ?_)
  simp only [z1, z2, z3, z4, z5, z6, z7, z8, z9, z10, z11, z12, z13, z14, z15, z16, z17, z18, z19, z20, z21, z22, z23, z24, z25, z26, z27, z28, z29, z30, z31, z32, z33, z34, z35, z36, z37, z38, dFact]
  intro x hx
  have hfine := Sp.madeP_fine hx.1.2
  have hv := Sp.madeP_valid hx.1.2
  have hR := (Sp.run_right (b := x.2.1) hv).1
  have hA := Sp.run_allowed (b := x.2.1) hv
  have hl : (Sp.madeP x.1).length ≤ 100 := by
    have h := hv
    unfold Sp.valid at h
    simp only [Bool.and_eq_true, decide_eq_true_eq] at h
    have := h.1.1.1.2
    exact Nat.le_trans this (by decide)
  refine ⟨⟨hfine, hl⟩, ⟨Nat.le_trans hfine.1 (by decide), fun _ => Nat.le_trans hfine.1 (by decide)⟩, ?_⟩
  exact ⟨(Sp.right_iff _ _).2 hR, hA⟩
end Go.User
namespace Go.User
open Go.Lf Go.Proofs

theorem ok26o : FOk Try.prog 26 S26o := by
  have hC : CtxOK Try.prog C26o := ctx_ok rfl rfl fns_nil ptrs_nil
  refine FOk.intro hC (stpP_ok hC) Try.call26 Try.func26 (by kernel_rfl) (by kernel_rfl) L26o (vc26o.mpr ?_)
  simp only [z1, z2, z3, z4, z5, z6, z7, z8, z9, z10, z11, z12, z13, z14, z15, z16, z17, z18, z19, z20, z21, z22, z23, z24, z25, z26, z27, z28, z29, z30, z31, z32, z33, z34, z35, z36, z37, z38]
  intro x hp hx
  obtain ⟨h1, h2, h3, h4, h5⟩ := hp
  refine ⟨⟨by rw [maxNew_eq]; omega, by rw [maxNew_eq]; omega, by rw [maxNew_eq]; omega⟩, ⟨0, Nat.zero_le _, rfl, rfl⟩, ?_⟩
  intro i hi _
  have hl := List.length_take_le i x.1.2.2.1
  refine ⟨fun hlt => ?_, fun hge => ?_⟩
  · have hlt' : i < x.1.2.2.1.length := by omega
    have h6 := h5 (x.1.2.2.1.getD i []) (by rw [Sp.getD_lt hlt']; exact List.getElem_mem _)
    refine ⟨⟨⟨inN_of hlt, by rw [maxNew_eq]; omega⟩, by rw [maxNew_eq]; omega⟩, inK_of (by omega) (by omega), i + 1, by omega, by omega, by omega, ?_⟩
    rw [List.take_succ_eq_append_getElem hlt', Sp.getD_lt hlt']
  · rw [List.take_of_length_le (by omega)]

theorem andB_range (n : Int) : 0 ≤ Sp.andB n := by
  unfold Sp.andB
  have h1 : (BitVec.ofInt 64 n &&& BitVec.ofInt 64 7).toNat ≤ 7 := by
    rw [BitVec.toNat_and]
    have : (BitVec.ofInt 64 7).toNat = 7 := by decide
    rw [this]
    exact Nat.and_le_right
  rw [inK_wrap (inK_of (by omega) (by omega))]
  omega
theorem chg_eta (g : Sp.Gr) (z : Int × Int × Int × Unit) : (Sp.cE g z, Sp.cF g z, Sp.cM g z, Sp.cO g z, ()) = Sp.chg g z := by
  unfold Sp.cE Sp.cF Sp.cM Sp.cO
  exact gr_eta _

theorem ok13 : FOk Try.prog 13 S13 := by
  have hC : CtxOK Try.prog C13 := ctx_ok rfl rfl (fns_cons ok26o fns_nil) ptrs_nil
  refine FOk.intro hC (stpP_ok hC) Try.call13 Try.func13 (by kernel_rfl) (by kernel_rfl) L13 (vc13.mpr ?_)
  simp only [z1, z2, z3, z4, z5, z6, z7, z8, z9, z10, z11, z12, z13, z14, z15, z16, z17, z18, z19, z20, z21, z22, z23, z24, z25, z26, z27, z28, z29, z30, z31, z32, z33, z34, z35, z36, z37, z38]
  intro x hp hx
  have hz : 0 ≤ x.2.1.2.1 := hx.2.2.1.1
  rw [chg_eta]
  obtain ⟨g, z, u⟩ := x
  simp only at hp hz ⊢
  obtain ⟨l1, l2, l3, l4, l5⟩ := id hp
  have hin : ∀ n : Nat, ¬ (n : Int) = 0 → inN (z.2.1.tmod (n : Int)) n := fun n hn => ⟨Int.tmod_nonneg _ hz, Int.tmod_lt_of_pos _ (by omega)⟩
  have hrow : ∀ i : Nat, (g.2.2.1.getD i []).length ≤ 1000 := fun i => by
    rcases Nat.lt_or_ge i g.2.2.1.length with h | h
    · rw [Sp.getD_lt h]; exact l5 _ (List.getElem_mem _)
    · rw [List.getD_eq_getElem?_getD, List.getElem?_eq_none h]; exact Nat.zero_le _
  have hr5 := hrow (z.2.1.tmod (g.2.2.1.length : Int)).toNat
  have hand : inN ((Sp.andB z.2.2.1).tmod ((g.2.2.1.getD (z.2.1.tmod (g.2.2.1.length : Int)).toNat []).length : Int)) (g.2.2.1.getD (z.2.1.tmod (g.2.2.1.length : Int)).toNat []).length ∨ (g.2.2.1.getD (z.2.1.tmod (g.2.2.1.length : Int)).toNat []).length = 0 := by
    by_cases h : (g.2.2.1.getD (z.2.1.tmod (g.2.2.1.length : Int)).toNat []).length = 0
    · exact .inr h
    · exact .inl ⟨Int.tmod_nonneg _ (andB_range _), Int.tmod_lt_of_pos _ (by omega)⟩
  refine ⟨hp, fun h => ?_, fun h => ?_⟩
  · unfold Sp.chg
    rw [if_pos]
    simp only [Bool.or_eq_true, beq_iff_eq] at h
    omega
  obtain ⟨⟨hE, hM⟩, hF⟩ := h
  have hne : ¬ (g.1.length = 0 ∨ g.2.2.1.length = 0 ∨ g.2.1.length = 0) := by omega
  have hw : ∀ n : Nat, ¬ (n : Int) = 0 → winI 0 (z.2.1.tmod (n : Int)) n := fun n hn => by
    have := hin n hn
    exact ⟨by omega, this.1, by have := this.2; omega⟩
  unfold Sp.chg
  rw [if_neg hne]
  refine ⟨hE, hF, hM, by decide, fun h0 => ⟨hin _ hE, ?_⟩, fun n0 => ⟨fun h1 => ⟨hin _ hE, ?_⟩, fun n1 => ⟨fun h2 => ⟨hin _ hE, ?_⟩, fun n2 => ⟨fun h3 => ⟨hin _ hE, ?_⟩, fun n3 => ⟨fun h4 => ⟨hin _ hF, ?_⟩, fun n4 => ⟨fun h5 => ⟨⟨hin _ hM, by rw [maxNew_eq]; omega, hin _ hM⟩, ?_⟩, fun n5 => ⟨fun h6 => ⟨hin _ hM, fun hpos => ⟨⟨hin _ hM, hin _ hM, by omega, ?_⟩, ?_⟩, fun hz0 => ?_⟩, fun n6 => ⟨fun h7 => ⟨by rw [maxNew_eq]; omega, ?_⟩, fun n7 => ⟨fun h8 => ⟨by rw [maxNew_eq]; omega, ?_⟩, fun n8 => ⟨fun h9 => ⟨hw _ hE, ?_⟩, fun n9 => ⟨hw _ hF, ?_⟩⟩⟩⟩⟩⟩⟩⟩⟩⟩⟩
  · rw [if_pos h0]; rfl
  · rw [if_neg n0, if_pos h1]; rfl
  · rw [if_neg n0, if_neg n1, if_pos h2]; rfl
  · rw [if_neg n0, if_neg n1, if_neg n2, if_pos h3]; rfl
  · rw [if_neg n0, if_neg n1, if_neg n2, if_neg n3, if_pos h4]
  · rw [if_neg n0, if_neg n1, if_neg n2, if_neg n3, if_neg n4, if_pos h5]
  · rcases hand with h | h
    · exact h
    · omega
  · rw [if_neg n0, if_neg n1, if_neg n2, if_neg n3, if_neg n4, if_neg n5, if_pos h6, if_pos (by omega)]; rfl
  · rw [if_neg n0, if_neg n1, if_neg n2, if_neg n3, if_neg n4, if_neg n5, if_pos h6, if_neg (by omega)]
  · rw [if_neg n0, if_neg n1, if_neg n2, if_neg n3, if_neg n4, if_neg n5, if_neg n6, if_pos h7]
  · rw [if_neg n0, if_neg n1, if_neg n2, if_neg n3, if_neg n4, if_neg n5, if_neg n6, if_neg n7, if_pos h8]
  · rw [if_neg n0, if_neg n1, if_neg n2, if_neg n3, if_neg n4, if_neg n5, if_neg n6, if_neg n7, if_neg n8, if_pos h9]
  · rw [if_neg n0, if_neg n1, if_neg n2, if_neg n3, if_neg n4, if_neg n5, if_neg n6, if_neg n7, if_neg n8, if_neg n9]

theorem ok15 : FOk Try.prog 15 S15 := by
  have hC : CtxOK Try.prog C15 := ctx_ok rfl rfl fns_nil ptrs_nil
  refine FOk.intro hC (stpP_ok hC) Try.call15 Try.func15 (by kernel_rfl) (by kernel_rfl) L15 (vc15.mpr ?_)
  simp only [z1, z2, z3, z4, z5, z6, z7, z8, z9, z10, z11, z12, z13, z14, z15, z16, z17, z18, z19, z20, z21, z22, z23, z24, z25, z26, z27, z28, z29, z30, z31, z32, z33, z34, z35, z36, z37, z38]
  intro x hp hx
  obtain ⟨h1, h100, hr⟩ := hp
  have hz : 0 ≤ x.2.1.2.1 := hx.2.2.1.1
  have hrow : ∀ i : Nat, (x.1.1.getD i []).length ≤ 100 := fun i => by
    rcases Nat.lt_or_ge i x.1.1.length with h | h
    · rw [Sp.getD_lt h]; exact hr _ (List.getElem_mem _)
    · rw [List.getD_eq_getElem?_getD, List.getElem?_eq_none h]; exact Nat.zero_le _
  clear hx
  refine ⟨⟨0, Nat.zero_le _, rfl, rfl⟩, ?_⟩
  intro i hi _
  have hl := List.length_take_le i x.1.1
  refine ⟨fun hlt => ?_, fun hge => ?_⟩
  · have hlt' : i < x.1.1.length := by omega
    have h6 := hrow i
    refine ⟨⟨⟨inN_of hlt, by rw [maxNew_eq]; omega⟩, by rw [maxNew_eq]; omega⟩, inK_of (by omega) (by omega), i + 1, by omega, by omega, by omega, ?_⟩
    rw [List.take_succ_eq_append_getElem hlt', Sp.getD_lt hlt']
  have hie : i = x.1.1.length := by omega
  subst hie
  rw [List.take_length]
  have hc : inN (x.2.1.2.1.tmod (x.1.1.length : Int)) x.1.1.length := ⟨Int.tmod_nonneg _ hz, Int.tmod_lt_of_pos _ (by omega)⟩
  have hrc := hrow (x.2.1.2.1.tmod (x.1.1.length : Int)).toNat
  have hk : ¬ ((x.1.1.getD (x.2.1.2.1.tmod (x.1.1.length : Int)).toNat []).length : Int) = 0 → inN ((x.2.1.2.1 / 4).tmod ((x.1.1.getD (x.2.1.2.1.tmod (x.1.1.length : Int)).toNat []).length : Int)) (x.1.1.getD (x.2.1.2.1.tmod (x.1.1.length : Int)).toNat []).length := fun h => ⟨Int.tmod_nonneg _ (by omega), Int.tmod_lt_of_pos _ (by omega)⟩
  unfold Sp.odd Sp.oOp Sp.oK Sp.oRow
  refine ⟨by omega, ⟨by decide, fun _ => hc⟩, fun h => ⟨⟨hc, by rw [maxNew_eq]; omega, hc⟩, ?_⟩, fun h => ⟨⟨by decide, hc, h.2⟩, by decide, fun h0 => ⟨⟨hc, hk h.2⟩, ?_⟩, fun n0 => ⟨fun h1' => ⟨⟨hc, hk h.2⟩, ?_⟩, fun n1 => ⟨fun h2 => ⟨⟨hc, hk h.2⟩, ?_⟩, fun n2 => ⟨by rw [maxNew_eq]; omega, ?_⟩⟩⟩⟩⟩
  · rw [if_pos]
    simp only [Bool.or_eq_true, beq_iff_eq] at h
    omega
  · rw [if_neg (by omega), if_pos h0]
  · rw [if_neg (by omega), if_neg n0, if_pos h1']
  · rw [if_neg (by omega), if_neg n0, if_neg n1, if_pos h2]
  · rw [if_neg (by omega), if_neg n0, if_neg n1, if_neg n2]
theorem lens_mk {E : List Sp.LEv} {F O : List Int} {M : List (List Int)} {n : Nat} (h1 : E.length ≤ n) (h2 : F.length ≤ n) (h3 : M.length ≤ n) (h4 : O.length ≤ n) (h5 : ∀ l ∈ M, l.length ≤ n) : lens (E, F, M, O, ()) n := ⟨h1, h2, h3, h4, h5⟩
theorem lens_up {g : Sp.Gr} {n m : Nat} (h : lens g n) (hm : n ≤ m) : lens g m := ⟨Nat.le_trans h.1 hm, Nat.le_trans h.2.1 hm, Nat.le_trans h.2.2.1 hm, Nat.le_trans h.2.2.2.1 hm, fun l hl => Nat.le_trans (h.2.2.2.2 l hl) hm⟩
theorem chg_lens {g : Sp.Gr} {n : Nat} (z : Int × Int × Int × Unit) (h : lens g n) : lens (Sp.chg g z) (n + 1) := by
  have hu := lens_up h (Nat.le_succ n)
  obtain ⟨h1, h2, h3, h4, h5⟩ := id hu
  obtain ⟨_, _, g3, g4, g5⟩ := id h
  have g2 := h.2.1
  have hrow : ∀ i : Nat, (g.2.2.1.getD i []).length ≤ n := fun i => by
    rcases Nat.lt_or_ge i g.2.2.1.length with h | h
    · rw [Sp.getD_lt h]; exact g5 _ (List.getElem_mem _)
    · rw [List.getD_eq_getElem?_getD, List.getElem?_eq_none h]; exact Nat.zero_le _
  have hr := hrow (z.2.1.tmod (g.2.2.1.length : Int)).toNat
  unfold Sp.chg
  by_cases hne : g.1.length = 0 ∨ g.2.2.1.length = 0 ∨ g.2.1.length = 0
  · rw [if_pos hne]; exact hu
  rw [if_neg hne]
  by_cases n0 : z.1 % 11 = 0
  · rw [if_pos n0]
    exact lens_mk (by rw [List.length_set]; exact h1) h2 h3 h4 h5
  rw [if_neg n0]
  by_cases n1 : z.1 % 11 = 1
  · rw [if_pos n1]
    exact lens_mk (by rw [List.length_set]; exact h1) h2 h3 h4 h5
  rw [if_neg n1]
  by_cases n2 : z.1 % 11 = 2
  · rw [if_pos n2]
    exact lens_mk (by rw [List.length_set]; exact h1) h2 h3 h4 h5
  rw [if_neg n2]
  by_cases n3 : z.1 % 11 = 3
  · rw [if_pos n3]
    exact lens_mk (by rw [List.length_set]; exact h1) h2 h3 h4 h5
  rw [if_neg n3]
  by_cases n4 : z.1 % 11 = 4
  · rw [if_pos n4]
    exact lens_mk h1 (by rw [List.length_set]; exact h2) h3 h4 h5
  rw [if_neg n4]
  by_cases n5 : z.1 % 11 = 5
  · rw [if_pos n5]
    refine lens_mk h1 h2 (by rw [List.length_set]; exact h3) h4 fun l hl => ?_
    rcases List.mem_or_eq_of_mem_set hl with hl | hl
    · exact h5 l hl
    · rw [hl, List.length_append, List.length_singleton]; omega
  rw [if_neg n5]
  by_cases n6 : z.1 % 11 = 6
  · rw [if_pos n6]
    by_cases hp : 0 < (g.2.2.1.getD (z.2.1.tmod (g.2.2.1.length : Int)).toNat []).length
    · rw [if_pos hp]
      refine lens_mk h1 h2 (by rw [List.length_set]; exact h3) h4 fun l hl => ?_
      rcases List.mem_or_eq_of_mem_set hl with hl | hl
      · exact h5 l hl
      · rw [hl, List.length_set]; omega
    · rw [if_neg hp]; exact hu
  rw [if_neg n6]
  by_cases n7 : z.1 % 11 = 7
  · rw [if_pos n7]
    exact lens_mk h1 h2 h3 (by rw [List.length_append, List.length_singleton]; omega) h5
  rw [if_neg n7]
  by_cases n8 : z.1 % 11 = 8
  · rw [if_pos n8]
    refine lens_mk h1 h2 (by rw [List.length_append, List.length_singleton]; omega) h4 fun l hl => ?_
    rw [List.mem_append, List.mem_singleton] at hl
    rcases hl with hl | hl
    · exact h5 l hl
    · rw [hl]; exact Nat.zero_le _
  rw [if_neg n8]
  by_cases n9 : z.1 % 11 = 9
  · rw [if_pos n9]
    exact lens_mk (by rw [List.length_take]; omega) h2 h3 h4 h5
  rw [if_neg n9]
  exact lens_mk h1 (by rw [List.length_take]; omega) h3 h4 h5
theorem shape_lens {t : Sp.Lit} {g : Sp.Gr} (h : Sp.Shape t g) : lens g 100 := by
  have h6 := (Sp.valid_ev h.valid).1
  have hE := h.lenE
  have hF := h.lenF
  have hM := h.lenM
  have key : ∀ (l : List Int) (is : Sp.LOp → Bool), Sp.isList l (Sp.evs 0 t.1) is = true → l.length ≤ 100 := by
    intro l is hm
    have hin := fun v hv => Sp.isList_in (n := v) hm hv
    unfold Sp.isList at hm
    simp only [Bool.and_eq_true, decide_eq_true_eq] at hm
    have := Sp.nodup_le (m := (List.range (Sp.evs 0 t.1).length).map (fun (i : Nat) => (i : Int))) hm.1.1 (by
      intro w hw
      have := hin w hw
      simp only [List.mem_map, List.mem_range]
      exact ⟨w.toNat, by omega, by omega⟩)
    simp only [List.length_map, List.length_range] at this
    omega
  refine ⟨by omega, by omega, by omega, key _ _ h.fo, fun l hl => ?_⟩
  obtain ⟨i, hi, rfl⟩ := List.getElem_of_mem hl
  rw [← Sp.getD_lt (d := [])]
  exact key _ _ (h.mo i (by omega))
theorem odd_evs (P : List (List Sp.LOp)) (z : Int × Int × Int × Unit) (h4 : P.length ≤ 4) (hr : ∀ i : Nat, (P.getD i []).length ≤ 100) : (Sp.evs 0 (Sp.odd P z)).length ≤ 1000 := by
  have key : ∀ (Q : List (List Sp.LOp)) (c : Int) (m : Nat), (∀ l ∈ Q, l.length ≤ m) → (Sp.evs c Q).length ≤ Q.length * m := by
    intro Q
    induction Q with
    | nil => intro c m _; simp [Sp.evs]
    | cons l Q ih =>
      intro c m h
      have := ih (c + 1) m (fun l hl => h l (by simp [hl]))
      have h2 := h l (by simp)
      simp only [Sp.evs, List.length_append, List.length_map, List.length_cons]
      rw [Nat.succ_mul]; omega
  have hm : ∀ l ∈ P, l.length ≤ 100 := fun l hl => by
    obtain ⟨i, hi, rfl⟩ := List.getElem_of_mem hl
    rw [← Sp.getD_lt (d := [])]; exact hr i
  have hset : ∀ (i : Nat) (v : List Sp.LOp), v.length ≤ 101 → (Sp.evs 0 (P.set i v)).length ≤ 1000 := by
    intro i v hv
    have := key (P.set i v) 0 101 (fun l hl => by
      rcases List.mem_or_eq_of_mem_set hl with hl | rfl
      · have := hm l hl; omega
      · exact hv)
    rw [List.length_set] at this
    have := Nat.mul_le_mul_right 101 h4
    omega
  have ho := hr (Sp.oRow P z)
  unfold Sp.odd
  split
  · exact hset _ _ (by rw [List.length_append, List.length_singleton]; omega)
  split
  · exact hset _ _ (by rw [List.length_set]; omega)
  split
  · exact hset _ _ (by rw [List.length_set]; omega)
  split
  · exact hset _ _ (by rw [List.length_set]; omega)
  · have := key (P ++ [[(1, 0, 0, ())]]) 0 100 (fun l hl => by
      rw [List.mem_append, List.mem_singleton] at hl
      rcases hl with hl | rfl
      · exact hm l hl
      · show 1 ≤ 100; omega)
    rw [List.length_append, List.length_singleton] at this
    have := Nat.mul_le_mul_right 100 (show P.length + 1 ≤ 5 by omega)
    omega

theorem lens_out {E : List Sp.LEv} {F O : List Int} {M : List (List Int)} {n : Nat} (h : lens (E, F, M, O, ()) n) : E.length ≤ n ∧ F.length ≤ n ∧ M.length ≤ n ∧ O.length ≤ n ∧ ∀ l ∈ M, l.length ≤ n := h
theorem in03 : inN 0 3 := ⟨by decide, by decide⟩
theorem in13 : inN 1 3 := ⟨by decide, by decide⟩
theorem in23 : inN 2 3 := ⟨by decide, by decide⟩
theorem ne_self (b : Bool) : (b != b) = false := by cases b <;> rfl
theorem or4 (a b c d : Bool) : (a != a || b != b || c != c || d != d) = false := by rw [ne_self, ne_self, ne_self, ne_self]; rfl
theorem or2 (a b : Bool) : (a != a || b != b) = false := by rw [ne_self, ne_self]; rfl
set_option maxRecDepth 100000 in
theorem ok3 : FOk Try.prog 3 S3 := by
  have hC : CtxOK Try.prog C3 := ctx_ok rfl rfl (fns_cons ok10 (fns_cons ok11 (fns_cons ok12c (fns_cons ok13 (fns_cons ok14 (fns_cons ok15 (fns_cons ok16 (fns_cons ok17 (fns_cons ok18 (fns_cons ok19 (fns_cons ok20 (fns_cons ok21 fns_nil)))))))))))) ptrs_nil
  refine FOk.intro hC (stpP_ok hC) Try.call3 Try.func3 (by kernel_rfl) (by kernel_rfl) L3 (vc3.mpr ?_)
  simp only [z1, z2, z3, z4, z5, z6, z7, z8, z9, z10, z11, z12, z13, z14, z15, z16, z17, z18, z19, z20, z21, z22, z23, z24, z25, z26, z27, z28, z29, z30, z31, z32, z33, z34, z35, z36, z37, z38]
  intro x hx
  have hv := Sp.madeP_valid hx.1.2
  have hfine := Sp.madeP_fine hx.1.2
  have hG := Sp.graph_shape hv x.2.1
  rw [← graph_eta] at hG
  have hv4 := (Sp.valid_iff _).1 hv
  have hP1 : 1 ≤ (Sp.madeP x.1).length := hv4.1
  have hP4 : (Sp.madeP x.1).length ≤ 4 := hv4.2.1
  have hrow : ∀ i : Nat, ((Sp.madeP x.1).getD i []).length ≤ 100 := fun i => Nat.le_trans (Sp.evs_get _ i 0) hfine.1
  have hrm : ∀ l ∈ Sp.madeP x.1, l.length ≤ 100 := fun l hl => by
    obtain ⟨i, hi, rfl⟩ := List.getElem_of_mem hl
    rw [← Sp.getD_lt (d := [])]; exact hrow i
  have hgl := shape_lens hG
  have hcl := chg_lens (x.2.2.1.getD (Int.toNat 0) (0, 0, 0, ())) hgl
  rw [← chg_eta] at hcl
  have h1000 : (Sp.evs 0 (Sp.madeP x.1)).length ≤ 1000 := Nat.le_trans hfine.1 (by decide)
  have ho := odd_evs (Sp.madeP x.1) (x.2.2.1.getD (Int.toNat 2) (0, 0, 0, ())) hP4 hrow
  have hgl' := lens_up hgl (show 100 ≤ 1000 by decide)
  have hcl' := lens_up hcl (show 101 ≤ 1000 by decide)
  clear hx hG hgl hcl hv4 hrow
  generalize Sp.odd (Sp.madeP x.1) (x.2.2.1.getD (Int.toNat 2) (0, 0, 0, ())) = O at *
  have hu : Sp.valid (O, ()) = true → (Sp.evs 0 O).length ≤ 100 ∧ ∀ e ∈ Sp.evs 0 O, inN e.2.1.2.1 3 := fun h => by
    have h6 := Sp.valid_ev h
    exact ⟨Nat.le_trans h6.1 (by decide), fun e he => Sp.usual_X (h6.2 e he)⟩
  have hP100 : (Sp.madeP x.1).length ≤ 100 := Nat.le_trans hP4 (by decide)
  generalize Sp.gE (Sp.madeP x.1, ()) x.2.1 = gE at hgl' hcl' ⊢
  generalize Sp.gF (Sp.madeP x.1, ()) x.2.1 = gF at hgl' hcl' ⊢
  generalize Sp.gM (Sp.madeP x.1, ()) x.2.1 = gM at hgl' hcl' ⊢
  generalize Sp.gO (Sp.madeP x.1, ()) x.2.1 = gO at hgl' hcl' ⊢
  generalize Sp.cE (gE, gF, gM, gO, ()) (x.2.2.1.getD (Int.toNat 0) (0, 0, 0, ())) = cE at hcl' ⊢
  generalize Sp.cF (gE, gF, gM, gO, ()) (x.2.2.1.getD (Int.toNat 0) (0, 0, 0, ())) = cF at hcl' ⊢
  generalize Sp.cM (gE, gF, gM, gO, ()) (x.2.2.1.getD (Int.toNat 0) (0, 0, 0, ())) = cM at hcl' ⊢
  generalize Sp.cO (gE, gF, gM, gO, ()) (x.2.2.1.getD (Int.toNat 0) (0, 0, 0, ())) = cO at hcl' ⊢
  generalize Sp.cE (cE, cF, cM, cO, ()) (x.2.2.1.getD (Int.toNat 1) (0, 0, 0, ())) = eE
  generalize Sp.cF (cE, cF, cM, cO, ()) (x.2.2.1.getD (Int.toNat 1) (0, 0, 0, ())) = eF
  generalize Sp.cM (cE, cF, cM, cO, ()) (x.2.2.1.getD (Int.toNat 1) (0, 0, 0, ())) = eM
  generalize Sp.cO (cE, cF, cM, cO, ()) (x.2.2.1.getD (Int.toNat 1) (0, 0, 0, ())) = eO
  generalize Sp.iE (Sp.madeP x.1, ()) x.2.1 = iE
  generalize Sp.iF (Sp.madeP x.1, ()) x.2.1 = iF
  generalize Sp.iM (Sp.madeP x.1, ()) x.2.1 = iM
  generalize Sp.iO (Sp.madeP x.1, ()) x.2.1 = iO
  refine And.intro ?_ (And.intro ?_ (And.intro ?_ (And.intro ?_ (And.intro ?_ ?_))))
  · exact hfine
  · refine And.intro ?_ ?_
    · exact in03
    · exact lens_out hgl'
  · refine And.intro ?_ (And.intro ?_ ?_)
    · exact ⟨hfine, hP100⟩
    · exact in13
    · exact lens_out hcl'
  · refine And.intro ?_ (And.intro hP1 (And.intro hP100 hrm))
    · exact in23
  · exact ⟨0, Nat.zero_le _, rfl⟩
  intro i hi _
  clear hgl' hcl' hrm hfine
  generalize ((gE, gF, gM, gO, ()) : Sp.Gr) = G
  generalize ((iE, iF, iM, iO, ()) : Sp.Gr) = I
  generalize ((cE, cF, cM, cO, ()) : Sp.Gr) = D
  generalize ((eE, eF, eM, eO, ()) : Sp.Gr) = E
  have hl4 : ([G, I, D, E] : List Sp.Gr).length = 4 := rfl
  generalize hL : ([G, I, D, E] : List Sp.Gr) = L
  rw [hL] at hl4
  refine ⟨fun hlt => ?_, fun hge => ⟨fun h => ⟨hu h, ho, fun hh => ?_, ⟨h1000, fun _ => ho⟩, ?_⟩, fun h => ⟨⟨h1000, fun _ => ho⟩, ?_⟩⟩⟩
  · have hi4 : inN (i : Int) L.length := ⟨by omega, hlt⟩
    refine ⟨⟨hi4, h1000, hi4, h1000, hi4, h1000, hi4, h1000, hi4, ho, hi4, ho, hi4, ho, hi4, ho⟩, fun h => ?_, inK_of (by omega) (by omega), i + 1, by omega, by omega, by omega⟩
    rw [or4] at h; exact Bool.noConfusion h
  · rw [or2] at hh; exact Bool.noConfusion hh
  · exact hv
  · exact hv
end Go.User
namespace Go.Proofs.Ytmoonjcbljefaaa
open Go.ChangeShapes Go.WideShapes Go.ChangeAt Go.RowKit Go.Proofs Go.Lf

theorem arg_chs {W : World} {base : Nat} {v : Value} (h : Value.okWide Try.prog W .any base 25 v) (F : NSet) : ∃ l : List (Int × Int × Int × Unit), OwnV F W (.arr 3 Go.User.tCh) .shr none' v l :=
  arg_agg (τ := .arr 3 Go.User.tCh) (ts := [5, 5, 3, 5, 5, 3, 5, 5, 3]) (.inr ⟨_, _, Try.underlying25⟩) rfl (by kernel_rfl) (by kernel_rfl) rfl (fun i l u h1 h2 => by
    match i, h1, h2 with
    | 0, h1, h2 => cases h1; cases h2; exact Try.underlying5
    | 1, h1, h2 => cases h1; cases h2; exact Try.underlying5
    | 2, h1, h2 => cases h1; cases h2; exact Try.underlying3
    | 3, h1, h2 => cases h1; cases h2; exact Try.underlying5
    | 4, h1, h2 => cases h1; cases h2; exact Try.underlying5
    | 5, h1, h2 => cases h1; cases h2; exact Try.underlying3
    | 6, h1, h2 => cases h1; cases h2; exact Try.underlying5
    | 7, h1, h2 => cases h1; cases h2; exact Try.underlying5
    | 8, h1, h2 => cases h1; cases h2; exact Try.underlying3) h F

set_option maxRecDepth 100000 in
theorem matches_lifted (hF : FOk Try.prog 3 Go.User.S3) (os : Os) (started : os.Started) (H : Type) (enc : TypeId × Value → H) :
    ReturnsInHanded {} Try.checked os 3 .any (Rows.axiomMatchesReferenceSpec.pre6 enc Try.prog Try.f3 Rows.axiomMatchesReferenceRow.domain false) (Rows.axiomMatchesReferenceSpec.post enc Try.prog Try.f3 false true false false) := by
  refine returnsInHanded_of_change_sized (C := Try.checked) Try.own started (by kernel_rfl) Try.func3
    (ChangeSpec.witness6 (enc := enc) (C := Try.checked) false ⟨#[], #[.slice none 0 0, .slice none 0 0, .agg #[.int .u8 0, .int .u8 0, .int .i64 0, .int .u8 0, .int .u8 0, .int .i64 0, .int .u8 0, .int .u8 0, .int .i64 0]], []⟩ 3 (by kernel_rfl) (by kernel_rfl) (by kernel_rfl) (by kernel_rfl)) ?_
  intro W base args ds gs before hval0 hW _ hsz0 _
  have hsz : (DataW.weightsEach Try.prog (Try.f3.params.toList ++ Rows.axiomMatchesReferenceSpec.plain.varTypes Try.prog) (ds ++ gs)).all (· ≤ reachBytes) = true := hsz0
  clear hsz0
  have hval : ∀ (j : Nat) t v, Try.f3.params[j]? = some t → args[j]? = some v → Value.okWide Try.prog W .any base t v := hval0
  have hW' := hW
  obtain ⟨p, q, hA0, hV, rfl, _, _⟩ := hW
  have hA : DataW.TrodAll enc Try.prog W 0 (fun _ => true) true Try.f3.params.toList args.toList ds p := hA0
  rw [Try.params3] at hA hval hsz
  obtain ⟨v0, v1, v2, d0, d1, d2, p0, p1, p2, rfl, rfl, rfl, h0, h1, h2⟩ := trodAll_three hA
  obtain ⟨rfl, rfl⟩ := trodVars_none hV
  clear hA0 hval0
  simp only [List.append_nil, List.append_assoc] at hW'
  have hlt0 : ∀ x ∈ p0, x.block < W.heap.size := fun x hx => hW'.lt x (by simp [hx])
  have hlt1 : ∀ x ∈ p1, x.block < W.heap.size := fun x hx => hW'.lt x (by simp [hx])
  have hlt2 : ∀ x ∈ p2, x.block < W.heap.size := fun x hx => hW'.lt x (by simp [hx])
  have sz : ∀ (j : Nat) (xs ys : List (DataW H)), ([22, 22, 25] : List TypeId)[j]? = some 22 → ([d0, d1, d2] ++ ([] : List (DataW H)))[j]? = some (.slice xs ys) → xs.length ≤ lim := by
    intro j xs ys h1 h2
    have := sized_slice hsz (j := j) (t := 22) (e := 5) (show (([22, 22, 25] : List TypeId) ++ [])[j]? = some 22 by simpa using h1) h2 Try.underlying22
    rw [Try.bytes5] at this
    simp only [reachBytes] at this
    unfold lim
    omega
  obtain ⟨xs, hx⟩ := argOK_ints (k := .u8) Try.underlying22 Try.underlying5 Try.cells5 (hval 0 22 v0 rfl rfl) h0 hlt0 (fun xs ys h => sz 0 xs ys rfl (by rw [h]; rfl))
  obtain ⟨ys, hy⟩ := argOK_ints (k := .u8) Try.underlying22 Try.underlying5 Try.cells5 (hval 1 22 v1 rfl rfl) h1 hlt1 (fun xs ys h => sz 1 xs ys rfl (by rw [h]; rfl))
  obtain ⟨n, hn⟩ := arg_chs (hval 2 25 v2 rfl rfl) (fun b => b < W.heap.size)
  have hcall := hF.2 W (fun b => b < W.heap.size) [v0, v1, v2] (xs, ys, n, ()) (fun b h => h) ⟨v0, [v1, v2], rfl, hx, v1, [v2], rfl, hy, v2, [], rfl, hn, rfl⟩ trivial
  refine hcall.mono ?_
  rintro e W' ⟨v, F', S', rfl, hb, _, _, _, _, hv⟩
  have hv : OwnV F' W' .bool .shr S' v true := hv
  have := hv.bool_eq
  subst this
  have hargs0 := Below.trod Try.laidOut (by kernel_rfl) (of_decide_eq_true (by kernel_rfl)) h0 hb hlt0
  have hargs1 := Below.trod Try.laidOut (by kernel_rfl) (of_decide_eq_true (by kernel_rfl)) h1 hb hlt1
  have hargs2 := Below.trod Try.laidOut (by kernel_rfl) (of_decide_eq_true (by kernel_rfl)) h2 hb hlt2
  refine ⟨_, rfl, _, _, _, [], p0 ++ (p1 ++ p2), [], hW', ?_, trodAll_mk3 hargs0 hargs1 hargs2, rfl, hb.frame _, fun h => by cases h⟩
  exact trodAll_mk1 (shut_bool Try.underlying4 true)

theorem axiomMatchesReference_holds : Rows.AxiomMatchesReferenceSaid :=
  OpenClaim.holds_of_wide 3 Try.f3 rfl rfl rfl rfl rfl rfl rfl ⟨rfl, rfl, rfl, rfl, rfl⟩ rfl rfl rfl rfl rfl (by kernel_rfl) Try.func3 (by kernel_rfl)
    (of_decide_eq_true (by kernel_rfl)) (by unfold Func.isWrapper; first | (rw [if_pos (by decide +kernel)]; kernel_rfl) | (rw [if_neg (by decide +kernel)]; exact ⟨rfl, rfl⟩))
    (fun os started H enc _ => matches_lifted Go.User.ok3 os started H enc)
end Go.Proofs.Ytmoonjcbljefaaa
