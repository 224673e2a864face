/- Written by gen.py: what is left to show of each function. One operation after the other on a memory, and the law of sequential executions: the functions compute what they should. The law of fences: the functions compute what they should. The law of renaming: the functions compute what they should. The law of renaming. -/
import Derived.Test.YtmoonjcbljefaaaLfk
set_option linter.unusedVariables false
set_option linter.unusedSimpArgs false
namespace Go.User
open Go.Proofs Go.Lf
set_option maxRecDepth 100000
theorem vc14 : funI C14 (stpP C14) S14 L14 Try.f14 = (
let q0 : Int := (0 : Int);
let q1 : Nat := (100 : Nat);
let q2 : Prop := True ∧ True ∧ True;
let q3 : Prop := q2 ∧ True;
let q4 : Prop := True ∧ q2;
let q5 : Prop := True ∧ q4;
let q6 : Prop := True ∧ q5;
let q7 : Prop := True ∧ True ∧ q6;
let q8 : Prop := (True ∧ True) ∧ True ∧ True;
let q9 : Prop := (True ∧ True) ∧ True;
let q10 : List (List Int) := ([] : List tI.slice.den);
let q11 : List Int × Unit := (([] : List tI.den), ());
let q12 : List (Int × (Int × Int × Int × Unit) × Int × Unit) × List Int × List (List Int) × List Int × Unit := (([] : List tLEv.den), ([] : List tI.den), q10, q11);
let q13 : Prop := q12 = q12;
let q14 : List (List Int) × List Int × Unit := (([] : List tI.den) :: ([] : List tI.den) :: ([] : List tI.den) :: q10, q11);
let q15 : List Int × List (List Int) × List Int × Unit := (([] : List tI.den), q14);
let q16 : Int := (1 : Int);
let q17 : Int := (-1 : tI.den);
let q18 : Prop := q4 ∧ True;
let q19 : List Int := -q16 :: ([] : List tI.den);
let q20 : List Step := Step.fst :: ([] : List Step);
let q21 : List Step := Step.snd :: q20;
let q22 : List Step := List.append._f (([] : List Step)) PUnit.unit q21;
let q23 : Int × Unit := (q0, ());
let q24 : Int × (Int × Int × Int × Unit) × Int × Unit := (q0, (q0, q0, q23), q23);
let q25 : List Step := Step.snd :: q21;
let q26 : List Step := List.append._f (([] : List Step)) PUnit.unit (Step.snd :: q25);
let q27 : Prop := Step.snd = Step.snd ∧ Step.snd = Step.snd ∧ Step.fst = Step.fst ∧ True;
∀ (x : (List (List (Int × Int × Int × Unit)) × Unit) × List Int × Unit),
  let q28 : List (Int × (Int × Int × Int × Unit) × Int × Unit) := Sp.evs q0 x.1.1;
  let q29 : Nat := q28.length;
  let q30 : Nat := x.1.1.length;
  let q31 : Prop := x.2.1 = x.2.1;
  let q32 : Prop := x.1 = x.1;
  let q33 : List (Int × (Int × Int × Int × Unit) × Int × Unit) × List Int × List (List Int) × List Int × Unit := (q28, q15);
  let q34 : Prop := q31 ∧ q32 ∧ q13 ∧ q33 = q33 ∧ True;
  let q35 : List Int := Sp.enN x.1.1 q30;
  (q29 ≤ q1 ∧ ∀ (x : Sp.LEv), x ∈ q28 → inN x.2.1.2.1 (3 : Nat)) ∧ q30 ≤ q1 →
    dFact (((Ty.int IntKind.i64).prod ((Ty.int IntKind.i64).prod ((Ty.int IntKind.i64).prod Ty.unit))).slice.slice.prod Ty.unit) x.1 ∧ dFact (Ty.int IntKind.u8).slice x.2.1 ∧ True →
      q3 ∧
        ((True ∧ q29 ≤ (1000 : Nat) ∧ q7) ∧ True ∧ True) ∧
          q8 ∧
            q8 ∧
              q9 ∧
                q9 ∧
                  (∃ (x_1 : Nat), x_1 ≤ q30 ∧ q0 = (↑x_1 : Int) ∧ q0 = (↑(Sp.evs q0 (List.take x_1 x.1.1)).length : Int) ∧ ([] : List tI.den) = Sp.nxN x.1.1 x_1 ∧ ([] : List tI.den) = Sp.enN x.1.1 x_1 ∧ q34) ∧
                    ∀ (x_1 : Nat),
                      let q36 : Int := (↑(Sp.evs q0 (List.take x_1 x.1.1)).length : Int);
                      let q37 : List Int := Sp.nxN x.1.1 x_1;
                      let q38 : List Int := Sp.enN x.1.1 x_1;
                      let q39 : Bool := decide ((↑x_1 : Int) < (↑q30 : Int));
                      let q40 : List Int := q36 :: ([] : List tI.den);
                      let q41 : Int := q36 + (↑(List.length (x.1.1.getD (↑x_1 : Int).toNat (([] : List tLOp.den)))) : Int);
                      let q42 : Nat := q38.length;
                      let q43 : List Int := q41 :: ([] : List tI.den);
                      let q44 : Int := (↑x_1 : Int) + q16;
                      let q45 : Prop := q38 = q38;
                      let q46 : Prop := q36 = q36;
                      let q47 : Prop := q45 ∧ q46 ∧ True;
                      let q48 : Prop := q31 ∧ q32 ∧ q13 ∧ q37 = q37 ∧ q47;
                      let q49 : Prop := q31 ∧ q32 ∧ q13 ∧ q47;
                      x_1 ≤ q30 →
                        dFact (Ty.int IntKind.i64) (↑x_1 : Int) ∧ dFact (Ty.int IntKind.i64) q36 ∧ dFact (Ty.int IntKind.i64).slice q37 ∧ dFact (Ty.int IntKind.i64).slice q38 ∧ True →
                          (q6 ∧ True) ∧
                            (q39 = true → (q4 ∧ (↑(q37.length + q40.length) : Int) ≤ maxNew ∧ True ∧ True) ∧ ((True ∧ True ∧ True ∧ True ∧ inN (↑x_1 : Int) q30 ∧ True ∧ True ∧ inK IntKind.i64 q41 ∧ True ∧ True) ∧ True) ∧ (q4 ∧ (↑(q42 + q43.length) : Int) ≤ maxNew ∧ True ∧ True) ∧ ((True ∧ inK IntKind.i64 q44 ∧ True ∧ True) ∧ True) ∧ ∃ (y : Nat), y ≤ q30 ∧ q30 - y < q30 - x_1 ∧ q44 = (↑y : Int) ∧ q41 = (↑(Sp.evs q0 (List.take y x.1.1)).length : Int) ∧ q37 ++ q40 = Sp.nxN x.1.1 y ∧ q38 ++ q43 = Sp.enN x.1.1 y ∧ q34) ∧
                              (q39 = false →
                                q9 ∧
                                  (∃ (x : Nat), x ≤ q29 ∧ q0 = (↑x : Int) ∧ q33 = (q28, List.replicate x q17, q14) ∧ q48) ∧
                                    ∀ (x_2 : Nat),
                                      let q50 : List Int := List.replicate x_2 q17;
                                      let q51 : List (Int × (Int × Int × Int × Unit) × Int × Unit) × List Int × List (List Int) × List Int × Unit := (q28, q50, q14);
                                      let q52 : Bool := decide ((↑x_2 : Int) < q36);
                                      let q53 : Int := (↑x_2 : Int) + q16;
                                      x_2 ≤ q29 →
                                        dFact (Ty.int IntKind.i64) (↑x_2 : Int) ∧ dFact (((Ty.int IntKind.i64).prod (((Ty.int IntKind.i64).prod ((Ty.int IntKind.i64).prod ((Ty.int IntKind.i64).prod Ty.unit))).prod ((Ty.int IntKind.i64).prod Ty.unit))).slice.prod ((Ty.int IntKind.i64).slice.prod ((Ty.int IntKind.i64).slice.slice.prod ((Ty.int IntKind.i64).slice.prod Ty.unit)))) q51 ∧ True →
                                          q18 ∧
                                            (q52 = true → (q4 ∧ (↑(q50.length + q19.length) : Int) ≤ maxNew ∧ True ∧ q22 = q22 ∧ True) ∧ ((True ∧ inK IntKind.i64 q53 ∧ True ∧ True) ∧ True) ∧ ∃ (y : Nat), y ≤ q29 ∧ q29 - y < q29 - x_2 ∧ q53 = (↑y : Int) ∧ (q28, q50 ++ q19, q14) = (q28, List.replicate y q17, q14) ∧ q48) ∧
                                              (q52 = false →
                                                q9 ∧
                                                  (∃ (x_3 : Nat),
                                                      let q54 : List Int × List (Int × (Int × Int × Int × Unit) × Int × Unit) × List Int × List (List Int) × List Int := Sp.runN x.1.1 x.2.1 x_3;
                                                      let q55 : List (Int × (Int × Int × Int × Unit) × Int × Unit) × List Int × List (List Int) × List Int := q54.2;
                                                      let q56 : List Int × List (List Int) × List Int := q55.2;
                                                      let q57 : List (List Int) × List Int := q56.2;
                                                      x_3 ≤ q29 ∧ q0 = (↑x_3 : Int) ∧ q37 = q54.1 ∧ q51 = (q55.1, q56.1, q57.1, q57.2, ()) ∧ q49) ∧
                                                    ∀ (x_3 : Nat),
                                                      let q58 : List Int × List (Int × (Int × Int × Int × Unit) × Int × Unit) × List Int × List (List Int) × List Int := Sp.runN x.1.1 x.2.1 x_3;
                                                      let q59 : List Int := q58.1;
                                                      let q60 : List (Int × (Int × Int × Int × Unit) × Int × Unit) × List Int × List (List Int) × List Int := q58.2;
                                                      let q61 : List (Int × (Int × Int × Int × Unit) × Int × Unit) := q60.1;
                                                      let q62 : List Int × List (List Int) × List Int := q60.2;
                                                      let q63 : List Int := q62.1;
                                                      let q64 : List (List Int) × List Int := q62.2;
                                                      let q65 : List (List Int) := q64.1;
                                                      let q66 : List Int := q64.2;
                                                      let q67 : List Int × Unit := (q66, ());
                                                      let q68 : List (List Int) × List Int × Unit := (q65, q67);
                                                      let q69 : List (Int × (Int × Int × Int × Unit) × Int × Unit) × List Int × List (List Int) × List Int × Unit := (q61, q63, q68);
                                                      let q70 : Bool := decide ((↑x_3 : Int) < q36);
                                                      let q71 : Nat := q59.length;
                                                      let q72 : Prop := q31 ∧ q32 ∧ q13 ∧ q69 = q69 ∧ q59 = q59 ∧ q45 ∧ q46 ∧ (↑x_3 : Int) = (↑x_3 : Int) ∧ True;
                                                      let q73 : Nat := q59.length;
                                                      let q74 : Int := Sp.byteAt x.2.1 (↑x_3 : Int);
                                                      let q75 : Nat := q61.length;
                                                      let q76 : Int := (↑x_3 : Int) + q16;
                                                      let q77 : Prop := (True ∧ inK IntKind.i64 q76 ∧ True ∧ True) ∧ True;
                                                      let q78 : Nat := q65.length;
                                                      x_3 ≤ q29 →
                                                        dFact (Ty.int IntKind.i64) (↑x_3 : Int) ∧ dFact (Ty.int IntKind.i64).slice q59 ∧ dFact (((Ty.int IntKind.i64).prod (((Ty.int IntKind.i64).prod ((Ty.int IntKind.i64).prod ((Ty.int IntKind.i64).prod Ty.unit))).prod ((Ty.int IntKind.i64).prod Ty.unit))).slice.prod ((Ty.int IntKind.i64).slice.prod ((Ty.int IntKind.i64).slice.slice.prod ((Ty.int IntKind.i64).slice.prod Ty.unit)))) q69 ∧ True →
                                                          q18 ∧
                                                            (q70 = true →
                                                                q8 ∧
                                                                  q9 ∧
                                                                    (∃ (x : Nat), x ≤ q71 ∧ q0 = (↑x : Int) ∧ ([] : List tI.den) = Sp.canN q59 q35 x ∧ q72) ∧
                                                                      ∀ (x_4 : Nat),
                                                                        let q79 : Bool := decide ((↑x_4 : Int) < (↑q73 : Int));
                                                                        let q80 : Nat := (↑x_4 : Int).toNat;
                                                                        let q81 : Bool := decide (q59.getD q80 q0 < q38.getD q80 q0);
                                                                        let q82 : Nat := (Sp.canN q59 q35 x_4).length;
                                                                        let q83 : List Int := (↑x_4 : Int) :: ([] : List tI.den);
                                                                        let q84 : Int := (↑x_4 : Int) + q16;
                                                                        let q85 : Prop := (True ∧ inK IntKind.i64 q84 ∧ True ∧ True) ∧ True;
                                                                        let q86 : Int := (↑q82 : Int);
                                                                        let q87 : Int := q74.tmod q86;
                                                                        let q88 : Int := (Sp.canN q59 q35 x_4).getD q87.toNat q0;
                                                                        let q89 : Prop := inN q88 q73;
                                                                        let q90 : Nat := q88.toNat;
                                                                        let q91 : Int := q59.getD q90 q0;
                                                                        let q92 : Int := q91 + q16;
                                                                        let q93 : Prop := inN q91 q75;
                                                                        let q94 : Nat := q91.toNat;
                                                                        let q95 : Int × (Int × Int × Int × Unit) × Int × Unit := q61.getD q94 q24;
                                                                        let q96 : (Int × Int × Int × Unit) × Int × Unit := q95.2;
                                                                        let q97 : Int × Int × Int × Unit := q96.1;
                                                                        let q98 : Bool := q97.1 == (4 : Int);
                                                                        let q99 : List Int := q91 :: ([] : List tI.den);
                                                                        let q100 : Nat := q99.length;
                                                                        let q101 : Int := q97.2.1;
                                                                        let q102 : Prop := inN q101 q78;
                                                                        let q103 : Bool := Sp.reads q97;
                                                                        let q104 : Prop := (true && bif q103 then true else false) = true → True;
                                                                        let q105 : Nat := q101.toNat;
                                                                        let q106 : List Int := q65.getD q105 (([] : List tI.den));
                                                                        let q107 : Nat := q106.length;
                                                                        let q108 : Int := (↑q107 : Int);
                                                                        let q109 : Bool := bif q103 then decide (q108 > q0) else false;
                                                                        let q110 : Int := q108 - q16;
                                                                        let q111 : List Int := q63.set q94 (q106.getD q110.toNat q0);
                                                                        let q112 : Int := q111.getD q94 q0;
                                                                        let q113 : Bool := Sp.writes q97;
                                                                        let q114 : Prop := q113 = true;
                                                                        let q115 : Prop := True ∧ True ∧ True ∧ True ∧ True ∧ True ∧ True ∧ (↑(q107 + q100) : Int) ≤ maxNew ∧ q102 ∧ True;
                                                                        let q116 : Prop := Step.snd = Step.snd ∧ Step.snd = Step.snd ∧ Step.fst = Step.fst ∧ Step.idx q105 = Step.idx q105 ∧ True;
                                                                        let q117 : Prop := True ∧ q27 ∧ True ∧ True ∧ q116 ∧ q5;
                                                                        let q118 : Prop := True ∧ True ∧ True ∧ True ∧ True ∧ True ∧ True ∧ True ∧ True ∧ True ∧ q116 ∧ True ∧ True ∧ True ∧ q27 ∧ True ∧ True ∧ True ∧ True ∧ True ∧ True ∧ True ∧ True ∧ True ∧ True ∧ True ∧ True ∧ True ∧ True ∧ True ∧ True ∧ True ∧ True ∧ True ∧ True ∧ True ∧ True ∧ True ∧ True ∧ True ∧ True ∧ True ∧ True ∧ True ∧ True ∧ True ∧ True ∧ True ∧ True ∧ True ∧ True ∧ True ∧ True ∧ True ∧ True ∧ True ∧ True ∧ True ∧ True ∧ True ∧ True ∧ True ∧ True ∧ True ∧ True ∧ True ∧ True ∧ True ∧ True ∧ True ∧ True ∧ True ∧ True ∧ True ∧ True ∧ True ∧ True ∧ True ∧ True ∧ True ∧ True ∧ True ∧ True ∧ True ∧ True ∧ True ∧ True ∧ True ∧ True ∧ True ∧ True ∧ True ∧ True ∧ True ∧ True ∧ True ∧ True ∧ True ∧ True ∧ True ∧ True ∧ True ∧ True ∧ True ∧ True ∧ True ∧ True ∧ True ∧ True ∧ True ∧ True ∧ True ∧ True ∧ True ∧ True ∧ True ∧ True ∧ True ∧ q116 ∧ True ∧ True ∧ True ∧ True ∧ True ∧ True ∧ True ∧ True ∧ True ∧ True ∧ q7;
                                                                        let q119 : List Step := List.append._f q25 ⟨List.append._f q21 ⟨List.append._f q20 ⟨List.append._f (([] : List Step)) PUnit.unit, PUnit.unit⟩, List.append._f (([] : List Step)) PUnit.unit, PUnit.unit⟩, List.append._f q20 ⟨List.append._f (([] : List Step)) PUnit.unit, PUnit.unit⟩, List.append._f (([] : List Step)) PUnit.unit, PUnit.unit⟩ (Step.idx q105 :: ([] : List Step));
                                                                        let q120 : Prop := q119 = q119 ∧ True;
                                                                        let q121 : List (Int × (Int × Int × Int × Unit) × Int × Unit) := q61.set q94 (q95.1, q97, Sp.value q61 q112, q96.2.2);
                                                                        let q122 : List (List Int) × List Int × Unit := (q65.set q105 (q106 ++ q99), q67);
                                                                        let q123 : Prop := q113 = false;
                                                                        x_4 ≤ q71 →
                                                                          dFact (Ty.int IntKind.i64) (↑x_4 : Int) ∧ dFact (Ty.int IntKind.i64).slice (Sp.canN q59 q35 x_4) ∧ True →
                                                                            (q5 ∧ True) ∧
                                                                              (q79 = true → ((True ∧ True ∧ inN (↑x_4 : Int) q73 ∧ True ∧ True ∧ True ∧ inN (↑x_4 : Int) q42 ∧ q2) ∧ True) ∧ (q81 = true → (q4 ∧ (↑(q82 + q83.length) : Int) ≤ maxNew ∧ True ∧ True) ∧ q85 ∧ ∃ (y : Nat), y ≤ q71 ∧ q71 - y < q71 - x_4 ∧ q84 = (↑y : Int) ∧ Sp.canN q59 q35 x_4 ++ q83 = Sp.canN q59 q35 y ∧ q72) ∧ (q81 = false → q85 ∧ ∃ (y : Nat), y ≤ q71 ∧ q71 - y < q71 - x_4 ∧ q84 = (↑y : Int) ∧ Sp.canN q59 q35 x_4 = Sp.canN q59 q35 y ∧ q72)) ∧
                                                                                (q79 = false →
                                                                                  ((True ∧ True ∧ True ∧ (0 : (AK.val tI).den) ≤ (↑x_3 : Int) ∧ True ∧ True ∧ q86 ≠ q0 ∧ inN q87 q82 ∧ q2) ∧ True) ∧
                                                                                    ((True ∧ True ∧ q89 ∧ q2) ∧ True) ∧
                                                                                      ((True ∧ True ∧ q89 ∧ True ∧ inK IntKind.i64 q92 ∧ q89 ∧ True) ∧ True ∧ True) ∧
                                                                                        ((True ∧ True ∧ True ∧ q93 ∧ q4) ∧ True ∧ True) ∧
                                                                                          q18 ∧
                                                                                            (q98 = true →
                                                                                                (q5 ∧ (↑(q66.length + q100) : Int) ≤ maxNew ∧ True ∧ q26 = q26 ∧ True) ∧
                                                                                                  q77 ∧
                                                                                                    ∃ (y : Nat),
                                                                                                      let q124 : List Int × List (Int × (Int × Int × Int × Unit) × Int × Unit) × List Int × List (List Int) × List Int := Sp.runN x.1.1 x.2.1 y;
                                                                                                      let q125 : List (Int × (Int × Int × Int × Unit) × Int × Unit) × List Int × List (List Int) × List Int := q124.2;
                                                                                                      let q126 : List Int × List (List Int) × List Int := q125.2;
                                                                                                      let q127 : List (List Int) × List Int := q126.2;
                                                                                                      y ≤ q29 ∧ q29 - y < q29 - x_3 ∧ q76 = (↑y : Int) ∧ q59.set q90 q92 = q124.1 ∧ (q61, q63, q65, q66 ++ q99, ()) = (q125.1, q126.1, q127.1, q127.2, ()) ∧ q49) ∧
                                                                                              (q98 = false →
                                                                                                ((True ∧ True ∧ True ∧ True ∧ q102 ∧ q2) ∧ True) ∧
                                                                                                  ((True ∧ True ∧ True ∧ q104 ∧ q104 ∧ q104 ∧ True ∧ True) ∧ True) ∧
                                                                                                    (q109 = true →
                                                                                                        ((True ∧ True ∧ True ∧ True ∧ True ∧ True ∧ inK IntKind.i64 q110 ∧ inN q110 q107 ∧ True ∧ inN q91 q63.length ∧ True) ∧ True ∧ True) ∧
                                                                                                          ((True ∧ True ∧ True ∧ True ∧ True ∧ True ∧ True ∧ inN q91 q111.length ∧ True ∧ q112 < (↑q75 : Int) ∧ q93 ∧ True ∧ True) ∧ True ∧ True) ∧
                                                                                                            q3 ∧
                                                                                                              (q114 →
                                                                                                                  ((q115 ∧ True ∧ True ∧ True ∧ True ∧ True ∧ True ∧ True ∧ (q117 ∧ True ∧ True ∧ True ∧ True ∧ True ∧ True ∧ True ∧ True ∧ True ∧ True ∧ True ∧ True ∧ True ∧ True ∧ True ∧ True ∧ True ∧ True ∧ True ∧ True ∧ True ∧ True ∧ True ∧ True ∧ True ∧ True ∧ True ∧ True ∧ True ∧ q116 ∧ q116 ∧ q118) ∧ True ∧ True) ∧ q120) ∧
                                                                                                                    q77 ∧
                                                                                                                      ∃ (y : Nat),
                                                                                                                        let q128 : List Int × List (Int × (Int × Int × Int × Unit) × Int × Unit) × List Int × List (List Int) × List Int := Sp.runN x.1.1 x.2.1 y;
                                                                                                                        let q129 : List (Int × (Int × Int × Int × Unit) × Int × Unit) × List Int × List (List Int) × List Int := q128.2;
                                                                                                                        let q130 : List Int × List (List Int) × List Int := q129.2;
                                                                                                                        let q131 : List (List Int) × List Int := q130.2;
                                                                                                                        y ≤ q29 ∧ q29 - y < q29 - x_3 ∧ q76 = (↑y : Int) ∧ q59.set q90 q92 = q128.1 ∧ (q121, q111, q122) = (q129.1, q130.1, q131.1, q131.2, ()) ∧ q49) ∧
                                                                                                                (q123 →
                                                                                                                  q77 ∧
                                                                                                                    ∃ (y : Nat),
                                                                                                                      let q132 : List Int × List (Int × (Int × Int × Int × Unit) × Int × Unit) × List Int × List (List Int) × List Int := Sp.runN x.1.1 x.2.1 y;
                                                                                                                      let q133 : List (Int × (Int × Int × Int × Unit) × Int × Unit) × List Int × List (List Int) × List Int := q132.2;
                                                                                                                      let q134 : List Int × List (List Int) × List Int := q133.2;
                                                                                                                      let q135 : List (List Int) × List Int := q134.2;
                                                                                                                      y ≤ q29 ∧ q29 - y < q29 - x_3 ∧ q76 = (↑y : Int) ∧ q59.set q90 q92 = q132.1 ∧ (q121, q111, q68) = (q133.1, q134.1, q135.1, q135.2, ()) ∧ q49)) ∧
                                                                                                      (q109 = false →
                                                                                                        q3 ∧
                                                                                                          (q114 →
                                                                                                              ((q115 ∧ True ∧ True ∧ True ∧ True ∧ True ∧ True ∧ True ∧ (q117 ∧ True ∧ True ∧ True ∧ True ∧ True ∧ True ∧ True ∧ True ∧ True ∧ True ∧ True ∧ True ∧ True ∧ True ∧ True ∧ True ∧ True ∧ True ∧ True ∧ True ∧ True ∧ True ∧ True ∧ True ∧ True ∧ True ∧ True ∧ True ∧ True ∧ True ∧ True ∧ q118) ∧ True ∧ True) ∧ q120) ∧
                                                                                                                q77 ∧
                                                                                                                  ∃ (y : Nat),
                                                                                                                    let q136 : List Int × List (Int × (Int × Int × Int × Unit) × Int × Unit) × List Int × List (List Int) × List Int := Sp.runN x.1.1 x.2.1 y;
                                                                                                                    let q137 : List (Int × (Int × Int × Int × Unit) × Int × Unit) × List Int × List (List Int) × List Int := q136.2;
                                                                                                                    let q138 : List Int × List (List Int) × List Int := q137.2;
                                                                                                                    let q139 : List (List Int) × List Int := q138.2;
                                                                                                                    y ≤ q29 ∧ q29 - y < q29 - x_3 ∧ q76 = (↑y : Int) ∧ q59.set q90 q92 = q136.1 ∧ (q61, q63, q122) = (q137.1, q138.1, q139.1, q139.2, ()) ∧ q49) ∧
                                                                                                            (q123 →
                                                                                                              q77 ∧
                                                                                                                ∃ (y : Nat),
                                                                                                                  let q140 : List Int × List (Int × (Int × Int × Int × Unit) × Int × Unit) × List Int × List (List Int) × List Int := Sp.runN x.1.1 x.2.1 y;
                                                                                                                  let q141 : List (Int × (Int × Int × Int × Unit) × Int × Unit) × List Int × List (List Int) × List Int := q140.2;
                                                                                                                  let q142 : List Int × List (List Int) × List Int := q141.2;
                                                                                                                  let q143 : List (List Int) × List Int := q142.2;
                                                                                                                  y ≤ q29 ∧ q29 - y < q29 - x_3 ∧ q76 = (↑y : Int) ∧ q59.set q90 q92 = q140.1 ∧ q69 = (q141.1, q142.1, q143.1, q143.2, ()) ∧ q49))))) ∧
                                                              (q70 = false → q8 ∧ q69 = (Sp.iE x.1 x.2.1, Sp.iF x.1 x.2.1, Sp.iM x.1 x.2.1, Sp.iO x.1 x.2.1, ()))))) := by kernel_rfl
theorem vc4 : funI C4 (stpP C4) S4 L4 Try.f4 = (
let q0 : Prop := (True ∧ True) ∧ True;
let q1 : Prop := True ∧ True ∧ True;
let q2 : Prop := q1 ∧ True;
let q3 : Int := (0 : Int);
let q4 : Nat := (100 : Nat);
let q5 : Prop := (true && true) = true;
let q6 : Prop := q5 → True;
∀ (x : List Int × List Int × Unit),
  let q7 : List (Int × (Int × Int × Int × Unit) × Int × Unit) := Sp.evs q3 (Sp.madeP x.1);
  let q8 : Nat := q7.length;
  let q9 : Prop := q8 ≤ (1000 : Nat);
  let q10 : List (List (Int × Int × Int × Unit)) × Unit := (Sp.madeP x.1, ());
  let q11 : List (Int × (Int × Int × Int × Unit) × Int × Unit) × List Int × List (List Int) × List Int × Unit := (Sp.iE q10 x.2.1, Sp.iF q10 x.2.1, Sp.iM q10 x.2.1, Sp.iO q10 x.2.1, ());
  let q12 : Bool := Sp.right q10 q11;
  let q13 : Prop := (true && bif q12 then true else false) = true;
  let q14 : Prop := q13 → True;
  True → dFact (Ty.int IntKind.u8).slice x.1 ∧ dFact (Ty.int IntKind.u8).slice x.2.1 ∧ True → q0 ∧ q2 ∧ q2 ∧ ((!true) = true → q0 ∧ false = true) ∧ ((!true) = false → ((True ∧ q1) ∧ True ∧ True) ∧ ((True ∧ True ∧ ((q8 ≤ q4 ∧ ∀ (x : Sp.LEv), x ∈ q7 → inN x.2.1.2.1 (3 : Nat)) ∧ (Sp.madeP x.1).length ≤ q4) ∧ True ∧ True) ∧ True ∧ True) ∧ ((True ∧ True ∧ q6 ∧ q6 ∧ (q5 → q9) ∧ True ∧ True ∧ q14 ∧ q14 ∧ (q13 → q9) ∧ q1) ∧ True) ∧ (bif q12 then Sp.allowed q10 q11 else false) = true)) := by kernel_rfl
end Go.User
namespace Go.User
open Go.Lf Go.Proofs

theorem can_succ {nx en : List Int} {i : Nat} (h : nx.getD i 0 < en.getD i 0) : Sp.canN nx en i ++ [(i : Int)] = Sp.canN nx en (i + 1) := by
  unfold Sp.canN; rw [Sp.sel_succ, if_pos (decide_eq_true h)]
theorem can_same {nx en : List Int} {i : Nat} (h : en.getD i 0 ≤ nx.getD i 0) : Sp.canN nx en i = Sp.canN nx en (i + 1) := by
  unfold Sp.canN; rw [Sp.sel_succ, if_neg (by simp; exact h), List.append_nil]

theorem ok14 : FOk Try.prog 14 S14 := by
  have hC : CtxOK Try.prog C14 := ctx_ok rfl rfl (fns_cons ok32 (fns_cons ok33 (fns_cons ok37 (fns_cons ok38 (fns_cons ok40 fns_nil))))) ptrs_nil
  refine FOk.intro hC (stpP_ok hC) Try.call14 Try.func14 (by kernel_rfl) (by kernel_rfl) L14 (vc14.mpr ?_)
  simp only [z1, z2, z3, z4, z5, z6, z7, z8, z9, z10, z11, z12, z13, z14, z15, z16, z17, z18, z19, z20, z21, z22, z23, z24, z25, z26, z27, z28, z29, z30, z31, z32, z33, z34, z35, z36, z37, z38, dFact]
  intro x hp hx
  obtain ⟨⟨h100, hX⟩, hp100⟩ := hp
  have hb := hx.2.2
  have hruns := Sp.IL.all (p := x.1.1) hX x.2.1
  have hst : ∀ i, i ≤ x.1.1.length → (Sp.evs 0 (x.1.1.take i)).length ≤ 100 := by
    intro i hi
    have := Sp.st_mono (p := x.1.1) hi
    rw [Sp.st_all] at this
    unfold Sp.st at this
    omega
  have hst1 : ∀ i, i < x.1.1.length → (Sp.evs 0 (x.1.1.take (i + 1))).length = (Sp.evs 0 (x.1.1.take i)).length + (x.1.1.getD i []).length := fun i hi => Sp.st_succ hi
  refine ⟨by omega, ⟨0, Nat.zero_le _, rfl, rfl, rfl, rfl⟩, ?_⟩
  intro i hi _
  refine ⟨fun hlt => ?_, fun hge => ?_⟩
  · have hlt : i < x.1.1.length := by omega
    have h1 := hst1 i hlt
    have h2 := hst (i + 1) hlt
    rw [Sp.nxN_len, Sp.enN_len]
    refine ⟨by rw [maxNew_eq]; omega, ⟨⟨by omega, by omega⟩, inK_of (by omega) (by show _ + ((x.1.1.getD i []).length : Int) ≤ _; omega)⟩, by rw [maxNew_eq]; omega, inK_of (by omega) (by omega), i + 1, by omega, by omega, by omega, ?_, ?_, ?_⟩
    · rw [h1]; rfl
    · rw [Sp.nxN_succ]
    · rw [Sp.enN_succ, h1]; rfl
  have hi' : i = x.1.1.length := by omega
  subst hi'
  refine ⟨⟨0, Nat.zero_le _, rfl, rfl⟩, ?_⟩
  have hall : (Sp.evs 0 (x.1.1.take x.1.1.length)).length = (Sp.evs 0 x.1.1).length := by rw [List.take_length]
  rw [hall]
  intro j hj _
  refine ⟨fun hlt => ⟨by rw [List.length_replicate, maxNew_eq]; omega, inK_of (by omega) (by omega), j + 1, by omega, by omega, by omega, by rw [List.replicate_succ']⟩, fun hge => ?_⟩
  have hj' : j = (Sp.evs 0 x.1.1).length := by omega
  subst hj'
  refine ⟨⟨0, Nat.zero_le _, rfl, rfl, rfl⟩, ?_⟩
  intro k hk _
  have h := hruns k hk
  have hsl := Sp.seqN_len x.1.1 x.2.1 k
  refine ⟨fun hlt => ?_, fun hge => ?_⟩
  · have hlt : k < (Sp.evs 0 x.1.1).length := by omega
    refine ⟨⟨0, Nat.zero_le _, rfl, rfl⟩, ?_⟩
    obtain ⟨hne, c, hc, hpc, e, hpe, hnx, he1, he2, hen, heX⟩ := h.next x.2.1 (k := k) (by omega)
    have hfoot : ∀ m : Nat, (Sp.runN x.1.1 x.2.1 (k + 1)) = Sp.runS (Sp.enN x.1.1 x.1.1.length) x.2.1 k (Sp.runN x.1.1 x.2.1 k) := fun _ => rfl
    have hlens : ((Sp.runN x.1.1 x.2.1 k).2.2.2.2).length ≤ 100 ∧ ∀ q : Nat, q < 3 → ((Sp.runN x.1.1 x.2.1 k).2.2.2.1.getD q []).length ≤ 100 := by
      refine ⟨?_, fun q hq => ?_⟩
      · rw [h.fo]
        have := List.length_filter_le (Sp.fX (Sp.evs 0 x.1.1)) (Sp.seqN x.1.1 x.2.1 k)
        omega
      · rw [h.mo q hq]
        have := List.length_filter_le (Sp.wX (Sp.evs 0 x.1.1) (q : Int)) (Sp.seqN x.1.1 x.2.1 k)
        omega
    have hpl3 := h.mo
    have hsame := (h.same (e : Int)).2
    have hX3 : inN (Sp.ev (Sp.runN x.1.1 x.2.1 k).2.1 (e : Int)).2.1.2.1 3 := by rw [hsame]; exact hX _ (Sp.ev_mem hen)
    have hnl := h.nxl
    have hel := h.el
    have hfl := h.fl
    have hml := h.ml
    have hinr := h.inr
    generalize hS : Sp.runN x.1.1 x.2.1 k = s at *
    obtain ⟨nx, E, F, M, O⟩ := s
    simp only at *
    intro i hi _
    have hcl : (Sp.canN nx (Sp.enN x.1.1 x.1.1.length) i).length ≤ i := by unfold Sp.canN; exact Sp.sel_len _ _
    have henl := Sp.enN_len x.1.1 x.1.1.length
    refine ⟨fun hlt2 => ⟨⟨inN_of hlt2, by omega, by rw [henl]; omega⟩, fun hcond => ⟨by rw [maxNew_eq]; omega, inK_of (by omega) (by omega), i + 1, by omega, by omega, by omega, can_succ hcond⟩, fun hcond => ⟨inK_of (by omega) (by omega), i + 1, by omega, by omega, by omega, can_same hcond⟩⟩, fun hge2 => ?_⟩
    have hi' : i = nx.length := by omega
    subst hi'
    have hcc : (Sp.canN nx (Sp.enN x.1.1 x.1.1.length) nx.length).getD ((Sp.byteAt x.2.1 (k : Int)).tmod ((Sp.canN nx (Sp.enN x.1.1 x.1.1.length) nx.length).length : Int)).toNat 0 = (c : Int) := hpc
    have hbn := Sp.byteAt_nonneg hb (k : Int)
    have ht1 := Int.tmod_nonneg ((Sp.canN nx (Sp.enN x.1.1 x.1.1.length) nx.length).length : Int) hbn.1
    have ht2 := Int.tmod_lt_of_pos (Sp.byteAt x.2.1 (k : Int)) (show (0 : Int) < ((Sp.canN nx (Sp.enN x.1.1 x.1.1.length) nx.length).length : Int) by omega)
    have hnx' : nx.getD (Int.toNat (c : Int)) 0 = (e : Int) := hnx
    rw [hcc, hnx']
    have hev : E.getD (Int.toNat (e : Int)) (0, (0, 0, 0, ()), 0, ()) = Sp.ev E (e : Int) := rfl
    simp only [hev, Int.toNat_natCast]
    have hev' : E.getD e (0, (0, 0, 0, ()), 0, ()) = Sp.ev E (e : Int) := rfl
    simp only [hev']
    have hrs : Sp.runN x.1.1 x.2.1 (k + 1) = (nx.set c ((e : Int) + 1), Sp.xE E M (e : Int), Sp.xF E F M (e : Int), Sp.xM E M (e : Int), Sp.xO E O (e : Int)) := by
      show Sp.runS (Sp.enN x.1.1 x.1.1.length) x.2.1 k (Sp.runN x.1.1 x.2.1 k) = _
      rw [hS]
      unfold Sp.runS Sp.xN
      simp only
      rw [hpc, hpe, Int.toNat_natCast]
    have hXt := hX3.2
    have hX0 := hX3.1
    have hpl : M.getD (Sp.ev E (e : Int)).2.1.2.1.toNat [] = Sp.plL E M (e : Int) := rfl
    have hplen := hlens.2 (Sp.ev E (e : Int)).2.1.2.1.toNat (by omega)
    simp only [hpl] at hplen ⊢
    have htk : Sp.takes E M (e : Int) = (!decide ((Sp.ev E (e : Int)).2.1.1 = 4) && Sp.reads (Sp.ev E (e : Int)).2.1 && decide (0 < (Sp.plL E M (e : Int)).length)) := rfl
    have hla : ((Sp.plL E M (e : Int)).getD ((((Sp.plL E M (e : Int)).length : Nat) : Int) - 1).toNat 0) = Sp.lastL E M (e : Int) := by
      unfold Sp.lastL; rw [show ((((Sp.plL E M (e : Int)).length : Nat) : Int) - 1).toNat = (Sp.plL E M (e : Int)).length - 1 from by omega]
    simp only [hla]
    have hplX : ∀ a ∈ Sp.plL E M (e : Int), 0 ≤ a ∧ a < (Sp.evs 0 x.1.1).length := by
      intro a ha
      unfold Sp.plL at ha
      rw [hpl3 _ (by omega)] at ha
      exact hinr a (List.mem_filter.1 ha).1
    have hnext : ∀ E' F' M' O', (E', F', M', O', ()) = (Sp.xE E M (e : Int), Sp.xF E F M (e : Int), Sp.xM E M (e : Int), Sp.xO E O (e : Int), ()) → inK .i64 ((k : Int) + 1) ∧ ∃ y : Nat, y ≤ (Sp.evs 0 x.1.1).length ∧ (Sp.evs 0 x.1.1).length - y < (Sp.evs 0 x.1.1).length - k ∧ (k : Int) + 1 = (y : Int) ∧ nx.set c ((e : Int) + 1) = (Sp.runN x.1.1 x.2.1 y).1 ∧ (E', F', M', O', ()) = ((Sp.runN x.1.1 x.2.1 y).2.1, (Sp.runN x.1.1 x.2.1 y).2.2.1, (Sp.runN x.1.1 x.2.1 y).2.2.2.1, (Sp.runN x.1.1 x.2.1 y).2.2.2.2, ()) := by
      intro E' F' M' O' heq
      refine ⟨inK_of (by omega) (by omega), k + 1, by omega, by omega, by omega, ?_, ?_⟩
      · rw [hrs]
      · rw [hrs]; exact heq
    refine ⟨⟨by show (0 : Int) ≤ _; omega, by omega, ⟨ht1, ht2⟩⟩, ⟨by omega, by omega⟩, ⟨⟨by omega, by omega⟩, inK_of (by omega) (by omega), ⟨by omega, by omega⟩⟩, ⟨by omega, by omega⟩, fun h4 => ?_, fun h4 => ⟨⟨by omega, by omega⟩, fun hrd => ?_, fun hrd => ?_⟩⟩
    · have htk0 : Sp.takes E M (e : Int) ≠ true := by rw [htk, decide_eq_true h4]; simp
      have := hnext E F M (O ++ [(e : Int)]) (by unfold Sp.xE Sp.xF Sp.xM Sp.xO; rw [if_neg htk0, if_neg htk0, if_neg (fun h => h.1 h4), if_pos h4])
      exact ⟨by rw [maxNew_eq]; omega, this⟩
    · have htk1 : Sp.takes E M (e : Int) = true := by rw [htk, decide_eq_false h4, hrd.1, decide_eq_true (by have := hrd.2; omega)]; rfl
      have hl0 : 0 < (Sp.plL E M (e : Int)).length := by have := hrd.2; omega
      have hlm : Sp.lastL E M (e : Int) ∈ Sp.plL E M (e : Int) := by
        unfold Sp.lastL; rw [Sp.getD_lt (by omega)]; exact List.getElem_mem _
      have hget : (F.set e (Sp.lastL E M (e : Int))).getD e 0 = Sp.lastL E M (e : Int) := by
        rw [Sp.getD_lt (by simp; omega)]; simp
      have hO : Sp.xO E O (e : Int) = O := by unfold Sp.xO; rw [if_neg h4]
      have hF : Sp.xF E F M (e : Int) = F.set e (Sp.lastL E M (e : Int)) := by unfold Sp.xF; rw [if_pos htk1]; rfl
      have hE : Sp.xE E M (e : Int) = E.set e ((Sp.ev E (e : Int)).1, (Sp.ev E (e : Int)).2.1, Sp.value E (Sp.lastL E M (e : Int)), (Sp.ev E (e : Int)).2.2.2) := by unfold Sp.xE; rw [if_pos htk1]; rfl
      rw [hget]
      refine ⟨⟨inK_of (by omega) (by omega), ⟨by omega, by omega⟩, ⟨by omega, by omega⟩⟩, ⟨⟨by omega, by simp; omega⟩, by have := hplX _ hlm; omega, ⟨by omega, by omega⟩⟩, fun hw => ⟨⟨by rw [maxNew_eq]; omega, ⟨by omega, by omega⟩⟩, hnext _ _ _ _ ?_⟩, fun hw => hnext _ _ _ _ ?_⟩
      · rw [hO, hF, hE]; unfold Sp.xM; rw [if_pos ⟨h4, hw⟩]
      · rw [hO, hF, hE]; unfold Sp.xM; rw [if_neg (fun h => by rw [hw] at h; exact absurd h.2 (by decide))]
    · have htk0 : Sp.takes E M (e : Int) ≠ true := by
        rw [htk, decide_eq_false h4]
        intro hh
        simp only [Bool.not_false, Bool.true_and, Bool.and_eq_true, decide_eq_true_eq] at hh
        rw [hh.1, decide_eq_true (by have := hh.2; omega)] at hrd
        cases hrd
      have hO : Sp.xO E O (e : Int) = O := by unfold Sp.xO; rw [if_neg h4]
      have hF : Sp.xF E F M (e : Int) = F := by unfold Sp.xF; rw [if_neg htk0]
      have hE : Sp.xE E M (e : Int) = E := by unfold Sp.xE; rw [if_neg htk0]
      refine ⟨fun hw => ⟨⟨by rw [maxNew_eq]; omega, ⟨by omega, by omega⟩⟩, hnext _ _ _ _ ?_⟩, fun hw => hnext _ _ _ _ ?_⟩
      · rw [hO, hF, hE]; unfold Sp.xM; rw [if_pos ⟨h4, hw⟩]
      · rw [hO, hF, hE]; unfold Sp.xM; rw [if_neg (fun h => by rw [hw] at h; exact absurd h.2 (by decide))]
  · have hk' : k = (Sp.evs 0 x.1.1).length := by omega
    subst hk'
    rfl

theorem ok4 : FOk Try.prog 4 S4 := by
  have hC : CtxOK Try.prog C4 := ctx_ok rfl rfl (fns_cons ok10 (fns_cons ok11 (fns_cons ok14 (fns_cons ok16 (fns_cons ok18 fns_nil))))) ptrs_nil
  refine FOk.intro hC (stpP_ok hC) Try.call4 Try.func4 (by kernel_rfl) (by kernel_rfl) L4 (vc4.mpr ?_)
  simp only [z1, z2, z3, z4, z5, z6, z7, z8, z9, z10, z11, z12, z13, z14, z15, z16, z17, z18, z19, z20, z21, z22, z23, z24, z25, z26, z27, z28, z29, z30, z31, z32, z33, z34, z35, z36, z37, z38, dFact]
  intro x hx
  have hfine := Sp.madeP_fine hx.1.2
  have hv := Sp.madeP_valid hx.1.2
  have hR := (Sp.run_right (b := x.2.1) hv).1
  have hA := Sp.run_allowed (b := x.2.1) hv
  have hl : (Sp.madeP x.1).length ≤ 100 := by
    have h := hv
    unfold Sp.valid at h
    simp only [Bool.and_eq_true, decide_eq_true_eq] at h
    have := h.1.1.1.2
    exact Nat.le_trans this (by decide)
  refine ⟨⟨hfine, hl⟩, ⟨Nat.le_trans hfine.1 (by decide), fun _ => Nat.le_trans hfine.1 (by decide)⟩, ?_⟩
  exact ⟨(Sp.right_iff _ _).2 hR, hA⟩
end Go.User
namespace Go.User
open Go.Lf Go.Proofs

theorem ok25 : FOk Try.prog 25 S25 := by
  have hC : CtxOK Try.prog C25 := ctx_ok rfl rfl fns_nil ptrs_nil
  refine FOk.intro hC (stpP_ok hC) Try.call25 Try.func25 (by kernel_rfl) (by kernel_rfl) L25 (vc25.mpr ?_)
  simp only [z1, z2, z3, z4, z5, z6, z7, z8, z9, z10, z11, z12, z13, z14, z15, z16, z17, z18, z19, z20, z21, z22, z23, z24, z25, z26, z27, z28, z29, z30, z31, z32, z33, z34, z35, z36, z37, z38, dFact]
  intro x hp hx
  obtain ⟨h1000, hv⟩ := hp
  refine ⟨⟨0, Nat.zero_le _, rfl, rfl⟩, ?_⟩
  intro i hi _
  have hle := Sp.renN_le x.1 x.2.1 i
  refine ⟨fun hlt => ?_, fun hge => ?_⟩
  · have hlt' : i < x.1.length := by omega
    have hs := Sp.renN_succ (l := x.1) (to := x.2.1) hlt'
    have hvi := hv (x.1.getD i 0) (by rw [Sp.getD_lt hlt']; exact List.getElem_mem _)
    refine ⟨inN_of hlt, fun h0 => ⟨⟨inN_of hlt, by rw [maxNew_eq]; omega⟩, inK_of (by omega) (by omega), i + 1, by omega, by omega, by omega, ?_⟩, fun h0 => ⟨⟨inN_of hlt, ⟨h0, hvi⟩⟩, fun h1 => ⟨⟨⟨inN_of hlt, ⟨h0, hvi⟩⟩, by rw [maxNew_eq]; omega⟩, inK_of (by omega) (by omega), i + 1, by omega, by omega, by omega, ?_⟩, fun h1 => ⟨inK_of (by omega) (by omega), i + 1, by omega, by omega, by omega, ?_⟩⟩⟩
    · rw [hs, if_pos h0]
    · rw [hs, if_neg (by omega), if_pos h1]
    · rw [hs, if_neg (by omega), if_neg (by omega), List.append_nil]
  · have : i = x.1.length := by omega
    subst this
    rfl

theorem gg_eta (p : List (List Sp.LOp)) (b : List Int) (n : Int) : (Sp.ggE p b n, Sp.ggF p b n, Sp.ggM p b n, Sp.ggO p b n, ()) = Sp.gg p b n := by
  unfold Sp.ggE Sp.ggF Sp.ggM Sp.ggO
  exact gr_eta _
theorem gg_yes {p : List (List Sp.LOp)} {b : List Int} {n : Int} (h : n % 2 = 0) : Sp.gg p b n = (Sp.gE (p, ()) b, Sp.gF (p, ()) b, Sp.gM (p, ()) b, Sp.gO (p, ()) b, ()) := by unfold Sp.gg; rw [if_pos h]
theorem gg_no {p : List (List Sp.LOp)} {b : List Int} {n : Int} (h : ¬ n % 2 = 0) : Sp.gg p b n = (Sp.iE (p, ()) b, Sp.iF (p, ()) b, Sp.iM (p, ()) b, Sp.iO (p, ()) b, ()) := by unfold Sp.gg; rw [if_neg h]

/-- What is known of the graph before the loops. -/
structure FenceP (p : List (List Sp.LOp)) (E : List Sp.LEv) (F : List Int) (M : List (List Int)) (O : List Int) (G : Nat) : Prop where
  al : Sp.AllowP (p, ()) (E, F, M, O, ())
  mem : (G : Int) ∈ O
  two : 2 ≤ E.length
  len : p.length ≤ 4
theorem fenceP {p : List (List Sp.LOp)} {E : List Sp.LEv} {F : List Int} {M : List (List Int)} {O : List Int} {n : Int} (hn : 0 ≤ n) (hv : Sp.valid (p, ()) = true) (h1 : Sp.allowed (p, ()) (E, F, M, O, ()) = true) (h2 : ¬ (O.length : Int) = 0) (h3 : 2 ≤ (E.length : Int)) :
    (O.getD (n.tmod (O.length : Int)).toNat 0) = (((O.getD (n.tmod (O.length : Int)).toNat 0).toNat : Nat) : Int) ∧ inN (n.tmod (O.length : Int)) O.length ∧ FenceP p E F M O (O.getD (n.tmod (O.length : Int)).toNat 0).toNat := by
  have hA := (Sp.allowed_iff _ _).1 h1
  have t1 := Int.tmod_nonneg (O.length : Int) hn
  have t2 := Int.tmod_lt_of_pos n (show (0 : Int) < (O.length : Int) by omega)
  have hm : O.getD (n.tmod (O.length : Int)).toNat 0 ∈ O := by rw [Sp.getD_lt (by omega)]; exact List.getElem_mem _
  have hr := Sp.isList_in hA.right.fo hm
  have e : (O.getD (n.tmod (O.length : Int)).toNat 0) = (((O.getD (n.tmod (O.length : Int)).toNat 0).toNat : Nat) : Int) := (Int.toNat_of_nonneg hr.1).symm
  refine ⟨e, ⟨t1, t2⟩, hA, by rw [← e]; exact hm, by omega, ?_⟩
  unfold Sp.valid at hv
  simp only [Bool.and_eq_true, decide_eq_true_eq] at hv
  exact hv.1.1.1.2

section
variable {p : List (List Sp.LOp)} {E : List Sp.LEv} {F : List Int} {M : List (List Int)} {O : List Int} {G : Nat} (h : FenceP p E F M O G)
include h
theorem FenceP.lens : E.length = (Sp.evs 0 p).length ∧ F.length = (Sp.evs 0 p).length ∧ M.length = 3 ∧ E.length ≤ 6 ∧ G < E.length ∧ (Sp.ev E (G : Int)).2.1.1 = 4 := by
  have h1 : E.length = _ := h.al.right.lenE
  have h2 : F.length = _ := h.al.right.lenF
  have h3 : M.length = 3 := h.al.right.lenM
  have h4 := h.al.right.six
  have h5 := Sp.isList_in h.al.right.fo h.mem
  have h5b : (G : Int) < ((Sp.evs 0 p).length : Int) := h5.2.1
  have h6 := h5.2.2
  simp only [decide_eq_true_eq] at h6
  have h1 : E.length = (Sp.evs 0 p).length := h1
  have h7 := (h.al.right.src G (by show G < (Sp.evs 0 p).length; omega)).2.1
  exact ⟨h1, h2, h3, h4, by omega, by show (Sp.ev E (G : Int)).2.1.1 = 4; rw [h7]; exact h6⟩
theorem FenceP.frm {i : Nat} (hi : i < E.length) : -1 ≤ F.getD i 0 ∧ F.getD i 0 < (E.length : Int) := by
  have h1 := h.lens
  obtain ⟨_, _, h3, h4, _⟩ := h.al.right.src i (by show i < (Sp.evs 0 p).length; omega)
  have h4 : F.getD i 0 < ((Sp.evs 0 p).length : Int) := h4
  have h3 : -1 ≤ F.getD i 0 := h3
  exact ⟨h3, by omega⟩
theorem FenceP.mo {x : Nat} (hx : x < 3) : (M.getD x []).length ≤ 1000 ∧ ∀ v ∈ M.getD x [], v < (E.length : Int) := by
  have h1 := h.lens
  have hm := h.al.right.mo x hx
  have hin := fun v hv => Sp.isList_in (n := v) hm hv
  unfold Sp.isList at hm
  simp only [Bool.and_eq_true, decide_eq_true_eq] at hm
  have hlt : ∀ v ∈ M.getD x [], 0 ≤ v ∧ v < ((Sp.evs 0 p).length : Int) := fun v hv => ⟨(hin v hv).1, (hin v hv).2.1⟩
  have := Sp.nodup_le (m := (List.range (Sp.evs 0 p).length).map (fun (i : Nat) => (i : Int))) hm.1.1 (by
    intro w hw
    have := hlt w hw
    simp only [List.mem_map, List.mem_range]
    exact ⟨w.toNat, by omega, by omega⟩)
  simp only [List.length_map, List.length_range] at this
  exact ⟨by have : (M.getD x []).length ≤ _ := this; omega, fun v hv => by have := hlt v hv; omega⟩
theorem FenceP.fo : O.length ≤ 1000 ∧ ∀ v ∈ O, v < (E.length : Int) := by
  have h1 := h.lens
  have hm := h.al.right.fo
  have hin := fun v hv => Sp.isList_in (n := v) hm hv
  unfold Sp.isList at hm
  simp only [Bool.and_eq_true, decide_eq_true_eq] at hm
  have hlt : ∀ v ∈ O, 0 ≤ v ∧ v < ((Sp.evs 0 p).length : Int) := fun v hv => ⟨(hin v hv).1, (hin v hv).2.1⟩
  have := Sp.nodup_le (m := (List.range (Sp.evs 0 p).length).map (fun (i : Nat) => (i : Int))) hm.1.1 (by
    intro w hw
    have := hlt w hw
    simp only [List.mem_map, List.mem_range]
    exact ⟨w.toNat, by omega, by omega⟩)
  simp only [List.length_map, List.length_range] at this
  exact ⟨by have : O.length ≤ _ := this; omega, fun v hv => by have := hlt v hv; omega⟩
theorem FenceP.done : (Sp.evs 0 (Sp.lessP p G)).length ≤ 1000 ∧ Sp.right (Sp.lessP p G, ()) (Sp.gless (E, F, M, O, ()) G) = true ∧ Sp.allowed (Sp.lessP p G, ()) (Sp.gless (E, F, M, O, ()) G) = true := by
  have h1 := h.lens
  have hA := Sp.gless_allowed (gone := G) h.al h1.2.2.2.2.1 h1.2.2.2.2.2 h.two
  rw [(Sp.right_iff _ _).2 hA.right, (Sp.allowed_iff _ _).2 hA, Sp.lessP_evs, List.length_eraseIdx]
  refine ⟨?_, rfl, rfl⟩
  split <;> omega
end

theorem erase_snoc {α : Type} (l : List α) (x : α) (j n : Nat) (hn : l.length = n) : (l ++ [x]).eraseIdx j = if n = j then l.eraseIdx j else l.eraseIdx j ++ [x] := by
  subst hn
  by_cases h1 : j < l.length
  · rw [if_neg (by omega), List.eraseIdx_append_of_lt_length h1]
  · rw [List.eraseIdx_append_of_length_le (by omega), List.eraseIdx_of_length_le (l := l) (by omega)]
    by_cases h2 : l.length = j
    · rw [if_pos h2, show j - l.length = 0 from by omega]; simp
    · rw [if_neg h2, List.eraseIdx_of_length_le (by simp; omega)]
theorem lessK_succ {p : List (List Sp.LOp)} {G i k : Nat} (hk : k < (p.getD i []).length) : Sp.lessK p G i (k + 1) = if Sp.stp p i + k = G then Sp.lessK p G i k else Sp.lessK p G i k ++ [(p.getD i []).getD k (0, 0, 0, ())] := by
  unfold Sp.lessK
  rw [List.take_succ_eq_append_getElem hk, Sp.getD_lt hk]
  have hl : ((p.getD i []).take k).length = k := by rw [List.length_take]; omega
  rw [erase_snoc _ _ _ k hl]
  by_cases h1 : Sp.stp p i ≤ G
  · rw [if_pos h1, if_pos h1]
    by_cases h2 : Sp.stp p i + k = G
    · rw [if_pos h2, if_pos (by omega)]
    · rw [if_neg h2, if_neg (by omega)]
  · rw [if_neg h1, if_neg h1, if_neg (by omega)]
theorem hEN_succ {E : List Sp.LEv} {G n : Nat} (hn : n < E.length) : Sp.hEN E G (n + 1) = if n = G then Sp.hEN E G n else Sp.hEN E G n ++ [Sp.ev E (n : Int)] := by
  have e : Sp.ev E (n : Int) = E[n] := by unfold Sp.ev; rw [Int.toNat_natCast, Sp.getD_lt hn]
  unfold Sp.hEN
  rw [List.take_succ_eq_append_getElem hn, e]
  have hl : (E.take n).length = n := by rw [List.length_take]; omega
  rw [erase_snoc _ _ _ n hl]
theorem hEN_len {E : List Sp.LEv} {G n : Nat} (hn : n ≤ E.length) : ((Sp.hEN E G n).length : Int) = if G < n then (n : Int) - 1 else n := by
  unfold Sp.hEN
  rw [List.length_eraseIdx, List.length_take]
  split <;> split <;> omega
theorem last_get {α : Type} {l : List α} {x d : α} {n : Nat} (h : l.length = n) : (l ++ [x]).getD n d = x := by
  subst h
  rw [List.getD_eq_getElem?_getD]; simp
theorem last_set {α : Type} {l : List α} {x v : α} {n : Nat} (h : l.length = n) : (l ++ [x]).set n v = l ++ [v] := by
  subst h
  simp [List.set_append]

set_option maxRecDepth 100000 in
theorem ok7 : FOk Try.prog 7 S7 := by
  have hC : CtxOK Try.prog C7 := ctx_ok rfl rfl (fns_cons ok10 (fns_cons ok11 (fns_cons ok12c (fns_cons ok14 (fns_cons ok16 (fns_cons ok18 (fns_cons ok25 fns_nil))))))) ptrs_nil
  refine FOk.intro hC (stpP_ok hC) Try.call7 Try.func7 (by kernel_rfl) (by kernel_rfl) L7 (vc7.mpr ?_)
  simp only [z1, z2, z3, z4, z5, z6, z7, z8, z9, z10, z11, z12, z13, z14, z15, z16, z17, z18, z19, z20, z21, z22, z23, z24, z25, z26, z27, z28, z29, z30, z31, z32, z33, z34, z35, z36, z37, z38, dFact]
  intro x hx
  have hv := Sp.madeP_valid hx.1.2
  have hfine := Sp.madeP_fine hx.1.2
  have hn8 : 0 ≤ x.2.2.1 := hx.2.2.1
  have hl4 : (Sp.madeP x.1).length ≤ 4 := by
    have h := hv
    unfold Sp.valid at h
    simp only [Bool.and_eq_true, decide_eq_true_eq] at h
    exact h.1.1.1.2
  have hrow : ∀ i, ((Sp.madeP x.1).getD i []).length ≤ 100 := fun i => Nat.le_trans (Sp.evs_get _ i 0) (Sp.madeP_fine hx.1.2).1
  clear hx
  have hge := gg_eta (Sp.madeP x.1) x.2.1 x.2.2.1
  have hgo : Sp.goneN (Sp.madeP x.1) x.2.1 x.2.2.1 = ((Sp.ggO (Sp.madeP x.1) x.2.1 x.2.2.1).getD (x.2.2.1.tmod ((Sp.ggO (Sp.madeP x.1) x.2.1 x.2.2.1).length : Int)).toNat 0).toNat := rfl
  have h1000 : (Sp.evs 0 (Sp.madeP x.1)).length ≤ 1000 := Nat.le_trans hfine.1 (by decide)
  have key : ∀ E F M O, Sp.gg (Sp.madeP x.1) x.2.1 x.2.2.1 = (E, F, M, O, ()) → Sp.allowed (Sp.madeP x.1, ()) (E, F, M, O, ()) = true → ¬ (O.length : Int) = 0 → 2 ≤ (E.length : Int) →
      inN (x.2.2.1.tmod (O.length : Int)) O.length ∧ O.getD (x.2.2.1.tmod (O.length : Int)).toNat 0 = (Sp.goneN (Sp.madeP x.1) x.2.1 x.2.2.1 : Int) ∧
      FenceP (Sp.madeP x.1) (Sp.ggE (Sp.madeP x.1) x.2.1 x.2.2.1) (Sp.ggF (Sp.madeP x.1) x.2.1 x.2.2.1) (Sp.ggM (Sp.madeP x.1) x.2.1 x.2.2.1) (Sp.ggO (Sp.madeP x.1) x.2.1 x.2.2.1) (Sp.goneN (Sp.madeP x.1) x.2.1 x.2.2.1) := by
    intro E F M O heq h1 h2 h3
    have h4 := fenceP hn8 hv h1 h2 h3
    rw [hgo]
    unfold Sp.ggE Sp.ggF Sp.ggM Sp.ggO
    rw [heq]
    exact ⟨h4.2.1, h4.1, h4.2.2⟩
  refine ⟨⟨hfine, by omega⟩, by decide, fun hpar => ⟨hfine, h1000, fun hc => ⟨⟨hc.1.2, (key _ _ _ _ (gg_yes hpar) hc.1.1 hc.1.2 hc.2).1⟩, ⟨0, Nat.zero_le _, rfl, rfl, (key _ _ _ _ (gg_yes hpar) hc.1.1 hc.1.2 hc.2).2.1, by rw [hge, gg_yes hpar], rfl, rfl, rfl⟩, ?_⟩⟩, fun hpar => ⟨h1000, fun hc => ⟨⟨hc.1.2, (key _ _ _ _ (gg_no hpar) hc.1.1 hc.1.2 hc.2).1⟩, ⟨0, Nat.zero_le _, rfl, rfl, (key _ _ _ _ (gg_no hpar) hc.1.1 hc.1.2 hc.2).2.1, by rw [hge, gg_no hpar], rfl, rfl, rfl⟩, ?_⟩⟩⟩
  all_goals
    have hk : FenceP (Sp.madeP x.1) (Sp.ggE (Sp.madeP x.1) x.2.1 x.2.2.1) (Sp.ggF (Sp.madeP x.1) x.2.1 x.2.2.1) (Sp.ggM (Sp.madeP x.1) x.2.1 x.2.2.1) (Sp.ggO (Sp.madeP x.1) x.2.1 x.2.2.1) (Sp.goneN (Sp.madeP x.1) x.2.1 x.2.2.1) := by
      first
      | exact (key _ _ _ _ (gg_yes hpar) hc.1.1 hc.1.2 hc.2).2.2
      | exact (key _ _ _ _ (gg_no hpar) hc.1.1 hc.1.2 hc.2).2.2
    clear hc key hge hgo
    intro i hi _
    have hL := hk.lens
    have hstp : ∀ c, c ≤ (Sp.madeP x.1).length → Sp.stp (Sp.madeP x.1) c ≤ 100 := by
      intro c hc
      have := Sp.stp_mono (p := Sp.madeP x.1) hc
      rw [Sp.stp_all] at this
      omega
    refine ⟨fun hlt => ⟨by rw [Sp.lessN_len, maxNew_eq]; omega, ⟨0, ⟨by omega, Nat.zero_le _⟩, rfl, by omega, rfl, ?_, rfl⟩, ?_⟩, fun hge => ?_⟩
    · unfold Sp.lessK; split <;> simp
    · intro k hk2 _
      have hil := hk2.1
      have hss := Sp.stp_succ hil
      have hse := hstp (i + 1) (by omega)
      have hr := hrow i
      have hlt2 : Sp.stp (Sp.madeP x.1) (i + 1) ≤ (Sp.evs 0 (Sp.madeP x.1)).length := by
        have := Sp.stp_mono (p := Sp.madeP x.1) (show i + 1 ≤ (Sp.madeP x.1).length by omega)
        rwa [Sp.stp_all] at this
      have hK : Sp.lessK (Sp.madeP x.1) (Sp.goneN (Sp.madeP x.1) x.2.1 x.2.2.1) i k = Sp.lessK (Sp.madeP x.1) (Sp.goneN (Sp.madeP x.1) x.2.1 x.2.2.1) i k := rfl
      have hKl : (Sp.lessK (Sp.madeP x.1) (Sp.goneN (Sp.madeP x.1) x.2.1 x.2.2.1) i k).length ≤ 100 := by
        unfold Sp.lessK
        split
        · rw [List.length_eraseIdx]; split <;> simp <;> omega
        · simp; omega
      refine ⟨⟨by omega, by omega⟩, fun hkl => ?_, fun hkl => ?_⟩
      · have hkl' : k < ((Sp.madeP x.1).getD i []).length := by omega
        have hks := lessK_succ (p := Sp.madeP x.1) (G := Sp.goneN (Sp.madeP x.1) x.2.1 x.2.2.1) hkl'
        have hes := hEN_succ (E := Sp.ggE (Sp.madeP x.1) x.2.1 x.2.2.1) (G := Sp.goneN (Sp.madeP x.1) x.2.1 x.2.2.1) (n := Sp.stp (Sp.madeP x.1) i + k) (by omega)
        have hel := hEN_len (E := Sp.ggE (Sp.madeP x.1) x.2.1 x.2.2.1) (G := Sp.goneN (Sp.madeP x.1) x.2.1 x.2.2.1) (n := Sp.stp (Sp.madeP x.1) i + k) (by omega)
        have hts := Sp.toL_succ (Sp.goneN (Sp.madeP x.1) x.2.1 x.2.2.1) (Sp.stp (Sp.madeP x.1) i + k)
        refine ⟨fun hg => ⟨by rw [Sp.toL_len, maxNew_eq]; omega, inK_of (by omega) (by omega), inK_of (by omega) (by omega), k + 1, ⟨hil, by omega⟩, by omega, by omega, by omega, ?_, ?_, ?_⟩, fun hg => ⟨by rw [Sp.toL_len, maxNew_eq]; omega, ⟨⟨by omega, by omega⟩, ?_⟩, ⟨⟨by omega, by rw [List.length_append, Sp.lessN_len]; simp; omega⟩, ⟨by omega, by omega⟩, ⟨by omega, by omega⟩, ?_, ⟨by omega, by rw [List.length_append, Sp.lessN_len]; simp; omega⟩⟩, inK_of (by omega) (by omega), inK_of (by omega) (by omega), k + 1, ⟨hil, by omega⟩, by omega, by omega, by omega, ?_, ?_, ?_⟩⟩
        · rw [← Nat.add_assoc, hts]; unfold Sp.tq; rw [if_pos (by omega)]
        · rw [hks, if_pos (by omega)]
        · rw [← Nat.add_assoc, hes, if_pos (by omega)]
        · rw [maxNew_eq]
          have : ((Sp.hEN (Sp.ggE (Sp.madeP x.1) x.2.1 x.2.2.1) (Sp.goneN (Sp.madeP x.1) x.2.1 x.2.2.1) (Sp.stp (Sp.madeP x.1) i + k)).length : Int) ≤ 100 := by rw [hel]; split <;> omega
          omega
        · rw [last_get (Sp.lessN_len _ _ _), maxNew_eq]; omega
        · have htq : Sp.tq (Sp.goneN (Sp.madeP x.1) x.2.1 x.2.2.1) (Sp.stp (Sp.madeP x.1) i + k) = ((Sp.hEN (Sp.ggE (Sp.madeP x.1) x.2.1 x.2.2.1) (Sp.goneN (Sp.madeP x.1) x.2.1 x.2.2.1) (Sp.stp (Sp.madeP x.1) i + k)).length : Int) := by
            rw [hel]; unfold Sp.tq
            rw [if_neg (show ¬ Sp.stp (Sp.madeP x.1) i + k = Sp.goneN (Sp.madeP x.1) x.2.1 x.2.2.1 by omega)]
            by_cases hlg : Sp.goneN (Sp.madeP x.1) x.2.1 x.2.2.1 < Sp.stp (Sp.madeP x.1) i + k
            · rw [if_pos hlg, if_neg (by omega)]
            · rw [if_neg hlg, if_pos (by omega)]
          rw [← Nat.add_assoc, hts, htq]
        · rw [last_get (Sp.lessN_len _ _ _), last_set (Sp.lessN_len _ _ _), hks, if_neg (by omega)]
        · rw [← Nat.add_assoc, hes, if_neg (by omega)]; rfl
      · have hke : k = ((Sp.madeP x.1).getD i []).length := by omega
        refine ⟨inK_of (by omega) (by omega), i + 1, by omega, by omega, by omega, by omega, by rw [hss, hke], by rw [Sp.lessN_succ, hke], by rw [hss, hke]⟩
    have hie : i = (Sp.madeP x.1).length := by omega
    have hse : Sp.stp (Sp.madeP x.1) i = (Sp.ggE (Sp.madeP x.1) x.2.1 x.2.2.1).length := by rw [hie, Sp.stp_all]; omega
    refine ⟨⟨0, Nat.zero_le _, rfl, by rw [hse], by rw [hie]; rfl, ?_⟩, ?_⟩
    · rw [hse]; unfold Sp.hEN; rw [List.take_length]; rfl
    intro j hj _
    rw [Sp.toL_len]
    have hfl := Sp.hFN_le (Sp.ggF (Sp.madeP x.1) x.2.1 x.2.2.1) (Sp.goneN (Sp.madeP x.1) x.2.1 x.2.2.1) j
    have hfs := Sp.hFN_succ (Sp.ggF (Sp.madeP x.1) x.2.1 x.2.2.1) (Sp.goneN (Sp.madeP x.1) x.2.1 x.2.2.1) j
    refine ⟨fun hlt => ?_, fun hge2 => ?_⟩
    · have hlt' : j < (Sp.ggE (Sp.madeP x.1) x.2.1 x.2.2.1).length := by omega
      have hfr := hk.frm hlt'
      have hinF : inN (j : Int) (Sp.ggF (Sp.madeP x.1) x.2.1 x.2.2.1).length := ⟨by omega, by omega⟩
      have hF1 : (j : Int) ≠ (Sp.goneN (Sp.madeP x.1) x.2.1 x.2.2.1 : Int) → (Sp.hFN (Sp.ggF (Sp.madeP x.1) x.2.1 x.2.2.1) (Sp.goneN (Sp.madeP x.1) x.2.1 x.2.2.1) (j + 1)) = Sp.hFN (Sp.ggF (Sp.madeP x.1) x.2.1 x.2.2.1) (Sp.goneN (Sp.madeP x.1) x.2.1 x.2.2.1) j ++ [Sp.hF1 (Sp.ggF (Sp.madeP x.1) x.2.1 x.2.2.1) (Sp.goneN (Sp.madeP x.1) x.2.1 x.2.2.1) j] := by
        intro h; rw [hfs, if_neg (by omega)]
      refine ⟨fun _ => hinF, fun h1 => ⟨by rw [maxNew_eq]; omega, fun _ => hinF, fun h2 => by omega, fun h2 => ⟨inK_of (by omega) (by omega), j + 1, by omega, by omega, by omega, ?_⟩⟩, fun h1 => ⟨fun _ => hinF, fun h2 => ⟨⟨⟨hinF, ⟨h2.2, hfr.2⟩⟩, by rw [maxNew_eq]; omega⟩, inK_of (by omega) (by omega), j + 1, by omega, by omega, by omega, ?_⟩, fun h2 => ⟨inK_of (by omega) (by omega), j + 1, by omega, by omega, by omega, ?_⟩⟩⟩
      · rw [hF1 h1.1]; unfold Sp.hF1; rw [if_pos h1.2]
      · rw [hF1 h2.1, Sp.toL_get (by omega)]; unfold Sp.hF1; rw [if_neg (by omega)]
      · rw [hfs, if_pos, List.append_nil]
        simp only [Bool.and_eq_false_iff, bne_eq_false_iff_eq, decide_eq_false_iff_not] at h1 h2
        omega
    have hje : j = (Sp.ggE (Sp.madeP x.1) x.2.1 x.2.2.1).length := by omega
    refine ⟨⟨0, Nat.zero_le _, rfl, by rw [hje]; rfl⟩, ?_⟩
    intro q hq _
    have hml : (Sp.hMN (Sp.ggM (Sp.madeP x.1) x.2.1 x.2.2.1) (Sp.toL (Sp.goneN (Sp.madeP x.1) x.2.1 x.2.2.1) (Sp.ggE (Sp.madeP x.1) x.2.1 x.2.2.1).length) q).length = q := by simp [Sp.hMN]
    refine ⟨fun hlt => ⟨⟨⟨⟨by omega, by omega⟩, hk.mo (by omega)⟩, by rw [hml, maxNew_eq]; omega⟩, inK_of (by omega) (by omega), q + 1, by omega, by omega, by omega, ?_⟩, fun hge3 => ?_⟩
    · unfold Sp.hMN
      rw [List.range_succ, List.map_append]; rfl
    · have hq3 : q = 3 := by omega
      subst hq3
      have hd := hk.done
      exact ⟨hk.fo, ⟨hd.1, fun _ => hd.1⟩, hd.2⟩
end Go.User
namespace Go.User
open Go.Lf Go.Proofs

theorem take_all' {α : Type} {l : List α} {i : Nat} (h1 : i ≤ l.length) (h2 : (l.length : Int) ≤ (i : Int)) : l.take i = l := List.take_of_length_le (by omega)
theorem byte2 {l : List Int} (h : dFact (.arr 2 (.int .u8)) l) (i : Nat) (hi : i < 2) : 0 ≤ l.getD i 0 := by
  have h1 : List.length l = 2 := h.1
  rw [Sp.getD_lt (by omega)]
  exact (h.2 _ (List.getElem_mem _)).1
theorem tmod_nat {n : Int} (hn : 0 ≤ n) {L : Nat} (hL : 0 < L) : ∃ k : Nat, k < L ∧ n.tmod (L : Int) = (k : Int) := by
  have h1 := Int.tmod_nonneg (L : Int) hn
  have h2 := Int.tmod_lt_of_pos n (show (0 : Int) < (L : Int) by omega)
  exact ⟨(n.tmod (L : Int)).toNat, by omega, by omega⟩
theorem shape_lists {t : Sp.Lit} {g : Sp.Gr} (h : Sp.Shape t g) : (∀ x < 3, (g.2.2.1.getD x []).length ≤ 1000 ∧ ∀ v ∈ g.2.2.1.getD x [], 0 ≤ v ∧ v < (g.1.length : Int)) ∧ g.2.2.2.1.length ≤ 1000 ∧ ∀ v ∈ g.2.2.2.1, 0 ≤ v ∧ v < (g.1.length : Int) := by
  have h6 := (Sp.valid_ev h.valid).1
  have hE := h.lenE
  have key : ∀ (l : List Int) (is : Sp.LOp → Bool), Sp.isList l (Sp.evs 0 t.1) is = true → l.length ≤ 1000 ∧ ∀ v ∈ l, 0 ≤ v ∧ v < (g.1.length : Int) := by
    intro l is hm
    have hin := fun v hv => Sp.isList_in (n := v) hm hv
    unfold Sp.isList at hm
    simp only [Bool.and_eq_true, decide_eq_true_eq] at hm
    have := Sp.nodup_le (m := (List.range (Sp.evs 0 t.1).length).map (fun (i : Nat) => (i : Int))) hm.1.1 (by
      intro w hw
      have := hin w hw
      simp only [List.mem_map, List.mem_range]
      exact ⟨w.toNat, by omega, by omega⟩)
    simp only [List.length_map, List.length_range] at this
    exact ⟨by omega, fun v hv => by have := hin v hv; exact ⟨this.1, by omega⟩⟩
  exact ⟨fun x hx => key _ _ (h.mo x hx), key _ _ h.fo⟩
theorem ok26 : FOk Try.prog 26 S26 := by
  have hC : CtxOK Try.prog C26 := ctx_ok rfl rfl fns_nil ptrs_nil
  refine FOk.intro hC (stpP_ok hC) Try.call26 Try.func26 (by kernel_rfl) (by kernel_rfl) L26 (vc26.mpr ?_)
  simp only [z1, z2, z3, z4, z5, z6, z7, z8, z9, z10, z11, z12, z13, z14, z15, z16, z17, z18, z19, z20, z21, z22, z23, z24, z25, z26, z27, z28, z29, z30, z31, z32, z33, z34, z35, z36, z37, z38]
  intro x hp hx
  obtain ⟨h1, h2, h3, h4, h5⟩ := hp
  refine ⟨⟨by rw [maxNew_eq]; omega, by rw [maxNew_eq]; omega, by rw [maxNew_eq]; omega⟩, ⟨0, Nat.zero_le _, rfl, rfl⟩, ?_⟩
  intro i hi _
  have hl := List.length_take_le i x.1.2.2.1
  refine ⟨fun hlt => ?_, fun hge => ?_⟩
  · have hlt' : i < x.1.2.2.1.length := by omega
    have h6 := h5 (x.1.2.2.1.getD i []) (by rw [Sp.getD_lt hlt']; exact List.getElem_mem _)
    refine ⟨⟨⟨inN_of hlt, by rw [maxNew_eq]; omega⟩, by rw [maxNew_eq]; omega⟩, inK_of (by omega) (by omega), i + 1, by omega, by omega, by omega, ?_⟩
    rw [List.take_succ_eq_append_getElem hlt', Sp.getD_lt hlt']
  · rw [take_all' hi hge]

theorem evs_has {o : Sp.LOp} : ∀ (P : List (List Sp.LOp)) (c : Int) (l : List Sp.LOp), l ∈ P → o ∈ l → ∃ x ∈ Sp.evs c P, x.2.1 = o
  | [], c, l, h, _ => by cases h
  | m :: P, c, l, h, ho => by
    simp only [Sp.evs, List.mem_append, List.mem_map]
    rcases List.mem_cons.1 h with rfl | h
    · exact ⟨Sp.mkEv c o, .inl ⟨o, ho, rfl⟩, rfl⟩
    · obtain ⟨x, h1, h2⟩ := evs_has P (c + 1) l h ho
      exact ⟨x, .inr h1, h2⟩
theorem op_usual {P : List (List Sp.LOp)} (hv : Sp.valid (P, ()) = true) (a b : Nat) (ha : a < P.length) (hb : b < (P.getD a []).length) : Sp.usual ((P.getD a []).getD b (0, 0, 0, ())) = true := by
  obtain ⟨x, h1, h2⟩ := evs_has (o := (P.getD a []).getD b (0, 0, 0, ())) P 0 (P.getD a []) (by rw [Sp.getD_lt ha]; exact List.getElem_mem _) (by rw [Sp.getD_lt hb]; exact List.getElem_mem _)
  rw [← h2]
  exact (Sp.valid_ev hv).2 x h1
def swC' (p q : Int) : Prop := (∀ i, i = p → Sp.swC p q i = q) ∧ (∀ i, ¬ i = p → i = q → Sp.swC p q i = p) ∧ (∀ i, ¬ i = p → ¬ i = q → Sp.swC p q i = i)
set_option maxRecDepth 100000 in
theorem ok8 : FOk Try.prog 8 S8 := by
  have hC : CtxOK Try.prog C8 := ctx_ok rfl rfl (fns_cons ok10 (fns_cons ok11 (fns_cons ok12c (fns_cons ok16 (fns_cons ok18 (fns_cons ok25 (fns_cons ok26 fns_nil))))))) ptrs_nil
  refine FOk.intro hC (stpP_ok hC) Try.call8 Try.func8 (by kernel_rfl) (by kernel_rfl) L8 (vc8.mpr ?_)
  simp only [z1, z2, z3, z4, z5, z6, z7, z8, z9, z10, z11, z12, z13, z14, z15, z16, z17, z18, z19, z20, z21, z22, z23, z24, z25, z26, z27, z28, z29, z30, z31, z32, z33, z34, z35, z36, z37, z38]
  intro x hx
  have hv := Sp.madeP_valid hx.1.2
  have hfine := Sp.madeP_fine hx.1.2
  have hG := Sp.graph_shape hv x.2.1
  rw [← graph_eta] at hG
  have hn0 : 0 ≤ x.2.2.1.getD (Int.toNat 0) 0 := byte2 hx.2.2 0 (by decide)
  have hn1 : 0 ≤ x.2.2.1.getD (Int.toNat 1) 0 := byte2 hx.2.2 1 (by decide)
  have hn0' : x.2.2.1.getD 0 0 = x.2.2.1.getD (Int.toNat 0) 0 := rfl
  have hn1' : x.2.2.1.getD 1 0 = x.2.2.1.getD (Int.toNat 1) 0 := rfl
  rw [hn0', hn1']
  have hrow : ∀ i, ((Sp.madeP x.1).getD i []).length ≤ 100 := fun i => Nat.le_trans (Sp.evs_get _ i 0) hfine.1
  have husual : ∀ a b, a < (Sp.madeP x.1).length → b < ((Sp.madeP x.1).getD a []).length → Sp.usual (((Sp.madeP x.1).getD a []).getD b (0, 0, 0, ())) = true := op_usual hv
  clear hx hn0' hn1'
  generalize x.2.2.1.getD (Int.toNat 0) 0 = n0 at *
  generalize x.2.2.1.getD (Int.toNat 1) 0 = n1 at *
  generalize Sp.gE (Sp.madeP x.1, ()) x.2.1 = E at *
  generalize Sp.gF (Sp.madeP x.1, ()) x.2.1 = F at *
  generalize Sp.gM (Sp.madeP x.1, ()) x.2.1 = M at *
  generalize Sp.gO (Sp.madeP x.1, ()) x.2.1 = O at *
  generalize Sp.madeP x.1 = P at *
  have hv4 := hv
  unfold Sp.valid at hv4
  simp only [Bool.and_eq_true, decide_eq_true_eq] at hv4
  have hP1 : 1 ≤ P.length := hv4.1.1.1.1
  have hP4 : P.length ≤ 4 := hv4.1.1.1.2
  have h6 : (Sp.evs 0 P).length ≤ 6 := hv4.1.2
  clear hv4
  have hl : E.length = (Sp.evs 0 P).length := hG.lenE
  have hFl : F.length = (Sp.evs 0 P).length := hG.lenF
  have hMl : M.length = 3 := hG.lenM
  have hc : ∀ i : Nat, i < E.length → (Sp.ev E i).1 = (Sp.ev (Sp.evs 0 P) i).1 ∧ (Sp.ev E i).2.1 = (Sp.ev (Sp.evs 0 P) i).2.1 := fun i hi => by
    have := hG.src i (by show i < (Sp.evs 0 P).length; omega)
    exact ⟨this.1, this.2.1⟩
  have hfr : ∀ i : Nat, i < E.length → -1 ≤ F.getD i 0 ∧ F.getD i 0 < (E.length : Int) := fun i hi => by
    obtain ⟨_, _, h3, h4, _⟩ := hG.src i (by show i < (Sp.evs 0 P).length; omega)
    have h4 : F.getD i 0 < ((Sp.evs 0 P).length : Int) := h4
    exact ⟨h3, by omega⟩
  have hLL := shape_lists hG
  obtain ⟨p, hp, hpe⟩ := tmod_nat hn0 (show 0 < P.length by omega)
  obtain ⟨q, hq, hqe⟩ := tmod_nat hn1 (show 0 < P.length by omega)
  have hI1 := Sp.cores_iso hp hq hG
  have hpl := Sp.plA_pl hn0 hn1
  have hI2 := Sp.places_iso hpl hG
  have hq1 := hI1.allowed_eq
  have hq2 := hI1.right_eq
  have hq3 := hI2.allowed_eq
  have hq4 := hI2.right_eq
  have hu1 := Sp.valid_ev hI1.sh.valid
  have hu2 := Sp.valid_ev hI2.sh.valid
  rw [hpe, hqe]
  have hswl : ((P.set p (P.getD q [])).set q (P.getD p [])).length = P.length := by simp
  have hln := Sp.visA_len hp hq hl hc
  simp only [Int.toNat_natCast]
  have h1000 : (Sp.evs 0 P).length ≤ 1000 := by omega
  have hswp : swC' (p : Int) (q : Int) := ⟨fun i h => by unfold Sp.swC; rw [if_pos h], fun i h1 h2 => by unfold Sp.swC; rw [if_neg h1, if_pos h2], fun i h1 h2 => by unfold Sp.swC; rw [if_neg h1, if_neg h2]⟩
  have hU : (P.set p (P.getD q [])).set q (P.getD p []) = Sp.swP P p q := rfl
  refine ⟨hfine, ⟨⟨by decide, by decide⟩, by omega⟩, ⟨⟨by decide, by decide⟩, by omega⟩, by rw [maxNew_eq]; omega, ⟨⟨by omega, by omega⟩, ⟨by omega, by omega⟩⟩, ⟨⟨by omega, by omega⟩, ⟨by omega, by rw [List.length_set]; omega⟩⟩, ⟨by show (0 : Int) ≤ _; omega, by omega, by rw [maxNew_eq]; omega⟩, ⟨by show (0 : Int) ≤ _; omega, by omega, by rw [maxNew_eq]; omega⟩, ⟨0, Nat.zero_le _, rfl, rfl, ?_, ?_⟩, ?_⟩
  · refine List.ext_getElem (by simp [Sp.toV]) fun j h1 h2 => ?_
    rw [Sp.toV_at, if_neg (by simp [Sp.visN, Sp.selC, Sp.sel])]
    simp
  · congr 1
    refine List.ext_getElem (by simp [Sp.heV]) fun j h1 h2 => ?_
    rw [Sp.heV_at, if_neg (by simp [Sp.visN, Sp.selC, Sp.sel])]
    simp
    rfl
  intro i hi _
  rw [hswl]
  refine ⟨fun hlt => ⟨fun hip => ⟨⟨0, ⟨by omega, Nat.zero_le _⟩, rfl, (hswp.1 _ hip).symm, rfl, rfl, rfl⟩, ?_⟩, fun hip => ⟨fun hiq => ⟨⟨0, ⟨by omega, Nat.zero_le _⟩, rfl, (hswp.2.1 _ hip hiq).symm, rfl, rfl, rfl⟩, ?_⟩, fun hiq => ⟨⟨0, ⟨by omega, Nat.zero_le _⟩, rfl, (hswp.2.2 _ hip hiq).symm, rfl, rfl, rfl⟩, ?_⟩⟩⟩, fun hge => ?last⟩
  case last =>
    have hiP : i = P.length := by omega
    subst hiP
    have hva := Sp.vis_all hp hq hl hc F
    refine ⟨⟨0, Nat.zero_le _, rfl, hva.1, by rw [hva.2.1, hva.2.2]⟩, ?_⟩
    intro m hm _
    have hRl : (Sp.reT P E (p : Int) (q : Int)).length = E.length := by simp [Sp.reT, Sp.toV]
    have hFFl : ∀ m, (Sp.reF P E F (p : Int) (q : Int) m).length = E.length := fun m => by simp [Sp.reF]
    refine ⟨fun hlt => ?_, fun hge2 => ?_⟩
    · have hm' : m < E.length := by omega
      have hT := Sp.reT_get hp hq hl hc hm'
      have hT1 : 0 ≤ (Sp.reT P E (p : Int) (q : Int)).getD m 0 ∧ (Sp.reT P E (p : Int) (q : Int)).getD m 0 < (E.length : Int) := by rw [hT.1]; exact hT.2
      have hf := hfr m hm'
      have hrs := fun v hv => Sp.reF_succ (F := F) (v := v) hp hq hl hc hm' hv
      refine ⟨⟨⟨by omega, by omega⟩, ⟨hT1.1, by rw [hFFl]; exact hT1.2⟩⟩, ⟨by omega, by omega⟩, fun h0 => ⟨⟨⟨by omega, by omega⟩, ⟨by omega, by omega⟩, ⟨h0, by omega⟩, ⟨hT1.1, by rw [List.length_set, hFFl]; exact hT1.2⟩⟩, inK_of (by omega) (by omega), m + 1, by omega, by omega, by omega, ?_⟩, fun h0 => ⟨inK_of (by omega) (by omega), m + 1, by omega, by omega, by omega, ?_⟩⟩
      · rw [List.set_set, hrs]
        unfold Sp.frv
        rw [Int.toNat_natCast, if_neg (by omega)]
      · rw [hrs]
        unfold Sp.frv
        rw [Int.toNat_natCast, if_pos h0]
    have hmE : m = E.length := by omega
    subst hmE
    refine ⟨⟨0, Nat.zero_le _, rfl, rfl⟩, ?_⟩
    intro k hk _
    have hml : (Sp.hMN M (Sp.reT P E (p : Int) (q : Int)) k).length = k := by simp [Sp.hMN]
    refine ⟨fun hlt => ⟨⟨⟨⟨by omega, by omega⟩, (hLL.1 k (by omega)).1, fun v hv => by rw [hRl]; exact ((hLL.1 k (by omega)).2 v hv).2⟩, by rw [hml, maxNew_eq]; omega⟩, inK_of (by omega) (by omega), k + 1, by omega, by omega, by omega, ?_⟩, fun hge3 => ?_⟩
    · unfold Sp.hMN
      rw [List.range_succ, List.map_append]; rfl
    have hk3 : k = 3 := by omega
    subst hk3
    have hUe : (Sp.evs 0 (Sp.swP P p q)).length ≤ 1000 := Nat.le_trans hu1.1 (by decide)
    have hVe : (Sp.evs 0 (Sp.mvP P (Sp.plA n0 n1))).length ≤ 1000 := Nat.le_trans hu2.1 (by decide)
    rw [hU]
    refine ⟨⟨hLL.2.1, fun v hv => by rw [hRl]; exact (hLL.2.2 v hv).2⟩, ⟨hUe, h1000, fun _ => hUe, fun _ => h1000⟩, ?_, fun _ => ?_⟩
    · have hq1' : Sp.allowed (Sp.swP P p q, ()) (Sp.reE P E (p : Int) (q : Int), Sp.reF P E F (p : Int) (q : Int) E.length, Sp.hMN M (Sp.reT P E (p : Int) (q : Int)) 3, Sp.ren O (Sp.reT P E (p : Int) (q : Int)), ()) = Sp.allowed (P, ()) (E, F, M, O, ()) := hq1
      have hq2' : Sp.right (Sp.swP P p q, ()) (Sp.reE P E (p : Int) (q : Int), Sp.reF P E F (p : Int) (q : Int) E.length, Sp.hMN M (Sp.reT P E (p : Int) (q : Int)) 3, Sp.ren O (Sp.reT P E (p : Int) (q : Int)), ()) = Sp.right (P, ()) (E, F, M, O, ()) := hq2
      rw [hq1', hq2']
      simp
    have hr0 : 0 ≤ n0 % 3 ∧ n0 % 3 < 3 := by omega
    have hr1 : 0 ≤ n1 % 3 ∧ n1 % 3 < 3 := by omega
    have hL3 := hpl.len
    refine ⟨⟨by omega, by omega, by omega, hLL.2.1, fun l hl' => ?_⟩, ⟨⟨by decide, by decide⟩, by decide, ⟨by decide, by decide⟩, by decide, ⟨hr0.1, hr0.2⟩⟩, ⟨⟨by decide, by decide⟩, by decide, ⟨by decide, by decide⟩, by decide, ⟨hr1.1, by rw [List.length_set]; exact hr1.2⟩⟩, ⟨0, Nat.zero_le _, rfl, rfl, rfl⟩, ?_⟩
    · obtain ⟨a, ha, e⟩ := List.getElem_of_mem hl'
      rw [← e, ← Sp.getD_lt (d := [])]
      exact (hLL.1 a (by omega)).1
    intro a ha _
    refine ⟨fun hlt => ⟨⟨0, ⟨by omega, Nat.zero_le _⟩, rfl, rfl⟩, ?_⟩, fun hge4 => ?_⟩
    · intro b hb _
      have hbl : ((P.getD a []).take b).length ≤ b := List.length_take_le _ _
      have hra := hrow a
      refine ⟨⟨by omega, by omega⟩, fun hbl2 => ?_, fun hbl2 => ⟨by unfold Sp.mvN; rw [List.length_map, List.length_take, maxNew_eq]; omega, inK_of (by omega) (by omega), a + 1, by omega, by omega, by omega, ?_⟩⟩
      · have hb' : b < (P.getD a []).length := by omega
        have hsn := Sp.map_take_snoc (Sp.plA n0 n1) hb'
        have hop : Sp.usual ((P.getD a []).getD b (0, 0, 0, ())) = true := husual a b hb.1 hb'
        have hopX := Sp.usual_X hop
        refine ⟨⟨⟨by omega, by omega⟩, ⟨by omega, by omega⟩⟩, fun h4 => ⟨⟨hopX.1, by omega⟩, by rw [List.length_map, maxNew_eq]; omega, inK_of (by omega) (by omega), b + 1, ⟨hb.1, by omega⟩, by omega, by omega, ?_⟩, fun h4 => ⟨by rw [List.length_map, maxNew_eq]; omega, inK_of (by omega) (by omega), b + 1, ⟨hb.1, by omega⟩, by omega, by omega, ?_⟩⟩
        · rw [hsn]
          unfold Sp.mvO
          rw [if_neg h4]
        · rw [hsn]
          unfold Sp.mvO
          rw [if_pos h4]
      · rw [Sp.mvN_succ hb.1, take_all' hb.2 hbl2]
    have haP : a = P.length := by omega
    subst haP
    have hmvN : Sp.mvN P (Sp.plA n0 n1) P.length = Sp.mvP P (Sp.plA n0 n1) := by unfold Sp.mvN Sp.mvP; rw [List.take_length]
    rw [hmvN]
    refine ⟨⟨0, Nat.zero_le _, rfl, rfl⟩, ?_⟩
    intro m hm _
    rw [Sp.mvEN_len _ _ hm]
    refine ⟨fun hlt => ?_, fun hge5 => ?_⟩
    · have hm' : m < E.length := by omega
      have hmu : Sp.usual (Sp.ev E (m : Int)).2.1 = true := by rw [(hc m hm').2]; exact (Sp.valid_ev hv).2 _ (Sp.ev_mem (by show m < (Sp.evs 0 P).length; omega))
      have hmX := Sp.usual_X hmu
      rw [Sp.mvEN_get hm']
      refine ⟨inN_of hlt, fun h4 => ⟨⟨inN_of hlt, ⟨hmX.1, by omega⟩, inN_of hlt⟩, inK_of (by omega) (by omega), m + 1, by omega, by omega, by omega, ?_⟩, fun h4 => ⟨inK_of (by omega) (by omega), m + 1, by omega, by omega, by omega, ?_⟩⟩
      · rw [Sp.mvEN_succ hm']
        unfold Sp.mvE1 Sp.mvO
        rw [if_neg h4]
      · rw [← Sp.mvEN_same hm' h4]
    have hmE : m = E.length := by omega
    subst hmE
    refine ⟨⟨0, Nat.zero_le _, rfl, by unfold Sp.mvEN; rw [List.take_length, List.drop_length, List.append_nil]; rfl⟩, ?_⟩
    intro c hcc _
    have hMMl := Sp.mvM_len M (Sp.plA n0 n1) c
    refine ⟨fun hlt => ?_, fun hge6 => ?_⟩
    · have hcr := hpl.rng c (by omega)
      exact ⟨⟨⟨by omega, by omega⟩, ⟨by omega, by omega⟩, ⟨hcr.1, by omega⟩⟩, inK_of (by omega) (by omega), c + 1, by omega, by omega, by omega, by rw [Sp.mvM_succ]⟩
    · have hc3 : c = 3 := by omega
      subst hc3
      have hq3' : Sp.allowed (Sp.mvP P (Sp.plA n0 n1), ()) (E.map (Sp.mvE1 (Sp.plA n0 n1)), F, Sp.mvM M (Sp.plA n0 n1) 3, O, ()) = Sp.allowed (P, ()) (E, F, M, O, ()) := hq3
      have hq4' : Sp.right (Sp.mvP P (Sp.plA n0 n1), ()) (E.map (Sp.mvE1 (Sp.plA n0 n1)), F, Sp.mvM M (Sp.plA n0 n1) 3, O, ()) = Sp.right (P, ()) (E, F, M, O, ()) := hq4
      exact ⟨⟨hVe, h1000, fun _ => hVe, fun _ => h1000⟩, hq3', hq4'⟩
  all_goals
    intro e he _
    have hil := he.1
    have hvle := Sp.vis_le hp hq hl hc hil he.2
    have hvs := Sp.vis_succ E (p : Int) (q : Int) i e
    refine ⟨fun helt => ⟨inN_of helt, fun hco => ?_, fun hco => ?_⟩, fun hege => ?_⟩
    · have helt' : e < E.length := by omega
      have hco' : (Sp.ev E (e : Int)).1 = Sp.swC (p : Int) (q : Int) (i : Int) := hco
      obtain ⟨hnm, hlt3⟩ := Sp.vis_new hp hq hl hc hil helt' hco'
      rw [if_pos hco'] at hvs
      have hvsl : (Sp.visN E (p : Int) (q : Int) i (e + 1)).length = (Sp.visN E (p : Int) (q : Int) i e).length + 1 := by rw [hvs]; simp
      refine ⟨⟨by omega, by simp [Sp.toV]; omega⟩, ⟨⟨by omega, by omega⟩, ⟨by omega, by rw [Sp.heV_len]; omega⟩⟩, ⟨by omega, by rw [List.length_set, Sp.heV_len]; omega⟩, inK_of (by omega) (by omega), inK_of (by omega) (by omega), e + 1, ⟨hil, by omega⟩, by omega, by omega, by omega, by rw [hvs, Sp.toV_snoc helt' hnm], ?_⟩
      rw [List.set_set, hvs, Sp.heV_snoc ?_ hlt3]
      rw [Sp.getD_lt (by rw [List.length_set, Sp.heV_len]; exact hlt3), List.getElem_set_self, hco', Sp.swC_swC]
      rfl
    · have hco' : ¬ (Sp.ev E (e : Int)).1 = Sp.swC (p : Int) (q : Int) (i : Int) := hco
      rw [if_neg hco', List.append_nil] at hvs
      exact ⟨inK_of (by omega) (by omega), e + 1, ⟨hil, by omega⟩, by omega, by omega, by rw [hvs], by rw [hvs], by rw [hvs]⟩
    · have hee : e = E.length := by omega
      have hvr := Sp.vis_row E (p : Int) (q : Int) i
      exact ⟨inK_of (by omega) (by omega), i + 1, by omega, by omega, by omega, by rw [hee, hvr], by rw [hee, hvr], by rw [hee, hvr]⟩
end Go.User
namespace Go.Proofs.Ytmoonjcbljefaaa
open Go.ChangeShapes Go.WideShapes Go.ChangeAt Go.RowKit Go.Proofs Go.Lf

theorem arg_two {W : World} {base : Nat} {v : Value} (h : Value.okWide Try.prog W .any base 56 v) (F : NSet) : ∃ l : List Int, OwnV F W (.arr 2 (.int .u8)) .shr none' v l :=
  arg_agg (τ := .arr 2 (.int .u8)) (ts := [5, 5]) (.inr ⟨_, _, Try.underlying56⟩) rfl (by kernel_rfl) (by kernel_rfl) rfl (fun i l u h1 h2 => by
    match i, h1, h2 with
    | 0, h1, h2 => cases h1; cases h2; exact Try.underlying5
    | 1, h1, h2 => cases h1; cases h2; exact Try.underlying5) h F

set_option maxRecDepth 100000 in
theorem renames_lifted (hF : FOk Try.prog 8 Go.User.S8) (os : Os) (started : os.Started) (H : Type) (enc : TypeId × Value → H) :
    ReturnsInHanded {} Try.checked os 8 .any (Rows.axiomRenamesSpec.pre6 enc Try.prog Try.f8 Rows.axiomRenamesRow.domain false) (Rows.axiomRenamesSpec.post enc Try.prog Try.f8 false true false false) := by
  refine returnsInHanded_of_change_sized (C := Try.checked) Try.own started (by kernel_rfl) Try.func8
    (ChangeSpec.witness6 (enc := enc) (C := Try.checked) false ⟨#[], #[.slice none 0 0, .slice none 0 0, .agg #[.int .u8 0, .int .u8 0]], []⟩ 8 (by kernel_rfl) (by kernel_rfl) (by kernel_rfl) (by kernel_rfl)) ?_
  intro W base args ds gs before hval0 hW _ hsz0 _
  have hsz : (DataW.weightsEach Try.prog (Try.f8.params.toList ++ Rows.axiomRenamesSpec.plain.varTypes Try.prog) (ds ++ gs)).all (· ≤ reachBytes) = true := hsz0
  clear hsz0
  have hval : ∀ (j : Nat) t v, Try.f8.params[j]? = some t → args[j]? = some v → Value.okWide Try.prog W .any base t v := hval0
  have hW' := hW
  obtain ⟨p, q, hA0, hV, rfl, _, _⟩ := hW
  have hA : DataW.TrodAll enc Try.prog W 0 (fun _ => true) true Try.f8.params.toList args.toList ds p := hA0
  rw [Try.params8] at hA hval hsz
  obtain ⟨v0, v1, v2, d0, d1, d2, p0, p1, p2, rfl, rfl, rfl, h0, h1, h2⟩ := trodAll_three hA
  obtain ⟨rfl, rfl⟩ := trodVars_none hV
  clear hA0 hval0
  simp only [List.append_nil, List.append_assoc] at hW'
  have hlt0 : ∀ x ∈ p0, x.block < W.heap.size := fun x hx => hW'.lt x (by simp [hx])
  have hlt1 : ∀ x ∈ p1, x.block < W.heap.size := fun x hx => hW'.lt x (by simp [hx])
  have hlt2 : ∀ x ∈ p2, x.block < W.heap.size := fun x hx => hW'.lt x (by simp [hx])
  have sz : ∀ (j : Nat) (xs ys : List (DataW H)), ([22, 22, 56] : List TypeId)[j]? = some 22 → ([d0, d1, d2] ++ ([] : List (DataW H)))[j]? = some (.slice xs ys) → xs.length ≤ lim := by
    intro j xs ys h1 h2
    have := sized_slice hsz (j := j) (t := 22) (e := 5) (show (([22, 22, 56] : List TypeId) ++ [])[j]? = some 22 by simpa using h1) h2 Try.underlying22
    rw [Try.bytes5] at this
    simp only [reachBytes] at this
    unfold lim
    omega
  obtain ⟨xs, hx⟩ := argOK_ints (k := .u8) Try.underlying22 Try.underlying5 Try.cells5 (hval 0 22 v0 rfl rfl) h0 hlt0 (fun xs ys h => sz 0 xs ys rfl (by rw [h]; rfl))
  obtain ⟨ys, hy⟩ := argOK_ints (k := .u8) Try.underlying22 Try.underlying5 Try.cells5 (hval 1 22 v1 rfl rfl) h1 hlt1 (fun xs ys h => sz 1 xs ys rfl (by rw [h]; rfl))
  obtain ⟨n, hn⟩ := arg_two (hval 2 56 v2 rfl rfl) (fun b => b < W.heap.size)
  have hcall := hF.2 W (fun b => b < W.heap.size) [v0, v1, v2] (xs, ys, n, ()) (fun b h => h) ⟨v0, [v1, v2], rfl, hx, v1, [v2], rfl, hy, v2, [], rfl, hn, rfl⟩ trivial
  refine hcall.mono ?_
  rintro e W' ⟨v, F', S', rfl, hb, _, _, _, _, hv⟩
  have hv : OwnV F' W' .bool .shr S' v true := hv
  have := hv.bool_eq
  subst this
  have hargs0 := Below.trod Try.laidOut (by kernel_rfl) (of_decide_eq_true (by kernel_rfl)) h0 hb hlt0
  have hargs1 := Below.trod Try.laidOut (by kernel_rfl) (of_decide_eq_true (by kernel_rfl)) h1 hb hlt1
  have hargs2 := Below.trod Try.laidOut (by kernel_rfl) (of_decide_eq_true (by kernel_rfl)) h2 hb hlt2
  refine ⟨_, rfl, _, _, _, [], p0 ++ (p1 ++ p2), [], hW', ?_, trodAll_mk3 hargs0 hargs1 hargs2, rfl, hb.frame _, fun h => by cases h⟩
  exact trodAll_mk1 (shut_bool Try.underlying4 true)

theorem axiomRenames_holds : Rows.AxiomRenamesSaid :=
  OpenClaim.holds_of_wide 8 Try.f8 rfl rfl rfl rfl rfl rfl rfl ⟨rfl, rfl, rfl, rfl, rfl⟩ rfl rfl rfl rfl rfl (by kernel_rfl) Try.func8 (by kernel_rfl)
    (of_decide_eq_true (by kernel_rfl)) (by unfold Func.isWrapper; first | (rw [if_pos (by decide +kernel)]; kernel_rfl) | (rw [if_neg (by decide +kernel)]; exact ⟨rfl, rfl⟩))
    (fun os started H enc _ => renames_lifted Go.User.ok8 os started H enc)
end Go.Proofs.Ytmoonjcbljefaaa
