/- Written by gen.py: what is left to show of each function. ViewNames answers true. The law ViewNames. -/
import Derived.Test.YthhclebbpbkgdaaLfl
set_option linter.unusedVariables false
set_option linter.unusedSimpArgs false
namespace Go.User
open Go.Proofs Go.Lf
set_option maxRecDepth 100000
theorem vc5 : (funI C5 (stpS C5) S5 L5 Try.f5) = (
let q0 : Prop := (True ∧ True) ∧ True;
let q1 : Prop := True ∧ True ∧ True;
let q2 : Prop := q1 ∧ True;
let q3 : Prop := q0 ∧ false = true;
let q4 : Int := (4 : Int);
let q5 : Int := (3 : Int);
let q6 : Int := (0 : Int);
let q7 : Prop := q5 ≠ q6;
let q8 : Prop := True ∧ q1;
let q9 : Nat := (0 : Nat);
let q10 : List (List (Int × Int × Int × Unit)) := ([] : List tLOp.slice.den);
let q11 : Prop := Sp.exOK = Sp.exOK;
let q12 : Prop := True ∧ q8;
let q13 : Prop := (True ∧ q12) ∧ True;
let q14 : Prop := (True ∧ True) ∧ True ∧ True;
let q15 : Int × Int × Int × Unit := (q6, q6, q6, ());
let q16 : Prop := q1 ∧ True ∧ True;
let q17 : Int := (1 : Int);
let q18 : List Step := List.append._f (([] : List Step)) PUnit.unit (Step.fst :: ([] : List Step));
let q19 : Prop := True ∧ q18 = q18 ∧ True;
let q20 : List (List (Int × Int × Int × Unit)) := ([] : List tLOp.den) :: q10;
let q21 : Nat := (1000 : Nat);
let q22 : List Int × List Int × Unit := (([] : List tI.den), ([] : List tI.den), ());
∀ (x : List (List Int) × Int × Int × Unit),
  let q23 : Nat := (Sp.madeP x.1 q4).length;
  let q24 : Nat := (Sp.madeP x.1 q4).length;
  let q25 : Int := x.2.1 % q5;
  let q26 : Int := x.2.2.1 % q5;
  let q27 : Prop := Sp.made x.1 q4 = Sp.made x.1 q4;
  let q28 : Int := x.2.1 % q5;
  let q29 : Prop := q28 = q28;
  let q30 : Int := x.2.2.1 % q5;
  let q31 : Prop := q30 = q30;
  let q32 : List (List (Int × Int × Int × Unit)) × Unit := (Sp.madeP x.1 q4, ());
  let q33 : Prop := q32 = q32;
  let q34 : Prop := q11 ∧ q27 ∧ q29 ∧ q31 ∧ q33 ∧ True;
  let q35 : Int := (↑q23 : Int);
  let q36 : Bool := decide (q35 < q4);
  let q37 : Prop := Sp.total (Sp.madeP x.1 q4) ≤ q21;
  let q38 : List (List (Int × Int × Int × Unit)) := Sp.madeP x.1 q4 ++ q20;
  let q39 : List (List Int × List Int × Unit) := Sp.outs (Sp.turned (Sp.made x.1 q4) q25 q26);
  let q40 : Nat := q39.length;
  let q41 : List (List Int × List Int × Unit) := Sp.outs (Sp.made x.1 q4);
  let q42 : Int := Sp.errA (Sp.made x.1 q4);
  let q43 : List (List Int × List Int × Unit) × Int × Unit := (q41, q42, ());
  let q44 : Prop := q43 = q43;
  let q45 : List (List (Int × Int × Int × Unit)) × Unit := (q38, ());
  let q46 : List (List Int × List Int × Unit) := Sp.outs q45;
  let q47 : List (List Int × List Int × Unit) × Int × Unit := (q46, Sp.errA q45, ());
  let q48 : Prop := q47 = q47 ∧ True;
  let q49 : Nat := q28.toNat;
  let q50 : Nat := q30.toNat;
  let q51 : Bool := q42 == q6;
  let q52 : Prop := (true && bif q51 then true else false) = true → True;
  let q53 : Nat := q41.length;
  let q54 : List (List Int × List Int × Unit) := Sp.outs q32;
  let q55 : List (List Int × List Int × Unit) × Int × Unit := (q54, Sp.errA q32, ());
  let q56 : Prop := q55 = q55 ∧ True;
  True →
    dFact (Ty.arr (4 : Nat) (Ty.int IntKind.u8)).slice x.1 ∧ dFact (Ty.int IntKind.u8) x.2.1 ∧ dFact (Ty.int IntKind.u8) x.2.2.1 ∧ True →
      q0 ∧
        q2 ∧
          q2 ∧
            ((!Sp.exOK) = true → q3) ∧
              ((!Sp.exOK) = false →
                ((True ∧ ((0 : (AK.val tI).den) ≤ q4 ∧ q4 ≤ (6 : (AK.val tI).den)) ∧ True ∧ q7 ∧ True ∧ True ∧ q7 ∧ q1) ∧ q8) ∧
                  ((True ∧ True ∧ True ∧ True ∧ (↑(q9 + q23) : Int) ≤ maxNew ∧ q8) ∧ q1) ∧
                    q0 ∧
                      (∃ (x_1 : Nat), x_1 ≤ q24 ∧ q6 = (↑x_1 : Int) ∧ (q10, ()) = (Sp.trnC (Sp.madeP x.1 q4) q25 q26 x_1, ()) ∧ q34) ∧
                        ∀ (x_1 : Nat),
                          let q57 : List (List (Int × Int × Int × Unit)) := Sp.trnC (Sp.madeP x.1 q4) q25 q26 x_1;
                          let q58 : List (List (Int × Int × Int × Unit)) × Unit := (q57, ());
                          let q59 : Bool := decide ((↑x_1 : Int) < q35);
                          let q60 : List (Int × Int × Int × Unit) := (Sp.madeP x.1 q4).getD x_1 (([] : List Sp.LOp));
                          let q61 : Nat := q60.length;
                          let q62 : Prop := q11 ∧ q27 ∧ q29 ∧ q31 ∧ q58 = q58 ∧ q33 ∧ (↑x_1 : Int) = (↑x_1 : Int) ∧ True;
                          let q63 : Prop := inN (↑x_1 : Int) q23;
                          let q64 : List (Int × Int × Int × Unit) := (Sp.madeP x.1 q4).getD (↑x_1 : Int).toNat (([] : List tLOp.den));
                          let q65 : Nat := q64.length;
                          let q66 : Int := (↑x_1 : Int) + q17;
                          let q67 : Prop := Sp.total q57 ≤ q21;
                          let q68 : List (List Int × List Int × Unit) := Sp.outs q58;
                          let q69 : Int := Sp.errA q58;
                          let q70 : List (List Int × List Int × Unit) × Int × Unit := (q68, q69, ());
                          let q71 : Prop := q70 = q70;
                          let q72 : Prop := q11 ∧ q29 ∧ q31 ∧ q44 ∧ q71 ∧ q48;
                          let q73 : Nat := q68.length;
                          let q74 : Bool := bif q51 then q69 == q6 else false;
                          let q75 : Prop := (true && bif q74 then true else false) = true → True;
                          let q76 : Prop := q11 ∧ q29 ∧ q31 ∧ q44 ∧ q71 ∧ q56;
                          x_1 ≤ q24 →
                            dFact (Ty.int IntKind.i64) (↑x_1 : Int) ∧ dFact (((Ty.int IntKind.i64).prod ((Ty.int IntKind.i64).prod ((Ty.int IntKind.i64).prod Ty.unit))).slice.slice.prod Ty.unit) q58 ∧ True →
                              q13 ∧
                                (q59 = true →
                                    q14 ∧
                                      q0 ∧
                                        (∃ (x : Nat), x ≤ q61 ∧ q6 = (↑x : Int) ∧ ([] : List tLOp.den) = Sp.trnL q25 q26 (List.take x q60) ∧ q62) ∧
                                          ∀ (x_2 : Nat),
                                            let q77 : List (Int × Int × Int × Unit) := Sp.trnL q25 q26 (List.take x_2 q60);
                                            let q78 : Bool := decide ((↑x_2 : Int) < (↑q65 : Int));
                                            let q79 : Int × Int × Int × Unit := q64.getD (↑x_2 : Int).toNat q15;
                                            let q80 : Int := q79.1;
                                            let q81 : Bool := q80 != q4;
                                            let q82 : Prop := (true && bif q81 then true else false) = true → True;
                                            let q83 : Prop := (True ∧ True ∧ True ∧ True ∧ q82 ∧ q82 ∧ q82 ∧ q82 ∧ True ∧ True) ∧ True;
                                            let q84 : Int × Int × Unit := q79.2;
                                            let q85 : Int := q84.1;
                                            let q86 : Bool := bif q81 then q85 == q28 else false;
                                            let q87 : Nat := q77.length;
                                            let q88 : Int × Unit := q84.2;
                                            let q89 : List (Int × Int × Int × Unit) := (q80, q30, q88) :: ([] : List tLOp.den);
                                            let q90 : Int := (↑x_2 : Int) + q17;
                                            let q91 : Prop := (True ∧ inK IntKind.i64 q90 ∧ True ∧ True) ∧ True;
                                            let q92 : Bool := bif q81 then q85 == q30 else false;
                                            let q93 : List (Int × Int × Int × Unit) := (q80, q28, q88) :: ([] : List tLOp.den);
                                            let q94 : List (Int × Int × Int × Unit) := q79 :: ([] : List tLOp.den);
                                            let q95 : List (List (Int × Int × Int × Unit)) := q77 :: q10;
                                            x_2 ≤ q61 → dFact (Ty.int IntKind.i64) (↑x_2 : Int) ∧ dFact ((Ty.int IntKind.i64).prod ((Ty.int IntKind.i64).prod ((Ty.int IntKind.i64).prod Ty.unit))).slice q77 ∧ True → ((True ∧ True ∧ True ∧ True ∧ q63 ∧ q8) ∧ True) ∧ (q78 = true → ((True ∧ True ∧ True ∧ q63 ∧ True ∧ True ∧ inN (↑x_2 : Int) q65 ∧ q1) ∧ True ∧ True) ∧ q83 ∧ (q86 = true → q16 ∧ (q8 ∧ (↑(q87 + q89.length) : Int) ≤ maxNew ∧ True ∧ True) ∧ q91 ∧ ∃ (y : Nat), y ≤ q61 ∧ q61 - y < q61 - x_2 ∧ q90 = (↑y : Int) ∧ q77 ++ q89 = Sp.trnL q25 q26 (List.take y q60) ∧ q62) ∧ (q86 = false → q83 ∧ (q92 = true → q16 ∧ (q8 ∧ (↑(q87 + q93.length) : Int) ≤ maxNew ∧ True ∧ True) ∧ q91 ∧ ∃ (y : Nat), y ≤ q61 ∧ q61 - y < q61 - x_2 ∧ q90 = (↑y : Int) ∧ q77 ++ q93 = Sp.trnL q25 q26 (List.take y q60) ∧ q62) ∧ (q92 = false → (q8 ∧ (↑(q87 + q94.length) : Int) ≤ maxNew ∧ True ∧ True) ∧ q91 ∧ ∃ (y : Nat), y ≤ q61 ∧ q61 - y < q61 - x_2 ∧ q90 = (↑y : Int) ∧ q77 ++ q94 = Sp.trnL q25 q26 (List.take y q60) ∧ q62))) ∧ (q78 = false → (q12 ∧ (↑(q57.length + q95.length) : Int) ≤ maxNew ∧ q19) ∧ ((True ∧ inK IntKind.i64 q66 ∧ True ∧ True) ∧ True) ∧ ∃ (y : Nat), y ≤ q24 ∧ q24 - y < q24 - x_1 ∧ q66 = (↑y : Int) ∧ (q57 ++ q95, ()) = (Sp.trnC (Sp.madeP x.1 q4) q25 q26 y, ()) ∧ q34)) ∧
                                  (q59 = false →
                                    (q12 ∧ True) ∧
                                      (q36 = true →
                                          (q8 ∧ (↑(q23 + q20.length) : Int) ≤ maxNew ∧ q19) ∧
                                            ((True ∧ q37 ∧ True ∧ q67 ∧ True ∧ Sp.total q38 ≤ q21 ∧ q8) ∧ q8) ∧
                                              q14 ∧
                                                q0 ∧
                                                  (∃ (x : Nat), x ≤ q40 ∧ q6 = (↑x : Int) ∧ ([] : List tOut.den) = Sp.backs q25 q26 q39 x ∧ q72) ∧
                                                    ∀ (x : Nat),
                                                      let q96 : List (List Int × List Int × Unit) := Sp.backs q25 q26 q39 x;
                                                      let q97 : Bool := decide ((↑x : Int) < (↑q73 : Int));
                                                      let q98 : Prop := inN (↑x : Int) q73;
                                                      let q99 : List Int × List Int × Unit := q68.getD (↑x : Int).toNat q22;
                                                      let q100 : List Int := q99.2.1;
                                                      let q101 : Nat := q100.length;
                                                      let q102 : Bool := (↑q101 : Int) != q5;
                                                      let q103 : Prop := inN q28 q101;
                                                      let q104 : List Int := q100.set q49 (q100.getD q50 q6);
                                                      let q105 : Nat := q96.length;
                                                      let q106 : List (List Int × List Int × Unit) := (q99.1, q104.set q50 (q100.getD q49 q6), ()) :: ([] : List tOut.den);
                                                      let q107 : Int := (↑x : Int) + q17;
                                                      let q108 : Bool := bif q74 then (↑q105 : Int) == (↑q53 : Int) else false;
                                                      let q109 : Prop := (true && bif q108 then true else false) = true;
                                                      let q110 : Prop := q109 → True;
                                                      let q111 : Bool := bif q108 then Sp.inside q96 q41 else false;
                                                      let q112 : Prop := (true && bif q111 then true else false) = true → True;
                                                      let q113 : Bool := bif q111 then Sp.sameOs q46 q41 else false;
                                                      x ≤ q40 → dFact (Ty.int IntKind.i64) (↑x : Int) ∧ dFact ((Ty.int IntKind.i64).slice.prod ((Ty.int IntKind.i64).slice.prod Ty.unit)).slice q96 ∧ True → q13 ∧ (q97 = true → ((True ∧ True ∧ True ∧ q98 ∧ q12) ∧ True) ∧ (q102 = true → q3) ∧ (q102 = false → ((True ∧ True ∧ True ∧ q98 ∧ True ∧ True ∧ True ∧ True ∧ True ∧ True ∧ q98 ∧ True ∧ True ∧ (↑(q9 + q101) : Int) ≤ maxNew ∧ q1) ∧ True ∧ True) ∧ ((True ∧ True ∧ True ∧ True ∧ True ∧ True ∧ q98 ∧ True ∧ True ∧ True ∧ inN q30 q101 ∧ True ∧ q103 ∧ True) ∧ True ∧ True) ∧ ((True ∧ True ∧ True ∧ True ∧ True ∧ True ∧ q98 ∧ True ∧ True ∧ True ∧ q103 ∧ True ∧ inN q30 q104.length ∧ True) ∧ True ∧ True) ∧ (q8 ∧ (↑(q105 + q106.length) : Int) ≤ maxNew ∧ True ∧ True) ∧ ((True ∧ inK IntKind.i64 q107 ∧ True ∧ True) ∧ True) ∧ ∃ (y : Nat), y ≤ q40 ∧ q40 - y < q40 - x ∧ q107 = (↑y : Int) ∧ q96 ++ q106 = Sp.backs q25 q26 q39 y ∧ q72)) ∧ (q97 = false → ((True ∧ True ∧ True ∧ True ∧ q52 ∧ q52 ∧ q52 ∧ True ∧ True ∧ q75 ∧ q75 ∧ q75 ∧ q75 ∧ q75 ∧ q75 ∧ True ∧ True ∧ q110 ∧ q110 ∧ q110 ∧ (q109 → q53 ≤ (1000000 : Nat)) ∧ True ∧ True ∧ q112 ∧ q112 ∧ q112 ∧ q112 ∧ q112 ∧ True ∧ True ∧ ((true && bif q113 then true else false) = true → True) ∧ q1) ∧ True) ∧ (bif q113 then Sp.exOK else false) = true)) ∧
                                        (q36 = false →
                                          ((True ∧ q37 ∧ True ∧ q67 ∧ True ∧ q37 ∧ q8) ∧ q8) ∧
                                            q14 ∧
                                              q0 ∧
                                                (∃ (x : Nat), x ≤ q40 ∧ q6 = (↑x : Int) ∧ ([] : List tOut.den) = Sp.backs q25 q26 q39 x ∧ q76) ∧
                                                  ∀ (x : Nat),
                                                    let q114 : List (List Int × List Int × Unit) := Sp.backs q25 q26 q39 x;
                                                    let q115 : Bool := decide ((↑x : Int) < (↑q73 : Int));
                                                    let q116 : Prop := inN (↑x : Int) q73;
                                                    let q117 : List Int × List Int × Unit := q68.getD (↑x : Int).toNat q22;
                                                    let q118 : List Int := q117.2.1;
                                                    let q119 : Nat := q118.length;
                                                    let q120 : Bool := (↑q119 : Int) != q5;
                                                    let q121 : Prop := inN q28 q119;
                                                    let q122 : List Int := q118.set q49 (q118.getD q50 q6);
                                                    let q123 : Nat := q114.length;
                                                    let q124 : List (List Int × List Int × Unit) := (q117.1, q122.set q50 (q118.getD q49 q6), ()) :: ([] : List tOut.den);
                                                    let q125 : Int := (↑x : Int) + q17;
                                                    let q126 : Bool := bif q74 then (↑q123 : Int) == (↑q53 : Int) else false;
                                                    let q127 : Prop := (true && bif q126 then true else false) = true;
                                                    let q128 : Prop := q127 → True;
                                                    let q129 : Bool := bif q126 then Sp.inside q114 q41 else false;
                                                    let q130 : Prop := (true && bif q129 then true else false) = true → True;
                                                    let q131 : Bool := bif q129 then Sp.sameOs q54 q41 else false;
                                                    x ≤ q40 → dFact (Ty.int IntKind.i64) (↑x : Int) ∧ dFact ((Ty.int IntKind.i64).slice.prod ((Ty.int IntKind.i64).slice.prod Ty.unit)).slice q114 ∧ True → q13 ∧ (q115 = true → ((True ∧ True ∧ True ∧ q116 ∧ q12) ∧ True) ∧ (q120 = true → q3) ∧ (q120 = false → ((True ∧ True ∧ True ∧ q116 ∧ True ∧ True ∧ True ∧ True ∧ True ∧ True ∧ q116 ∧ True ∧ True ∧ (↑(q9 + q119) : Int) ≤ maxNew ∧ q1) ∧ True ∧ True) ∧ ((True ∧ True ∧ True ∧ True ∧ True ∧ True ∧ q116 ∧ True ∧ True ∧ True ∧ inN q30 q119 ∧ True ∧ q121 ∧ True) ∧ True ∧ True) ∧ ((True ∧ True ∧ True ∧ True ∧ True ∧ True ∧ q116 ∧ True ∧ True ∧ True ∧ q121 ∧ True ∧ inN q30 q122.length ∧ True) ∧ True ∧ True) ∧ (q8 ∧ (↑(q123 + q124.length) : Int) ≤ maxNew ∧ True ∧ True) ∧ ((True ∧ inK IntKind.i64 q125 ∧ True ∧ True) ∧ True) ∧ ∃ (y : Nat), y ≤ q40 ∧ q40 - y < q40 - x ∧ q125 = (↑y : Int) ∧ q114 ++ q124 = Sp.backs q25 q26 q39 y ∧ q76)) ∧ (q115 = false → ((True ∧ True ∧ True ∧ True ∧ q52 ∧ q52 ∧ q52 ∧ True ∧ True ∧ q75 ∧ q75 ∧ q75 ∧ q75 ∧ q75 ∧ q75 ∧ True ∧ True ∧ q128 ∧ q128 ∧ q128 ∧ (q127 → q53 ≤ (1000000 : Nat)) ∧ True ∧ True ∧ q130 ∧ q130 ∧ q130 ∧ q130 ∧ q130 ∧ True ∧ True ∧ ((true && bif q131 then true else false) = true → True) ∧ q1) ∧ True) ∧ (bif q131 then Sp.exOK else false) = true))))) := by kernel_rfl
end Go.User
namespace Sp
theorem trnC_succ {P : List (List LOp)} {p q : Int} {c : Nat} (h : c < P.length) : trnC P p q c ++ [trnL p q (P.getD c [])] = trnC P p q (c + 1) := by
  unfold trnC; rw [Pl.take_succ h [], List.map_append]; rfl
theorem trnL_succ {p q : Int} {l : List LOp} {i : Nat} (h : i < l.length) : trnL p q (l.take i) ++ [trnO p q (l.getD i op0)] = trnL p q (l.take (i + 1)) := by
  unfold trnL; rw [Pl.take_succ h op0, List.map_append]; rfl
theorem backs_succ {p q : Int} {l : List Out} {i : Nat} (h : i < l.length) : backs p q l i ++ [backO p q (l.getD i out0)] = backs p q l (i + 1) := by
  unfold backs; rw [Pl.take_succ h out0, List.map_append]; rfl
theorem trn_no {p : Int} {o : LOp} (h : (o.1 != 4 && o.2.1 == p) = false) : ¬ (o.1 ≠ 4 ∧ o.2.1 = p) := by
  rintro ⟨h1, h2⟩
  rw [Bool.and_eq_false_iff, bne_eq_false_iff_eq] at h
  rcases h with h | h
  · exact h1 h
  · rw [beq_eq_false_iff_ne] at h; exact h h2
theorem trn_p {p q : Int} {o : LOp} (h : ¬ o.1 = 4 ∧ o.2.1 = p) : (o.1, q, o.2.2) = trnO p q o := by unfold trnO; rw [if_pos h]
theorem trn_q {p q : Int} {o : LOp} (h1 : (o.1 != 4 && o.2.1 == p) = false) (h : ¬ o.1 = 4 ∧ o.2.1 = q) : (o.1, p, o.2.2) = trnO p q o := by unfold trnO; rw [if_neg (trn_no h1), if_pos h]
theorem trn_n {p q : Int} {o : LOp} (h1 : (o.1 != 4 && o.2.1 == p) = false) (h2 : (o.1 != 4 && o.2.1 == q) = false) : o = trnO p q o := by unfold trnO; rw [if_neg (trn_no h1), if_neg (trn_no h2)]
end Sp
namespace Go.User
open Go.Lf Go.Proofs
set_option maxRecDepth 100000 in
theorem ok5 : FOk Try.prog 5 S5 := by
  have hC : CtxOK Try.prog C5 := okC (fns_cons ok11 (fns_cons ok12 (fns_cons ok13 (fns_cons ok15 (fns_cons ok16 fns_nil))))) rfl rfl rfl rfl rfl rfl rfl
  refine FOk.intro hC (stpS_ok hC) Try.call5 Try.func5 (by kernel_rfl) (by kernel_rfl) L5 (vc5.mpr ?_)
  simp only [z1, z2, z3, z4, z5, z6, z7, z8, z9, z10, z11, z12, z13, z14, z15, z16, z17, z18, z19, z20, z21, z22, z23, z24, z25, z26, z27, z28, z29, z30, z31, z32, z33, z34, z35, z36, z37, z38]
  have hex := ex_ok
  have hmx : maxNew = 2147483648 := rfl
  rintro ⟨x, a, b, u⟩ hk
  have hM := Sp.total_made (x := x) (n := 4) (by omega) (by omega)
  have hv := Sp.made_valid (x := x) (n := 4) (by omega) (by omega)
  have ht := Sp.made_total (x := x) (n := 4) (by omega) (by omega)
  have hmd : Sp.made x 4 = (Sp.madeP x 4, ()) := rfl
  dsimp only
  rw [hmd] at hv ht ⊢
  generalize Sp.madeP x 4 = P at hM hv ht ⊢
  obtain ⟨m1, m2, m3, m4⟩ := hM
  have ht : (Sp.total P : Int) ≤ 4 := ht
  have hp : 0 ≤ a % 3 ∧ a % 3 < 3 := by omega
  have hq : 0 ≤ b % 3 ∧ b % 3 < 3 := by omega
  generalize a % 3 = p at hp ⊢
  generalize b % 3 = q at hq ⊢
  clear hk hmd
  obtain ⟨n1, n2, n3⟩ := Sp.names hp hq hv
  have hv' := Sp.turned_valid hp hq hv
  have hsm := Sp.outs_small hv
  have hso := Sp.outs_sorted (P, ())
  have hsm' := Sp.outs_small hv'
  have htt : Sp.total (P.map (Sp.trnL p q)) = Sp.total P := Sp.turned_total P p q
  have hlen := Sp.outs_len (t := (P, ()))
  have h28 : 28 ^ Sp.total P ≤ 28 ^ 4 := Nat.pow_le_pow_right (by omega) (by omega)
  have h284 : 28 ^ 4 = 614656 := by decide
  have ht0 : Sp.total ((P, ()) : Sp.Lit).1 = Sp.total P := rfl
  rw [ht0] at hlen
  have hel : ∀ c, (P.getD c []).length ≤ 6 := fun c => by have := Sp.el_total (P := P) (c := c); omega
  refine ⟨fun h => absurd hex (by rw [h]; decide), fun _ => ⟨⟨by decide, by decide⟩, by omega, ⟨0, Nat.zero_le _, rfl, rfl⟩, fun c hc hck => ⟨fun hlt => ⟨⟨0, Nat.zero_le _, rfl, rfl⟩, fun i hi hik => ⟨inN_of hlt, fun hil => ?_, fun hig => ?_⟩⟩, fun hge => ?_⟩⟩⟩
  · have hel := hel c
    have hin := inN_of hlt
    have hii : inN (i : Int) (P.getD c []).length := inN_of hil
    have hil : i < (P.getD c []).length := by omega
    have htl : (Sp.trnL p q ((P.getD c []).take i)).length = i := by
      unfold Sp.trnL; rw [List.length_map, List.length_take]; omega
    have hsucc := Sp.trnL_succ (p := p) (q := q) hil
    have fin : ∀ o, o = Sp.trnO p q ((P.getD c []).getD i Sp.op0) → (((Sp.trnL p q ((P.getD c []).take i)).length + 1 : Nat) : Int) ≤ maxNew ∧ inK IntKind.i64 ((i : Int) + 1) ∧ ∃ y, y ≤ (P.getD c []).length ∧ (P.getD c []).length - y < (P.getD c []).length - i ∧ (i : Int) + 1 = (y : Int) ∧ Sp.trnL p q ((P.getD c []).take i) ++ [o] = Sp.trnL p q ((P.getD c []).take y) := by
      rintro o rfl
      exact ⟨by rw [htl]; omega, inK_mid (by omega) (by omega), i + 1, by omega, by omega, by omega, hsucc⟩
    exact ⟨⟨hin, hii⟩, fun h1 => fin _ (Sp.trn_p h1), fun h1 => ⟨fun h2 => fin _ (Sp.trn_q h1 h2), fun h2 => fin _ (Sp.trn_n h1 h2)⟩⟩
  · have hlt : (c : Int) < (P.length : Int) := hlt
    have hig : (((P.getD c []).length : Nat) : Int) ≤ (i : Int) := hig
    have htl : (Sp.trnC P p q c).length = c := by
      unfold Sp.trnC; rw [List.length_map, List.length_take]; omega
    refine ⟨by rw [htl]; omega, inK_mid (by omega) (by omega), c + 1, by omega, by omega, by omega, ?_⟩
    rw [List.take_of_length_le (by omega), Sp.trnC_succ (by omega)]
  · have hge : (P.length : Int) ≤ (c : Int) := hge
    have hcP : c = P.length := by omega
    subst hcP
    have hT : (Sp.trnC P p q P.length, ()) = Sp.turned (P, ()) p q := by
      unfold Sp.trnC Sp.turned; rw [List.take_length]
    have hT1 : Sp.total (Sp.trnC P p q P.length) ≤ 1000 := by
      unfold Sp.trnC; rw [List.take_length, htt]; omega
    rw [hT]
    have tlen : (Sp.outs (Sp.turned (P, ()) p q)).length ≤ 614656 := by
      rw [List.length_map] at n2; omega
    have hE1 := Sp.errA_zero hv
    have hE2 := Sp.errA_zero hv'
    have main : ∀ W : List (List Sp.LOp), Sp.total W ≤ 1000 → Sp.outs (W, ()) = Sp.outs (P, ()) →
        (∀ i : Nat, i ≤ (Sp.outs (Sp.turned (P, ()) p q)).length → ((Sp.outs (Sp.turned (P, ()) p q)).length : Int) ≤ (i : Int) →
          (((((Sp.errA (P, ()) = 0 ∧ Sp.errA (Sp.turned (P, ()) p q) = 0) ∧ (((Sp.backs p q (Sp.outs (Sp.turned (P, ()) p q)) i).length : Nat) : Int) = (((Sp.outs (P, ())).length : Nat) : Int)) ∧ Sp.inside (Sp.backs p q (Sp.outs (Sp.turned (P, ()) p q)) i) (Sp.outs (P, ())) = true) ∧ Sp.sameOs (Sp.outs (W, ())) (Sp.outs (P, ())) = true) ∧ Sp.exOK = true)) := by
      intro W _ hW i hi hg
      have hb : Sp.backs p q (Sp.outs (Sp.turned (P, ()) p q)) i = (Sp.outs (Sp.turned (P, ()) p q)).map (Sp.backO p q) := by
        unfold Sp.backs; rw [List.take_of_length_le (by omega)]
      rw [hb, hW]
      refine ⟨⟨⟨⟨⟨hE1, hE2⟩, by rw [n2]⟩, Sp.inside_of hso (fun o ho => hsm o (n3 o ho)) hsm n3⟩, decide_eq_true rfl⟩, hex⟩
    have loop : ∀ i : Nat, i ≤ (Sp.outs (Sp.turned (P, ()) p q)).length → (i : Int) < ((Sp.outs (Sp.turned (P, ()) p q)).length : Int) → _ := fun i hi hlt => (show
        inN (i : Int) (Sp.outs (Sp.turned (P, ()) p q)).length ∧ ((((Sp.outs (Sp.turned (P, ()) p q)).getD i ([], [], ())).2.1.length : Int) = 3) ∧ inN q ((Sp.outs (Sp.turned (P, ()) p q)).getD i ([], [], ())).2.1.length ∧ inN p ((Sp.outs (Sp.turned (P, ()) p q)).getD i ([], [], ())).2.1.length ∧ (((Sp.backs p q (Sp.outs (Sp.turned (P, ()) p q)) i).length + 1 : Nat) : Int) ≤ maxNew ∧ inK IntKind.i64 ((i : Int) + 1) ∧ Sp.backs p q (Sp.outs (Sp.turned (P, ()) p q)) i ++ [Sp.backO p q ((Sp.outs (Sp.turned (P, ()) p q)).getD i Sp.out0)] = Sp.backs p q (Sp.outs (Sp.turned (P, ()) p q)) (i + 1) by
        have hil : i < (Sp.outs (Sp.turned (P, ()) p q)).length := by omega
        have h3 : ((Sp.outs (Sp.turned (P, ()) p q)).getD i ([], [], ())).2.1.length = 3 := n1 _ (Pl.getD_mem hil _)
        have hbl : (Sp.backs p q (Sp.outs (Sp.turned (P, ()) p q)) i).length = i := by unfold Sp.backs; rw [List.length_map, List.length_take]; omega
        refine ⟨inN_of hlt, by rw [h3]; rfl, ⟨hq.1, by rw [h3]; exact hq.2⟩, ⟨hp.1, by rw [h3]; exact hp.2⟩, by rw [hbl]; omega, inK_mid (by omega) (by omega), Sp.backs_succ hil⟩)
    have each : ∀ i : Nat, i ≤ (Sp.outs (Sp.turned (P, ()) p q)).length → (i : Int) < ((Sp.outs (Sp.turned (P, ()) p q)).length : Int) → True := fun _ _ _ => trivial
    have hw := Sp.wide_outs hv
    refine ⟨fun h4 => ?_, fun h4 => ?_⟩
    · have h4 : (P.length : Int) < 4 := h4
      have hW : Sp.wideP (P, ()) = (P ++ [[]], ()) := by unfold Sp.wideP; rw [if_pos (by show P.length < 4; omega)]
      rw [hW] at hw
      have hWt : Sp.total (P ++ [[]]) ≤ 1000 := by
        have : Sp.total (P ++ [[]]) = Sp.total P := by unfold Sp.total; rw [List.map_append, List.sum_append]; simp
        omega
      refine ⟨by omega, ⟨by omega, hT1, hWt⟩, ⟨0, Nat.zero_le _, rfl, rfl⟩, fun i hi _ => ⟨fun hlt => ?_, fun hge => ⟨fun _ => by omega, main _ hWt hw.2 i hi hge⟩⟩⟩
      obtain ⟨l1, l2, l3, l4, l5, l6, l7⟩ := loop i hi hlt
      exact ⟨l1, fun h => absurd l2 h, fun _ => ⟨⟨l1, l1, by omega⟩, ⟨l1, l3, l4⟩, ⟨l1, l4, by rw [List.length_set]; exact l3⟩, l5, l6, i + 1, by omega, by omega, by omega, l7⟩⟩
    · have h4 : (4 : Int) ≤ (P.length : Int) := h4
      have hW : Sp.wideP (P, ()) = (P, ()) := by unfold Sp.wideP; rw [if_neg (by show ¬ P.length < 4; omega)]
      rw [hW] at hw
      refine ⟨⟨by omega, hT1, by omega⟩, ⟨0, Nat.zero_le _, rfl, rfl⟩, fun i hi _ => ⟨fun hlt => ?_, fun hge => ⟨fun _ => by omega, main _ (by omega) hw.2 i hi hge⟩⟩⟩
      obtain ⟨l1, l2, l3, l4, l5, l6, l7⟩ := loop i hi hlt
      exact ⟨l1, fun h => absurd l2 h, fun _ => ⟨⟨l1, l1, by omega⟩, ⟨l1, l3, l4⟩, ⟨l1, l4, by rw [List.length_set]; exact l3⟩, l5, l6, i + 1, by omega, by omega, by omega, l7⟩⟩
end Go.User
namespace Go.Proofs.Ythhclebbpbkgdaa
open Go.ChangeShapes Go.WideShapes Go.ChangeAt Go.RowKit Go.Proofs Go.Lf

set_option maxRecDepth 100000 in
theorem viewNames_lifted (hF : FOk Try.prog 5 Go.User.S5) (os : Os) (started : os.Started) (H : Type) (enc : TypeId × Value → H) :
    ReturnsInHanded {} Try.checked os 5 .any (Rows.viewNamesSpec.pre6 enc Try.prog Try.f5 Rows.viewNamesRow.domain false) (Rows.viewNamesSpec.post enc Try.prog Try.f5 false true false false) := by
  refine returnsInHanded_of_change_sized (C := Try.checked) Try.own started (by kernel_rfl) Try.func5
    (ChangeSpec.witness6 (enc := enc) (C := Try.checked) false ⟨#[], #[.slice none 0 0, .int .u8 0, .int .u8 0], []⟩ 8 (by kernel_rfl) (by kernel_rfl) (by kernel_rfl) (by kernel_rfl)) ?_
  intro W base args ds gs before hval0 hW _ hsz0 _
  have hsz : (DataW.weightsEach Try.prog (Try.f5.params.toList ++ Rows.viewNamesSpec.plain.varTypes Try.prog) (ds ++ gs)).all (· ≤ reachBytes) = true := hsz0
  clear hsz0
  have hval : ∀ (j : Nat) t v, Try.f5.params[j]? = some t → args[j]? = some v → Value.okWide Try.prog W .any base t v := hval0
  have hW' := hW
  obtain ⟨p, q, hA0, hV, rfl, _, _⟩ := hW
  have hA : DataW.TrodAll enc Try.prog W 0 (fun _ => true) true Try.f5.params.toList args.toList ds p := hA0
  rw [Try.params5] at hA hval hsz
  obtain ⟨v0, v1, v2, d0, d1, d2, p0, p1, p2, rfl, rfl, rfl, h0, h1, h2⟩ := trodAll_three hA
  obtain ⟨rfl, rfl⟩ := trodVars_none hV
  clear hA0 hval0
  simp only [List.append_nil, List.append_assoc] at hW'
  have hlt0 : ∀ x ∈ p0, x.block < W.heap.size := fun x hx => hW'.lt x (by simp [hx])
  have hlt1 : ∀ x ∈ p1, x.block < W.heap.size := fun x hx => hW'.lt x (by simp [hx])
  have hlt2 : ∀ x ∈ p2, x.block < W.heap.size := fun x hx => hW'.lt x (by simp [hx])
  obtain ⟨x0, hx0⟩ := arg_of (τ := Go.User.tRaw) (by kernel_rfl) (hval 0 23 v0 rfl rfl) h0 hlt0 (sz_of hsz (j := 0) rfl rfl)
  obtain ⟨x1, hx1⟩ := arg_of (τ := .int .u8) (by kernel_rfl) (hval 1 5 v1 rfl rfl) h1 hlt1 (sz_of hsz (j := 1) rfl rfl)
  obtain ⟨x2, hx2⟩ := arg_of (τ := .int .u8) (by kernel_rfl) (hval 2 5 v2 rfl rfl) h2 hlt2 (sz_of hsz (j := 2) rfl rfl)
  have hcall := hF.2 W (fun b => b < W.heap.size) [v0, v1, v2] (x0, x1, x2, ()) (fun b h => h) ⟨v0, [v1, v2], rfl, hx0, v1, [v2], rfl, hx1, v2, [], rfl, hx2, rfl⟩ trivial
  refine hcall.mono ?_
  rintro e W' ⟨v, F', S', rfl, hb, _, _, _, _, hv⟩
  have hv : OwnV F' W' .bool .shr S' v true := hv
  have := hv.bool_eq
  subst this
  have hargs0 := Below.trod Try.laidOut (by kernel_rfl) (of_decide_eq_true (by kernel_rfl)) h0 hb hlt0
  have hargs1 := Below.trod Try.laidOut (by kernel_rfl) (of_decide_eq_true (by kernel_rfl)) h1 hb hlt1
  have hargs2 := Below.trod Try.laidOut (by kernel_rfl) (of_decide_eq_true (by kernel_rfl)) h2 hb hlt2
  refine ⟨_, rfl, _, _, _, [], p0 ++ (p1 ++ p2), [], hW', ?_, trodAll_mk3 hargs0 hargs1 hargs2, rfl, hb.frame _, fun h => by cases h⟩
  exact trodAll_mk1 (shut_bool Try.underlying4 true)

theorem viewNames_holds : Rows.ViewNamesSaid :=
  OpenClaim.holds_of_wide 5 Try.f5 rfl rfl rfl rfl rfl rfl rfl ⟨rfl, rfl, rfl, rfl, rfl⟩ rfl rfl rfl rfl rfl (by kernel_rfl) Try.func5 (by kernel_rfl)
    (of_decide_eq_true (by kernel_rfl)) (by unfold Func.isWrapper; first | (rw [if_pos (by decide +kernel)]; kernel_rfl) | (rw [if_neg (by decide +kernel)]; exact ⟨rfl, rfl⟩))
    (fun os started H enc _ => viewNames_lifted Go.User.ok5 os started H enc)
end Go.Proofs.Ythhclebbpbkgdaa
