/- Written by gen.py: what is left to show of each function. Written by gen.py: what is left to show of each function. Plain facts about lists, places, sums. The small functions compute what they should. Plain facts about the lists of events and the relations. -/
import Derived.Test.YtmoonjcbljefaaaLfh
set_option linter.unusedVariables false
set_option linter.unusedSimpArgs false
namespace Go.User
open Go.Proofs Go.Lf
set_option maxRecDepth 100000
theorem vc41 : funI C41 (stpP C41) S41 L41 Try.f41 = (
let q0 : Int := (0 : Int);
let q1 : Prop := True ∧ True ∧ True;
let q2 : Prop := q1 ∧ True;
let q3 : Prop := (True ∧ True) ∧ True;
let q4 : Prop := True ∧ q1;
let q5 : Prop := True ∧ q4;
let q6 : Int × Unit := (q0, ());
let q7 : Int × Int × Int × Unit := (q0, q0, q6);
let q8 : Int := (1 : Int);
∀ (x : (List (List (Int × Int × Int × Unit)) × Unit) × Unit),
  let q9 : List (Int × (Int × Int × Int × Unit) × Int × Unit) := Sp.evs q0 x.1.1;
  let q10 : Nat := x.1.1.length;
  let q11 : Prop := x.1 = x.1;
  let q12 : Prop := x.1.1 = x.1.1;
  let q13 : Int := (↑q10 : Int);
  let q14 : Prop := q13 = q13;
  let q15 : Prop := q11 ∧ q12 ∧ q14 ∧ True;
  q9.length ≤ (1000 : Nat) →
    dFact (((Ty.int IntKind.i64).prod ((Ty.int IntKind.i64).prod ((Ty.int IntKind.i64).prod Ty.unit))).slice.slice.prod Ty.unit) x.1 ∧ True →
      q2 ∧
        q3 ∧
          (q5 ∧ True) ∧
            (∃ (x_1 : Nat × List Sp.LEv), (x_1.1 ≤ q10 ∧ x_1.2 = Sp.evs q0 (List.take x_1.1 x.1.1)) ∧ q0 = (↑x_1.1 : Int) ∧ x_1.2 = ([] : List tLEv.den) ∧ q15) ∧
              ∀ (x_1 : Nat × List Sp.LEv),
                let q16 : List (Int × (Int × Int × Int × Unit) × Int × Unit) := Sp.evs q0 (List.take x_1.1 x.1.1);
                let q17 : Int := (↑x_1.1 : Int);
                let q18 : Bool := decide (q17 < q13);
                let q19 : List (Int × Int × Int × Unit) := x.1.1.getD x_1.1 (([] : List tLOp.den));
                let q20 : Nat := q19.length;
                let q21 : Prop := q17 = q17;
                let q22 : List (Int × Int × Int × Unit) := x.1.1.getD q17.toNat (([] : List tLOp.den));
                let q23 : Nat := q22.length;
                let q24 : Int := (↑q23 : Int);
                let q25 : Prop := q11 ∧ q12 ∧ q14 ∧ q21 ∧ q21 ∧ q22 = q22 ∧ q24 = q24 ∧ True;
                let q26 : Int := q17 + q8;
                x_1.1 ≤ q10 ∧ x_1.2 = q16 →
                  dFact (Ty.int IntKind.i64) q17 ∧ dFact ((Ty.int IntKind.i64).prod (((Ty.int IntKind.i64).prod ((Ty.int IntKind.i64).prod ((Ty.int IntKind.i64).prod Ty.unit))).prod ((Ty.int IntKind.i64).prod Ty.unit))).slice x_1.2 ∧ True →
                    q3 ∧
                      (q18 = true →
                          ((True ∧ inN q17 q10 ∧ q4) ∧ True) ∧
                            (q4 ∧ True) ∧
                              (∃ (x : Nat × List Sp.LEv), (x.1 ≤ q20 ∧ x.2 = q16 ++ List.map (Sp.mkEv q17) (List.take x.1 q19)) ∧ q0 = (↑x.1 : Int) ∧ x_1.2 = x.2 ∧ q25) ∧
                                ∀ (x_2 : Nat × List Sp.LEv),
                                  let q27 : Int := (↑x_2.1 : Int);
                                  let q28 : Bool := decide (q27 < q24);
                                  let q29 : List (Int × (Int × Int × Int × Unit) × Int × Unit) := (q17, q22.getD q27.toNat q7, q6) :: ([] : List tLEv.den);
                                  let q30 : Int := q27 + q8;
                                  x_2.1 ≤ q20 ∧ x_2.2 = q16 ++ List.map (Sp.mkEv q17) (List.take x_2.1 q19) → dFact (Ty.int IntKind.i64) q27 ∧ dFact ((Ty.int IntKind.i64).prod (((Ty.int IntKind.i64).prod ((Ty.int IntKind.i64).prod ((Ty.int IntKind.i64).prod Ty.unit))).prod ((Ty.int IntKind.i64).prod Ty.unit))).slice x_2.2 ∧ True → q3 ∧ (q28 = true → ((inN q27 q23 ∧ q1) ∧ True ∧ True) ∧ ((True ∧ q5) ∧ (↑(x_2.2.length + q29.length) : Int) ≤ maxNew ∧ True ∧ True) ∧ ((inK IntKind.i64 q30 ∧ True ∧ True) ∧ True) ∧ ∃ (y : Nat × List Sp.LEv), (y.1 ≤ q20 ∧ y.2 = q16 ++ List.map (Sp.mkEv q17) (List.take y.1 q19)) ∧ q20 - y.1 < q20 - x_2.1 ∧ q30 = (↑y.1 : Int) ∧ x_2.2 ++ q29 = y.2 ∧ q25) ∧ (q28 = false → ((inK IntKind.i64 q26 ∧ True ∧ True) ∧ True) ∧ ∃ (y : Nat × List Sp.LEv), (y.1 ≤ q10 ∧ y.2 = Sp.evs q0 (List.take y.1 x.1.1)) ∧ q10 - y.1 < q10 - x_1.1 ∧ q26 = (↑y.1 : Int) ∧ x_2.2 = y.2 ∧ q15)) ∧
                        (q18 = false → q2 ∧ x_1.2 = q9)) := by kernel_rfl
theorem vc33 : funI C33 (stpP C33) S33 L33 Try.f33 = (
let q0 : Int := (0 : Int);
let q1 : Prop := True ∧ True ∧ True;
let q2 : Prop := q1 ∧ True;
let q3 : Prop := (True ∧ True) ∧ True;
let q4 : Prop := True ∧ q1;
let q5 : Int × Unit := (q0, ());
let q6 : Int × Int × Int × Unit := (q0, q0, q5);
let q7 : Int := (1 : Int);
∀ (x : (List (List (Int × Int × Int × Unit)) × Unit) × Unit),
  let q8 : List (Int × (Int × Int × Int × Unit) × Int × Unit) := Sp.evs q0 x.1.1;
  let q9 : Nat := x.1.1.length;
  let q10 : Prop := x.1 = x.1;
  let q11 : Prop := q10 ∧ True;
  q8.length ≤ (1000 : Nat) →
    dFact (((Ty.int IntKind.i64).prod ((Ty.int IntKind.i64).prod ((Ty.int IntKind.i64).prod Ty.unit))).slice.slice.prod Ty.unit) x.1 ∧ True →
      q2 ∧
        ((True ∧ True) ∧ True ∧ True) ∧
          q3 ∧
            (∃ (x_1 : Nat × List Sp.LEv), (x_1.1 ≤ q9 ∧ x_1.2 = Sp.evs q0 (List.take x_1.1 x.1.1)) ∧ q0 = (↑x_1.1 : Int) ∧ ([] : List tLEv.den) = x_1.2 ∧ q11) ∧
              ∀ (x_1 : Nat × List Sp.LEv),
                let q12 : List (Int × (Int × Int × Int × Unit) × Int × Unit) := Sp.evs q0 (List.take x_1.1 x.1.1);
                let q13 : Int := (↑x_1.1 : Int);
                let q14 : Bool := decide (q13 < (↑q9 : Int));
                let q15 : List (Int × Int × Int × Unit) := x.1.1.getD x_1.1 (([] : List tLOp.den));
                let q16 : Nat := q15.length;
                let q17 : Prop := q10 ∧ q13 = q13 ∧ True;
                let q18 : Prop := inN q13 q9;
                let q19 : List (Int × Int × Int × Unit) := x.1.1.getD q13.toNat (([] : List tLOp.den));
                let q20 : Nat := q19.length;
                let q21 : Int := q13 + q7;
                x_1.1 ≤ q9 ∧ x_1.2 = q12 →
                  dFact (Ty.int IntKind.i64) q13 ∧ dFact ((Ty.int IntKind.i64).prod (((Ty.int IntKind.i64).prod ((Ty.int IntKind.i64).prod ((Ty.int IntKind.i64).prod Ty.unit))).prod ((Ty.int IntKind.i64).prod Ty.unit))).slice x_1.2 ∧ True →
                    ((True ∧ True ∧ q4) ∧ True) ∧
                      (q14 = true →
                          q3 ∧
                            (∃ (x : Nat × List Sp.LEv), (x.1 ≤ q16 ∧ x.2 = q12 ++ List.map (Sp.mkEv q13) (List.take x.1 q15)) ∧ q0 = (↑x.1 : Int) ∧ x_1.2 = x.2 ∧ q17) ∧
                              ∀ (x_2 : Nat × List Sp.LEv),
                                let q22 : Int := (↑x_2.1 : Int);
                                let q23 : Bool := decide (q22 < (↑q20 : Int));
                                let q24 : List (Int × (Int × Int × Int × Unit) × Int × Unit) := (q13, q19.getD q22.toNat q6, q5) :: ([] : List tLEv.den);
                                let q25 : Int := q22 + q7;
                                x_2.1 ≤ q16 ∧ x_2.2 = q12 ++ List.map (Sp.mkEv q13) (List.take x_2.1 q15) → dFact (Ty.int IntKind.i64) q22 ∧ dFact ((Ty.int IntKind.i64).prod (((Ty.int IntKind.i64).prod ((Ty.int IntKind.i64).prod ((Ty.int IntKind.i64).prod Ty.unit))).prod ((Ty.int IntKind.i64).prod Ty.unit))).slice x_2.2 ∧ True → ((True ∧ True ∧ True ∧ True ∧ q18 ∧ q4) ∧ True) ∧ (q23 = true → ((True ∧ True ∧ True ∧ True ∧ True ∧ q18 ∧ True ∧ True ∧ inN q22 q20 ∧ q4) ∧ (↑(x_2.2.length + q24.length) : Int) ≤ maxNew ∧ True ∧ True) ∧ ((True ∧ inK IntKind.i64 q25 ∧ True ∧ True) ∧ True) ∧ ∃ (y : Nat × List Sp.LEv), (y.1 ≤ q16 ∧ y.2 = q12 ++ List.map (Sp.mkEv q13) (List.take y.1 q15)) ∧ q16 - y.1 < q16 - x_2.1 ∧ q25 = (↑y.1 : Int) ∧ x_2.2 ++ q24 = y.2 ∧ q17) ∧ (q23 = false → ((True ∧ inK IntKind.i64 q21 ∧ True ∧ True) ∧ True) ∧ ∃ (y : Nat × List Sp.LEv), (y.1 ≤ q9 ∧ y.2 = Sp.evs q0 (List.take y.1 x.1.1)) ∧ q9 - y.1 < q9 - x_1.1 ∧ q21 = (↑y.1 : Int) ∧ x_2.2 = y.2 ∧ q11)) ∧
                        (q14 = false → q2 ∧ x_1.2 = q8)) := by kernel_rfl
theorem vc34 : funI C34 (stpP C34) S34 L34 Try.f34 = (
let q0 : Prop := (True ∧ True) ∧ True;
let q1 : Int := (0 : Int);
let q2 : Prop := True ∧ True ∧ True;
let q3 : Prop := True ∧ q2;
let q4 : Int × Unit := (q1, ());
let q5 : Int := (1 : Int);
∀ (x : List (Int × (Int × Int × Int × Unit) × Int × Unit) × Int × Unit),
  let q6 : Nat := x.1.length;
  let q7 : Prop := x.1 = x.1 ∧ x.2.1 = x.2.1 ∧ True;
  q6 ≤ (1000 : Nat) →
    dFact ((Ty.int IntKind.i64).prod (((Ty.int IntKind.i64).prod ((Ty.int IntKind.i64).prod ((Ty.int IntKind.i64).prod Ty.unit))).prod ((Ty.int IntKind.i64).prod Ty.unit))).slice x.1 ∧ dFact (Ty.int IntKind.i64) x.2.1 ∧ True →
      q0 ∧
        ((True ∧ True) ∧ True ∧ True) ∧
          q0 ∧
            (∃ (x_1 : Nat × List Int),
                (x_1.1 ≤ q6 ∧
                    x_1.2 =
                      Sp.sel
                        (fun (i : Nat) =>
                          let q8 : Int × Int × Int × Unit := (Sp.ev x.1 (↑i : Int)).2.1;
                          Sp.writes q8 && decide (q8.2.1 = x.2.1))
                        x_1.1) ∧
                  q1 = (↑x_1.1 : Int) ∧ ([] : List tI.den) = x_1.2 ∧ q7) ∧
              ∀ (x_1 : Nat × List Int),
                let q9 : Int := (↑x_1.1 : Int);
                let q10 : Bool := decide (q9 < (↑q6 : Int));
                let q11 : Prop := inN q9 q6;
                let q12 : Int × Int × Int × Unit := (x.1.getD q9.toNat (q1, (q1, q1, q4), q4)).2.1;
                let q13 : Bool := Sp.writes q12;
                let q14 : Prop := (true && bif q13 then true else false) = true;
                let q15 : Prop := q14 → True;
                let q16 : Bool := bif q13 then q12.2.1 == x.2.1 else false;
                let q17 : List Int := q9 :: ([] : List tI.den);
                let q18 : Int := q9 + q5;
                let q19 : Prop := (True ∧ inK IntKind.i64 q18 ∧ True ∧ True) ∧ True;
                x_1.1 ≤ q6 ∧
                    x_1.2 =
                      Sp.sel
                        (fun (i : Nat) =>
                          let q20 : Int × Int × Int × Unit := (Sp.ev x.1 (↑i : Int)).2.1;
                          Sp.writes q20 && decide (q20.2.1 = x.2.1))
                        x_1.1 →
                  dFact (Ty.int IntKind.i64) q9 ∧ dFact (Ty.int IntKind.i64).slice x_1.2 ∧ True →
                    ((True ∧ q3) ∧ True) ∧
                      (q10 = true →
                          ((True ∧ True ∧ q11 ∧ True ∧ True ∧ True ∧ True ∧ q15 ∧ q15 ∧ (q14 → q11) ∧ q15 ∧ q15 ∧ q15 ∧ q15 ∧ q15 ∧ True ∧ True) ∧ True) ∧
                            (q16 = true →
                                (q3 ∧ (↑(x_1.2.length + q17.length) : Int) ≤ maxNew ∧ True ∧ True) ∧
                                  q19 ∧
                                    ∃ (y : Nat × List Int),
                                      (y.1 ≤ q6 ∧
                                          y.2 =
                                            Sp.sel
                                              (fun (i : Nat) =>
                                                let q21 : Int × Int × Int × Unit := (Sp.ev x.1 (↑i : Int)).2.1;
                                                Sp.writes q21 && decide (q21.2.1 = x.2.1))
                                              y.1) ∧
                                        q6 - y.1 < q6 - x_1.1 ∧ q18 = (↑y.1 : Int) ∧ x_1.2 ++ q17 = y.2 ∧ q7) ∧
                              (q16 = false →
                                q19 ∧
                                  ∃ (y : Nat × List Int),
                                    (y.1 ≤ q6 ∧
                                        y.2 =
                                          Sp.sel
                                            (fun (i : Nat) =>
                                              let q22 : Int × Int × Int × Unit := (Sp.ev x.1 (↑i : Int)).2.1;
                                              Sp.writes q22 && decide (q22.2.1 = x.2.1))
                                            y.1) ∧
                                      q6 - y.1 < q6 - x_1.1 ∧ q18 = (↑y.1 : Int) ∧ x_1.2 = y.2 ∧ q7)) ∧
                        (q10 = false → (q2 ∧ True) ∧ x_1.2 = Sp.wr x.1 x.2.1)) := by kernel_rfl
theorem vc36 : funI C36 (stpP C36) S36 L36 Try.f36 = (
let q0 : Prop := (True ∧ True) ∧ True;
let q1 : Int := (4 : Int);
let q2 : Int := (0 : Int);
let q3 : Prop := True ∧ True ∧ True;
let q4 : Prop := True ∧ q3;
let q5 : Prop := True ∧ q4;
let q6 : Int × Unit := (q2, ());
let q7 : Int := (1 : Int);
∀ (x : List (Int × (Int × Int × Int × Unit) × Int × Unit) × Unit),
  let q8 : Nat := x.1.length;
  let q9 : Prop := x.1 = x.1 ∧ True;
  q8 ≤ (1000 : Nat) →
    dFact ((Ty.int IntKind.i64).prod (((Ty.int IntKind.i64).prod ((Ty.int IntKind.i64).prod ((Ty.int IntKind.i64).prod Ty.unit))).prod ((Ty.int IntKind.i64).prod Ty.unit))).slice x.1 ∧ True →
      q0 ∧
        ((True ∧ True) ∧ True ∧ True) ∧
          q0 ∧
            (∃ (x_1 : Nat × List Int), (x_1.1 ≤ q8 ∧ x_1.2 = Sp.sel (fun (i : Nat) => decide ((Sp.ev x.1 (↑i : Int)).2.1.1 = q1)) x_1.1) ∧ q2 = (↑x_1.1 : Int) ∧ ([] : List tI.den) = x_1.2 ∧ q9) ∧
              ∀ (x_1 : Nat × List Int),
                let q10 : Int := (↑x_1.1 : Int);
                let q11 : Bool := decide (q10 < (↑q8 : Int));
                let q12 : Bool := (x.1.getD q10.toNat (q2, (q2, q2, q6), q6)).2.1.1 == q1;
                let q13 : List Int := q10 :: ([] : List tI.den);
                let q14 : Int := q10 + q7;
                let q15 : Prop := (True ∧ inK IntKind.i64 q14 ∧ True ∧ True) ∧ True;
                x_1.1 ≤ q8 ∧ x_1.2 = Sp.sel (fun (i : Nat) => decide ((Sp.ev x.1 (↑i : Int)).2.1.1 = q1)) x_1.1 → dFact (Ty.int IntKind.i64) q10 ∧ dFact (Ty.int IntKind.i64).slice x_1.2 ∧ True → (q5 ∧ True) ∧ (q11 = true → ((True ∧ True ∧ inN q10 q8 ∧ q5) ∧ True) ∧ (q12 = true → (q4 ∧ (↑(x_1.2.length + q13.length) : Int) ≤ maxNew ∧ True ∧ True) ∧ q15 ∧ ∃ (y : Nat × List Int), (y.1 ≤ q8 ∧ y.2 = Sp.sel (fun (i : Nat) => decide ((Sp.ev x.1 (↑i : Int)).2.1.1 = q1)) y.1) ∧ q8 - y.1 < q8 - x_1.1 ∧ q14 = (↑y.1 : Int) ∧ x_1.2 ++ q13 = y.2 ∧ q9) ∧ (q12 = false → q15 ∧ ∃ (y : Nat × List Int), (y.1 ≤ q8 ∧ y.2 = Sp.sel (fun (i : Nat) => decide ((Sp.ev x.1 (↑i : Int)).2.1.1 = q1)) y.1) ∧ q8 - y.1 < q8 - x_1.1 ∧ q14 = (↑y.1 : Int) ∧ x_1.2 = y.2 ∧ q9)) ∧ (q11 = false → (q3 ∧ True) ∧ x_1.2 = Sp.fen x.1)) := by kernel_rfl
theorem vc35 : funI C35 (stpP C35) S35 L35 Try.f35 = (
let q0 : Int := (0 : Int);
let q1 : Nat := (0 : Nat);
let q2 : Prop := True ∧ True ∧ True;
let q3 : Int := (1 : Int);
∀ (x : List Int × List Int × Int × Unit),
  let q4 : Nat := x.1.length;
  let q5 : List Int := Sp.shuffled x.1 x.2.1 x.2.2.1;
  let q6 : Prop := x.1 = x.1 ∧ x.2.1 = x.2.1 ∧ True;
  q4 ≤ (1000 : Nat) ∧ q0 ≤ x.2.2.1 ∧ x.2.2.1 ≤ (1000 : (AK.val tI).den) →
    dFact (Ty.int IntKind.i64).slice x.1 ∧ dFact (Ty.int IntKind.u8).slice x.2.1 ∧ dFact (Ty.int IntKind.i64) x.2.2.1 ∧ True →
      ((True ∧ True) ∧ True) ∧
        ((True ∧ True) ∧ True ∧ True) ∧
          ((True ∧ True ∧ (↑(q1 + q4) : Int) ≤ maxNew ∧ True) ∧ True ∧ True) ∧
            (∃ (x_1 : List Int × List Int × Int),
                let q7 : Nat := x_1.2.1.length;
                (x_1.1.length + q7 = q4 ∧ q0 ≤ x_1.2.2 ∧ x_1.2.2 + (↑q7 : Int) = x.2.2.1 + (↑q4 : Int) ∧ x_1.1 ++ Sp.shuf q7 x_1.2.1 x.2.1 x_1.2.2 = q5) ∧ ([] : List tI.den) = x_1.1 ∧ x.1 = x_1.2.1 ∧ x.2.2.1 = x_1.2.2 ∧ q6) ∧
              ∀ (x_1 : List Int × List Int × Int),
                let q8 : Nat := x_1.2.1.length;
                let q9 : Nat := x_1.2.1.length;
                let q10 : Int := (↑q9 : Int);
                let q11 : Bool := decide (q10 > q0);
                let q12 : Int := x_1.2.2 + q3;
                let q13 : Int := (Sp.byteAt x.2.1 x_1.2.2).tmod q10;
                let q14 : List Int := x_1.2.1.getD q13.toNat q0 :: ([] : List tI.den);
                let q15 : List Int := win q0 q13 x_1.2.1;
                let q16 : Nat := q15.length;
                let q17 : Int := q13 + q3;
                let q18 : List Int := win q17 q10 x_1.2.1;
                x_1.1.length + q8 = q4 ∧ q0 ≤ x_1.2.2 ∧ x_1.2.2 + (↑q8 : Int) = x.2.2.1 + (↑q4 : Int) ∧ x_1.1 ++ Sp.shuf q8 x_1.2.1 x.2.1 x_1.2.2 = q5 →
                  dFact (Ty.int IntKind.i64).slice x_1.1 ∧ dFact (Ty.int IntKind.i64).slice x_1.2.1 ∧ dFact (Ty.int IntKind.i64) x_1.2.2 ∧ True →
                    ((True ∧ q2) ∧ True) ∧
                      (q11 = true →
                          ((True ∧ True ∧ (0 : (AK.val tI).den) ≤ x_1.2.2 ∧ True ∧ True ∧ q10 ≠ q0 ∧ True ∧ True) ∧ True) ∧
                            ((True ∧ inK IntKind.i64 q12 ∧ True ∧ True) ∧ True) ∧
                              ((True ∧ True ∧ True ∧ inN q13 q9 ∧ q2) ∧ (↑(x_1.1.length + q14.length) : Int) ≤ maxNew ∧ True ∧ True) ∧
                                ((True ∧ True ∧ True ∧ winI q0 q13 q9 ∧ (↑(q1 + q16) : Int) ≤ maxNew ∧ True ∧ True ∧ inK IntKind.i64 q17 ∧ winI q17 q10 q9 ∧ (↑(q16 + q18.length) : Int) ≤ maxNew ∧ True) ∧ True ∧ True) ∧
                                  ∃ (y : List Int × List Int × Int),
                                    let q19 : Nat := y.2.1.length;
                                    (y.1.length + q19 = q4 ∧ q0 ≤ y.2.2 ∧ y.2.2 + (↑q19 : Int) = x.2.2.1 + (↑q4 : Int) ∧ y.1 ++ Sp.shuf q19 y.2.1 x.2.1 y.2.2 = q5) ∧ q19 < q8 ∧ x_1.1 ++ q14 = y.1 ∧ q15 ++ q18 = y.2.1 ∧ q12 = y.2.2 ∧ q6) ∧
                        (q11 = false → (q2 ∧ True) ∧ x_1.1 = q5)) := by kernel_rfl
theorem vc53 : funI C53 (stpP C53) S53 L53 Try.f53 = (
let q0 : Prop := True ∧ True ∧ True;
let q1 : Int := (0 : Int);
let q2 : Int × Unit := (q1, ());
let q3 : Prop := True ∧ q0;
∀ (x : (List (Int × (Int × Int × Int × Unit) × Int × Unit) × List Int × List (List Int) × List Int × Unit) × Int × Unit),
  let q4 : Prop := inN x.2.1 x.1.1.length;
  let q5 : Prop := inN x.2.1 x.1.2.1.length;
  let q6 : Nat := x.1.2.2.1.length;
  let q7 : Int := (x.1.1.getD x.2.1.toNat (q1, (q1, q1, q2), q2)).2.1.2.1;
  let q8 : List Int := x.1.2.2.1.getD q7.toNat (([] : List tI.den));
  q4 ∧ q5 ∧ inN (Sp.ev x.1.1 x.2.1).2.1.2.1 q6 → dFact (((Ty.int IntKind.i64).prod (((Ty.int IntKind.i64).prod ((Ty.int IntKind.i64).prod ((Ty.int IntKind.i64).prod Ty.unit))).prod ((Ty.int IntKind.i64).prod Ty.unit))).slice.prod ((Ty.int IntKind.i64).slice.prod ((Ty.int IntKind.i64).slice.slice.prod ((Ty.int IntKind.i64).slice.prod Ty.unit)))) x.1 ∧ dFact (Ty.int IntKind.i64) x.2.1 ∧ True → (q0 ∧ True) ∧ ((True ∧ True ∧ True ∧ True ∧ True ∧ q4 ∧ True ∧ True ∧ True ∧ inN q7 q6 ∧ q0) ∧ True) ∧ ((True ∧ True ∧ q3) ∧ True ∧ True) ∧ ((True ∧ True ∧ True ∧ True ∧ q5 ∧ q3) ∧ True ∧ True) ∧ ((True ∧ True) ∧ True ∧ True) ∧ (Sp.idx q8 x.2.1, Sp.idx q8 (x.1.2.1.getD x.2.1.toNat q1), ()) = Sp.plc x.1 x.2.1) := by kernel_rfl
theorem vc51 : funP C51 (stpP C51) S51 L51 Try.f51 = (
let q0 : Nat := (6 : Nat);
let q1 : Prop := (True ∧ True) ∧ True;
let q2 : Prop := (True ∧ True ∧ True) ∧ True;
let q3 : List Bool := List.replicate q0 false;
let q4 : Int := (1 : Int);
∀ (x : List (List Bool)),
  True →
    dFact (Ty.arr q0 (Ty.arr q0 Ty.bool)) x →
      q1 ∧
        (∃ (x_1 : Nat × Sp.Rel), (x_1.1 ≤ q0 ∧ x_1.2 = Sp.closeN x x_1.1) ∧ (0 : Int) = (↑x_1.1 : Int) ∧ x = x_1.2 ∧ True) ∧
          ∀ (x_1 : Nat × Sp.Rel),
            let q5 : Int := (↑x_1.1 : Int);
            let q6 : Bool := decide (q5 < (6 : Int));
            let q7 : Prop := q5 = q5;
            let q8 : Prop := q7 ∧ q7 ∧ True;
            let q9 : Prop := inN q5 q0;
            let q10 : Nat := q5.toNat;
            let q11 : Int := q5 + q4;
            x_1.1 ≤ q0 ∧ x_1.2 = Sp.closeN x x_1.1 →
              dFact (Ty.int IntKind.i64) q5 ∧ dFact (Ty.arr q0 (Ty.arr q0 Ty.bool)) x_1.2 ∧ True →
                q1 ∧
                  (q6 = true →
                      q2 ∧
                        q1 ∧
                          (∃ (x_2 : Nat × Sp.Rel), (x_2.1 ≤ q0 ∧ x_2.2 = Sp.rowA x_1.1 (Sp.closeN x x_1.1) x_2.1) ∧ (0 : Int) = (↑x_2.1 : Int) ∧ x_1.2 = x_2.2 ∧ q8) ∧
                            ∀ (x_2 : Nat × Sp.Rel),
                              let q12 : List (List Bool) := Sp.rowA x_1.1 (Sp.closeN x x_1.1) x_2.1;
                              let q13 : Int := (↑x_2.1 : Int);
                              let q14 : Bool := decide (q13 < (6 : Int));
                              let q15 : Prop := q13 = q13;
                              let q16 : Prop := q7 ∧ q7 ∧ q15 ∧ q15 ∧ True;
                              let q17 : Prop := inN q13 q0;
                              let q18 : Nat := q13.toNat;
                              let q19 : Int := q13 + q4;
                              x_2.1 ≤ q0 ∧ x_2.2 = q12 →
                                dFact (Ty.int IntKind.i64) q13 ∧ dFact (Ty.arr q0 (Ty.arr q0 Ty.bool)) x_2.2 ∧ True →
                                  q1 ∧
                                    (q14 = true →
                                        q2 ∧
                                          q1 ∧
                                            (∃ (x : Nat × Sp.Rel), (x.1 ≤ q0 ∧ x.2 = Sp.rowB x_1.1 x_2.1 q12 x.1) ∧ (0 : Int) = (↑x.1 : Int) ∧ x_2.2 = x.2 ∧ q16) ∧
                                              ∀ (x_3 : Nat × Sp.Rel),
                                                let q20 : Int := (↑x_3.1 : Int);
                                                let q21 : Bool := decide (q20 < (6 : Int));
                                                let q22 : Prop := inN q20 q0;
                                                let q23 : List Bool := List.getD x_3.2 q18 q3;
                                                let q24 : Nat := q20.toNat;
                                                let q25 : Bool := q23.getD q24 false;
                                                let q26 : Bool := true && bif q25 then false else true;
                                                let q27 : Prop := q26 = true;
                                                let q28 : Prop := q27 → True;
                                                let q29 : Bool := q23.getD q10 false;
                                                let q30 : Prop := (q26 && bif q29 then true else false) = true;
                                                let q31 : Prop := q30 → True;
                                                let q32 : Int := q20 + q4;
                                                x_3.1 ≤ q0 ∧ x_3.2 = Sp.rowB x_1.1 x_2.1 q12 x_3.1 → dFact (Ty.int IntKind.i64) q20 ∧ dFact (Ty.arr q0 (Ty.arr q0 Ty.bool)) x_3.2 ∧ True → q1 ∧ (q21 = true → q2 ∧ ((True ∧ True ∧ True ∧ True ∧ True ∧ True ∧ True ∧ q17 ∧ q22 ∧ True ∧ True ∧ q28 ∧ q28 ∧ q28 ∧ q28 ∧ (q27 → q17) ∧ (q27 → q9) ∧ q28 ∧ q28 ∧ q31 ∧ q31 ∧ q31 ∧ q31 ∧ (q30 → q9) ∧ (q30 → q22) ∧ q31 ∧ q28 ∧ True ∧ True ∧ q17 ∧ q22 ∧ True) ∧ True ∧ True) ∧ ((inK IntKind.i64 q32 ∧ True ∧ True) ∧ True) ∧ ∃ (y : Nat × Sp.Rel), (y.1 ≤ q0 ∧ y.2 = Sp.rowB x_1.1 x_2.1 q12 y.1) ∧ q0 - y.1 < q0 - x_3.1 ∧ q32 = (↑y.1 : Int) ∧ List.set x_3.2 q18 (q23.set q24 (bif q25 then true else bif q29 then List.getD (List.getD x_3.2 q10 q3) q24 false else false)) = y.2 ∧ q16) ∧ (q21 = false → ((inK IntKind.i64 q19 ∧ True ∧ True) ∧ True) ∧ ∃ (y : Nat × Sp.Rel), (y.1 ≤ q0 ∧ y.2 = Sp.rowA x_1.1 (Sp.closeN x x_1.1) y.1) ∧ q0 - y.1 < q0 - x_2.1 ∧ q19 = (↑y.1 : Int) ∧ x_3.2 = y.2 ∧ q8)) ∧
                                      (q14 = false → ((inK IntKind.i64 q11 ∧ True ∧ True) ∧ True) ∧ ∃ (y : Nat × Sp.Rel), (y.1 ≤ q0 ∧ y.2 = Sp.closeN x y.1) ∧ q0 - y.1 < q0 - x_1.1 ∧ q11 = (↑y.1 : Int) ∧ x_2.2 = y.2 ∧ True)) ∧
                    (q6 = false → x_1.2 = Sp.close x)) := by kernel_rfl
theorem vc52 : funI C52 (stpP C52) S52 L52 Try.f52 = (
let q0 : Nat := (6 : Nat);
let q1 : Prop := (True ∧ True) ∧ True;
let q2 : Int := (1 : Int);
∀ (x : List (List Bool) × Unit),
  let q3 : Prop := x.1 = x.1 ∧ True;
  True →
    dFact (Ty.arr q0 (Ty.arr q0 Ty.bool)) x.1 ∧ True →
      q1 ∧
        q1 ∧
          (∃ (x_1 : Nat), (x_1 ≤ q0 ∧ ∀ (a : Nat), a < x_1 → Sp.get2 x.1 a a = false) ∧ (0 : Int) = (↑x_1 : Int) ∧ q3) ∧
            ∀ (x_1 : Nat),
              let q4 : Bool := decide ((↑x_1 : Int) < (6 : Int));
              let q5 : Prop := inN (↑x_1 : Int) q0;
              let q6 : Nat := (↑x_1 : Int).toNat;
              let q7 : Bool := List.getD (x.1.getD q6 (List.replicate q0 false)) q6 false;
              let q8 : Int := (↑x_1 : Int) + q2;
              (x_1 ≤ q0 ∧ ∀ (a : Nat), a < x_1 → Sp.get2 x.1 a a = false) → dFact (Ty.int IntKind.i64) (↑x_1 : Int) ∧ True → q1 ∧ (q4 = true → ((True ∧ True ∧ True) ∧ True) ∧ ((True ∧ True ∧ True ∧ True ∧ q5 ∧ q5 ∧ True ∧ True) ∧ True) ∧ (q7 = true → q1 ∧ true = Sp.round x.1) ∧ (q7 = false → ((inK IntKind.i64 q8 ∧ True ∧ True) ∧ True) ∧ ∃ (y : Nat), (y ≤ q0 ∧ ∀ (a : Nat), a < y → Sp.get2 x.1 a a = false) ∧ q0 - y < q0 - x_1 ∧ q8 = (↑y : Int) ∧ q3)) ∧ (q4 = false → q1 ∧ false = Sp.round x.1)) := by kernel_rfl
theorem vc50 : funI C50 (stpP C50) S50 L50 Try.f50 = (
let q0 : Nat := (6 : Nat);
let q1 : Prop := True ∧ True ∧ True;
let q2 : Prop := q1 ∧ True;
let q3 : Prop := (True ∧ True) ∧ True;
let q4 : Prop := True ∧ q1;
let q5 : Prop := True ∧ q4;
let q6 : Prop := q5 ∧ True;
let q7 : Int := (0 : Int);
let q8 : List Bool := List.replicate q0 false;
let q9 : List (List Bool) := List.replicate q0 q8;
let q10 : Prop := q9 = q9;
let q11 : Int := (1 : Int);
let q12 : Int × Unit := (q7, ());
let q13 : Int × (Int × Int × Int × Unit) × Int × Unit := (q7, (q7, q7, q12), q12);
let q14 : Nat := (1 : Nat);
∀ (x : (List (Int × (Int × Int × Int × Unit) × Int × Unit) × List Int × List (List Int) × List Int × Unit) × Unit),
  let q15 : Nat := x.1.1.length;
  let q16 : List Int := x.1.2.2.2.1;
  let q17 : Prop := x.1 = x.1;
  let q18 : Prop := x.1.1 = x.1.1;
  let q19 : Int := (↑q15 : Int);
  let q20 : Prop := q19 = q19;
  let q21 : Prop := q17 ∧ q10 ∧ q18 ∧ q20 ∧ True;
  let q22 : Nat := q16.length;
  let q23 : Prop := q16 = q16;
  let q24 : Int := (↑q22 : Int);
  let q25 : Prop := q24 = q24;
  let q26 : Prop := q17 ∧ q10 ∧ q23 ∧ q25 ∧ True;
  (q15 ≤ q0 ∧ ∀ (n : Int), n ∈ q16 → inN n q0) →
    dFact (((Ty.int IntKind.i64).prod (((Ty.int IntKind.i64).prod ((Ty.int IntKind.i64).prod ((Ty.int IntKind.i64).prod Ty.unit))).prod ((Ty.int IntKind.i64).prod Ty.unit))).slice.prod ((Ty.int IntKind.i64).slice.prod ((Ty.int IntKind.i64).slice.slice.prod ((Ty.int IntKind.i64).slice.prod Ty.unit)))) x.1 ∧ True →
      q2 ∧
        q3 ∧
          q6 ∧
            (∃ (x_1 : Nat), x_1 ≤ q15 ∧ q7 = (↑x_1 : Int) ∧ q9 = Sp.mat (Sp.oA x.1.1 x_1) ∧ q21) ∧
              ∀ (x_1 : Nat),
                let q27 : List (List Bool) := Sp.mat (Sp.oA x.1.1 x_1);
                let q28 : Bool := decide ((↑x_1 : Int) < q19);
                let q29 : Int := (↑x_1 : Int) + q11;
                let q30 : Prop := inK IntKind.i64 q29 ∧ True ∧ True;
                let q31 : Prop := (↑x_1 : Int) = (↑x_1 : Int);
                let q32 : Prop := q17 ∧ q10 ∧ q18 ∧ q20 ∧ q31 ∧ q31 ∧ True;
                let q33 : Nat := (↑x_1 : Int).toNat;
                x_1 ≤ q15 →
                  dFact (Ty.int IntKind.i64) (↑x_1 : Int) ∧ dFact (Ty.arr q0 (Ty.arr q0 Ty.bool)) q27 ∧ True →
                    q3 ∧
                      (q28 = true →
                          q2 ∧
                            ((True ∧ q30) ∧ True) ∧
                              (∃ (x_2 : Nat), (x_1 < x_2 ∧ x_2 ≤ q15) ∧ q29 = (↑x_2 : Int) ∧ q27 = Sp.mat (Sp.oB x.1.1 x_1 x_2) ∧ q32) ∧
                                ∀ (x_2 : Nat),
                                  let q34 : List (List Bool) := Sp.mat (Sp.oB x.1.1 x_1 x_2);
                                  let q35 : Bool := decide ((↑x_2 : Int) < q19);
                                  let q36 : Int := (↑x_2 : Int) + q11;
                                  let q37 : Nat := (↑x_2 : Int).toNat;
                                  x_1 < x_2 ∧ x_2 ≤ q15 → dFact (Ty.int IntKind.i64) (↑x_2 : Int) ∧ dFact (Ty.arr q0 (Ty.arr q0 Ty.bool)) q34 ∧ True → ((True ∧ q5) ∧ True) ∧ (q35 = true → ((True ∧ True ∧ True ∧ True ∧ True ∧ inN (↑x_1 : Int) q15 ∧ True ∧ True ∧ True ∧ True ∧ True ∧ inN (↑x_2 : Int) q15 ∧ True ∧ True ∧ True ∧ inN (↑x_1 : Int) q0 ∧ inN (↑x_2 : Int) q0 ∧ True) ∧ True ∧ True) ∧ ((True ∧ inK IntKind.i64 q36 ∧ True ∧ True) ∧ True) ∧ ∃ (y : Nat), (x_1 < y ∧ y ≤ q15) ∧ q15 - y < q15 - x_2 ∧ q36 = (↑y : Int) ∧ q34.set q33 (List.set (q34.getD q33 q8) q37 ((x.1.1.getD q33 q13).1 == (x.1.1.getD q37 q13).1)) = Sp.mat (Sp.oB x.1.1 x_1 y) ∧ q32) ∧ (q35 = false → (q30 ∧ True) ∧ ∃ (y : Nat), y ≤ q15 ∧ q15 - y < q15 - x_1 ∧ q29 = (↑y : Int) ∧ q34 = Sp.mat (Sp.oA x.1.1 y) ∧ q21)) ∧
                        (q28 = false →
                          q6 ∧
                            (∃ (x_2 : Nat), x_2 ≤ q22 ∧ q7 = (↑x_2 : Int) ∧ q27 = Sp.mat (Sp.oC x.1.1 q16 x_2) ∧ q26) ∧
                              ∀ (x_2 : Nat),
                                let q38 : List (List Bool) := Sp.mat (Sp.oC x.1.1 q16 x_2);
                                let q39 : Bool := decide ((↑x_2 : Int) < q24);
                                let q40 : Int := (↑x_2 : Int) + q11;
                                let q41 : Prop := inK IntKind.i64 q40;
                                let q42 : Prop := (↑x_2 : Int) = (↑x_2 : Int);
                                let q43 : Int := q16.getD (↑x_2 : Int).toNat q7;
                                let q44 : List Int := win q40 q24 q16;
                                let q45 : Nat := q44.length;
                                let q46 : Int := (↑q45 : Int);
                                let q47 : Prop := q17 ∧ q10 ∧ q23 ∧ q25 ∧ q42 ∧ q42 ∧ q43 = q43 ∧ q44 = q44 ∧ q46 = q46 ∧ True;
                                let q48 : Nat := q43.toNat;
                                x_2 ≤ q22 →
                                  dFact (Ty.int IntKind.i64) (↑x_2 : Int) ∧ dFact (Ty.arr q0 (Ty.arr q0 Ty.bool)) q38 ∧ True →
                                    q3 ∧
                                      (q39 = true →
                                          ((True ∧ inN (↑x_2 : Int) q22 ∧ q4) ∧ True) ∧
                                            ((True ∧ True ∧ True ∧ q41 ∧ winI q40 q24 q22 ∧ q1) ∧ True) ∧
                                              (∃ (x_3 : Nat), x_2 + q14 + x_3 ≤ q22 ∧ q7 = (↑x_3 : Int) ∧ q38 = Sp.mat (Sp.oD x.1.1 q16 x_2 x_3) ∧ q47) ∧
                                                ∀ (x_3 : Nat),
                                                  let q49 : List (List Bool) := Sp.mat (Sp.oD x.1.1 q16 x_2 x_3);
                                                  let q50 : Bool := decide ((↑x_3 : Int) < q46);
                                                  let q51 : Int := q44.getD (↑x_3 : Int).toNat q7;
                                                  let q52 : Int := (↑x_3 : Int) + q11;
                                                  x_2 + q14 + x_3 ≤ q22 → dFact (Ty.int IntKind.i64) (↑x_3 : Int) ∧ dFact (Ty.arr q0 (Ty.arr q0 Ty.bool)) q49 ∧ True → q3 ∧ (q50 = true → ((inN (↑x_3 : Int) q45 ∧ q1) ∧ True) ∧ ((True ∧ True ∧ inN q43 q0 ∧ inN q51 q0 ∧ True) ∧ True ∧ True) ∧ ((inK IntKind.i64 q52 ∧ True ∧ True) ∧ True) ∧ ∃ (y : Nat), x_2 + q14 + y ≤ q22 ∧ q22 - y < q22 - x_3 ∧ q52 = (↑y : Int) ∧ q49.set q48 (List.set (q49.getD q48 q8) q51.toNat true) = Sp.mat (Sp.oD x.1.1 q16 x_2 y) ∧ q47) ∧ (q50 = false → ((q41 ∧ True ∧ True) ∧ True) ∧ ∃ (y : Nat), y ≤ q22 ∧ q22 - y < q22 - x_2 ∧ q40 = (↑y : Int) ∧ q49 = Sp.mat (Sp.oC x.1.1 q16 y) ∧ q26)) ∧
                                        (q39 = false → ((True ∧ True) ∧ True ∧ True) ∧ q38 = Sp.order x.1))) := by kernel_rfl
theorem vc45 : funI C45 (stpP C45) S45 L45 Try.f45 = (
let q0 : List Ty := tLOp :: ([] : List Ty);
let q1 : Prop := (True ∧ True) ∧ True;
let q2 : Prop := True ∧ True ∧ True;
let q3 : Prop := (True ∧ q2) ∧ True;
let q4 : Int := (0 : Int);
let q5 : Prop := q0 = q0;
let q6 : Int × Unit := (q4, ());
let q7 : Int × (Int × Int × Int × Unit) × Int × Unit := (q4, (q4, q4, q6), q6);
let q8 : Int := (1 : Int);
∀ (x : List Int × List (Int × (Int × Int × Int × Unit) × Int × Unit) × Fun q0 Ty.bool × Unit),
  let q9 : Nat := x.2.1.length;
  let q10 : Int := (↑q9 : Int);
  let q11 : Nat := x.1.length;
  let q12 : Prop := x.1 = x.1;
  let q13 : Prop := x.2.1 = x.2.1;
  let q14 : Prop := ∃ (h1 : q5), ∃ (h2 : Ty.bool = Ty.bool), x.2.2.1 = x.2.2.1;
  let q15 : Int := (↑q11 : Int);
  let q16 : Prop := q12 ∧ q13 ∧ q14 ∧ q12 ∧ q15 = q15 ∧ True;
  let q17 : Bool := Sp.isList x.1 x.2.1 fun (o : Sp.LOp) => x.2.2.1.2 (o, ());
  let q18 : Prop := q1 ∧ false = q17;
  let q19 : Prop := q13 ∧ q10 = q10 ∧ True;
  (q9 ≤ (1000 : Nat) ∧ ∀ (o : Int × Int × Int × Unit), x.2.2.1.1 (o, ())) →
    dFact (Ty.int IntKind.i64).slice x.1 ∧ dFact ((Ty.int IntKind.i64).prod (((Ty.int IntKind.i64).prod ((Ty.int IntKind.i64).prod ((Ty.int IntKind.i64).prod Ty.unit))).prod ((Ty.int IntKind.i64).prod Ty.unit))).slice x.2.1 ∧ True →
      q1 ∧
        ((True ∧ True ∧ ((0 : (Ty.int IntKind.i64).den) ≤ q10 ∧ q10 ≤ q10 ∧ q10 ≤ maxNew) ∧ True) ∧ True ∧ True) ∧
          q3 ∧
            (∃ (x_1 : Nat × List Bool),
                let q20 : List Int := List.take x_1.1 x.1;
                (x_1.1 ≤ q11 ∧ x_1.2.length = q9 ∧ (List.take x_1.1 x.1).Nodup ∧ (∀ (n : Int), n ∈ q20 → q4 ≤ n ∧ n < q10 ∧ x.2.2.1.2 ((Sp.ev x.2.1 n).2.1, ()) = true) ∧ ∀ (n : Nat), n < q9 → (x_1.2.getD n false = true ↔ (↑n : Int) ∈ q20)) ∧ q4 = (↑x_1.1 : Int) ∧ List.replicate q10.toNat false = x_1.2 ∧ q16) ∧
              ∀ (x_1 : Nat × List Bool),
                let q21 : List Int := List.take x_1.1 x.1;
                let q22 : Int := (↑x_1.1 : Int);
                let q23 : Bool := decide (q22 < q15);
                let q24 : Int := x.1.getD q22.toNat q4;
                let q25 : Bool := decide (q24 < q4);
                let q26 : Prop := (true && bif q25 then false else true) = true → True;
                let q27 : Bool := bif q25 then true else decide (q24 ≥ q10);
                let q28 : Prop := (true && bif q27 then false else true) = true;
                let q29 : Prop := q28 → True;
                let q30 : Nat := x_1.2.length;
                let q31 : Prop := inN q24 q30;
                let q32 : Nat := q24.toNat;
                let q33 : Bool := bif q27 then true else x_1.2.getD q32 false;
                let q34 : Prop := (true && bif q33 then false else true) = true;
                let q35 : Prop := q34 → True;
                let q36 : (Int × Int × Int × Unit) × Unit := ((x.2.1.getD q32 q7).2.1, ());
                let q37 : Bool := bif q33 then true else !x.2.2.1.2 q36;
                let q38 : Int := q22 + q8;
                let q39 : Prop := q12 ∧ q13 ∧ q14 ∧ x_1.2 = x_1.2 ∧ q19;
                (x_1.1 ≤ q11 ∧ x_1.2.length = q9 ∧ (List.take x_1.1 x.1).Nodup ∧ (∀ (n : Int), n ∈ q21 → q4 ≤ n ∧ n < q10 ∧ x.2.2.1.2 ((Sp.ev x.2.1 n).2.1, ()) = true) ∧ ∀ (n : Nat), n < q9 → (x_1.2.getD n false = true ↔ (↑n : Int) ∈ q21)) →
                  dFact (Ty.int IntKind.i64) q22 ∧ dFact Ty.bool.slice x_1.2 ∧ True →
                    q1 ∧
                      (q23 = true →
                          ((inN q22 q11 ∧ q2) ∧ True) ∧
                            ((True ∧ True ∧ True ∧ q26 ∧ q26 ∧ q26 ∧ q26 ∧ True ∧ True ∧ q29 ∧ q29 ∧ (q28 → q31) ∧ q29 ∧ True ∧ True ∧ q35 ∧ q35 ∧ q35 ∧ (q34 → inN q24 q9) ∧ q35 ∧ q35 ∧ (q34 → x.2.2.1.1 q36) ∧ q35 ∧ True ∧ True) ∧ True) ∧
                              (q37 = true → q18) ∧
                                (q37 = false →
                                  ((True ∧ True ∧ q31 ∧ True) ∧ True ∧ True) ∧
                                    ((inK IntKind.i64 q38 ∧ True ∧ True) ∧ True) ∧
                                      ∃ (y : Nat × List Bool),
                                        let q40 : List Int := List.take y.1 x.1;
                                        (y.1 ≤ q11 ∧ y.2.length = q9 ∧ (List.take y.1 x.1).Nodup ∧ (∀ (n : Int), n ∈ q40 → q4 ≤ n ∧ n < q10 ∧ x.2.2.1.2 ((Sp.ev x.2.1 n).2.1, ()) = true) ∧ ∀ (n : Nat), n < q9 → (y.2.getD n false = true ↔ (↑n : Int) ∈ q40)) ∧ q11 - y.1 < q11 - x_1.1 ∧ q38 = (↑y.1 : Int) ∧ x_1.2.set q32 true = y.2 ∧ q16)) ∧
                        (q23 = false →
                          q3 ∧
                            (∃ (x_2 : Nat), (x_2 ≤ q9 ∧ ∀ (n : Nat), n < x_2 → x.2.2.1.2 ((Sp.ev x.2.1 (↑n : Int)).2.1, ()) = true → (↑n : Int) ∈ x.1) ∧ q4 = (↑x_2 : Int) ∧ q39) ∧
                              ∀ (x_2 : Nat),
                                let q41 : Bool := decide ((↑x_2 : Int) < q10);
                                let q42 : Nat := (↑x_2 : Int).toNat;
                                let q43 : (Int × Int × Int × Unit) × Unit := ((x.2.1.getD q42 q7).2.1, ());
                                let q44 : Bool := x.2.2.1.2 q43;
                                let q45 : Prop := (true && bif q44 then true else false) = true;
                                let q46 : Prop := q45 → True;
                                let q47 : Bool := bif q44 then !x_1.2.getD q42 false else false;
                                let q48 : Int := (↑x_2 : Int) + q8;
                                (x_2 ≤ q9 ∧ ∀ (n : Nat), n < x_2 → x.2.2.1.2 ((Sp.ev x.2.1 (↑n : Int)).2.1, ()) = true → (↑n : Int) ∈ x.1) → dFact (Ty.int IntKind.i64) (↑x_2 : Int) ∧ True → q1 ∧ (q41 = true → (q2 ∧ True) ∧ ((True ∧ True ∧ True ∧ inN (↑x_2 : Int) q9 ∧ True ∧ True ∧ x.2.2.1.1 q43 ∧ True ∧ q46 ∧ q46 ∧ (q45 → inN (↑x_2 : Int) q30) ∧ q46 ∧ q46 ∧ True ∧ True) ∧ True) ∧ (q47 = true → q18) ∧ (q47 = false → ((inK IntKind.i64 q48 ∧ True ∧ True) ∧ True) ∧ ∃ (y : Nat), (y ≤ q9 ∧ ∀ (n : Nat), n < y → x.2.2.1.2 ((Sp.ev x.2.1 (↑n : Int)).2.1, ()) = true → (↑n : Int) ∈ x.1) ∧ q9 - y < q9 - x_2 ∧ q48 = (↑y : Int) ∧ q39)) ∧ (q41 = false → q1 ∧ true = q17))) := by kernel_rfl
theorem vc21 : funI C21 (stpP C21) S21 L21 Try.f21 = (
let q0 : Int := (0 : Int);
let q1 : Nat := (1000 : Nat);
let q2 : Prop := True ∧ True ∧ True;
let q3 : Int := (1 : Int);
∀ (x : (List (List (Int × Int × Int × Unit)) × Unit) × Unit),
  let q4 : List (Int × (Int × Int × Int × Unit) × Int × Unit) := Sp.evs q0 x.1.1;
  let q5 : Prop := q4.length ≤ q1;
  let q6 : Int := (↑x.1.1.length : Int);
  let q7 : Bool := decide (q6 ≥ q3);
  let q8 : Prop := (true && bif q7 then true else false) = true → True;
  let q9 : Bool := bif q7 then decide (q6 ≤ (4 : Int)) else false;
  let q10 : Prop := (true && bif q9 then true else false) = true → True;
  let q11 : Int := (↑q4.length : Int);
  let q12 : Bool := bif q9 then decide (q11 ≥ q3) else false;
  let q13 : Prop := (true && bif q12 then true else false) = true → True;
  let q14 : Bool := bif q12 then decide (q11 ≤ (6 : Int)) else false;
  let q15 : Prop := (true && bif q14 then true else false) = true;
  let q16 : Prop := q15 → True;
  q5 → dFact (((Ty.int IntKind.i64).prod ((Ty.int IntKind.i64).prod ((Ty.int IntKind.i64).prod Ty.unit))).slice.slice.prod Ty.unit) x.1 ∧ True → (q2 ∧ True) ∧ ((True ∧ q5 ∧ True) ∧ True ∧ True) ∧ ((True ∧ True ∧ True ∧ True ∧ True ∧ q8 ∧ q8 ∧ q8 ∧ q8 ∧ True ∧ True ∧ q10 ∧ q10 ∧ q10 ∧ True ∧ True ∧ q13 ∧ q13 ∧ q13 ∧ True ∧ True ∧ q16 ∧ (q15 → ∀ (e : Int × (Int × Int × Int × Unit) × Int × Unit), True) ∧ q16 ∧ q2) ∧ True) ∧ (bif q14 then !q4.any fun (e : tLEv.den) => !Sp.usual e.2.1 else false) = Sp.valid x.1) := by kernel_rfl
end Go.User
namespace Go.User
open Go.Proofs Go.Lf
set_option maxRecDepth 100000
theorem vc22 (h : (
  ∀ (x : List Int × Int × Unit), (x.1.length ≤ lim ∧ ∀ (x_1 : Int), x_1 ∈ x.1 → inK IntKind.i64 x_1) ∧ inK IntKind.i64 x.2.1 → (∃ (x_1 : Nat), (x_1 ≤ x.1.length ∧ ¬x.2.1 ∈ List.take x_1 x.1) ∧ (0 : Int) = (↑x_1 : Int)) ∧ ∀ (x_1 : Nat), x_1 ≤ x.1.length ∧ ¬x.2.1 ∈ List.take x_1 x.1 → inK IntKind.i64 (↑x_1 : Int) → ((↑x_1 : Int) < (↑x.1.length : Int) → inN (↑x_1 : Int) x.1.length ∧ (x.1.getD x_1 (0 : Int) = x.2.1 → (↑x_1 : Int) = Sp.idx x.1 x.2.1) ∧ (¬x.1.getD x_1 (0 : Int) = x.2.1 → inK IntKind.i64 ((↑x_1 : Int) + (1 : Int)) ∧ ∃ (y : Nat), (y ≤ x.1.length ∧ ¬x.2.1 ∈ List.take y x.1) ∧ x.1.length - y < x.1.length - x_1 ∧ (↑x_1 : Int) + (1 : Int) = (↑y : Int))) ∧ ((↑x.1.length : Int) ≤ (↑x_1 : Int) → (-1 : Int) = Sp.idx x.1 x.2.1))) : funI C22 (stpP C22) S22 L22 Try.f22 := by
  have e : funI C22 (stpP C22) S22 L22 Try.f22 = (
  ∀ (x : List Int × Int × Unit), True → (x.1.length ≤ lim ∧ ∀ (x_1 : Int), x_1 ∈ x.1 → inK IntKind.i64 x_1) ∧ inK IntKind.i64 x.2.1 ∧ True → ((True ∧ True) ∧ True) ∧ ((True ∧ True) ∧ True) ∧ (∃ (x_1 : Nat), (x_1 ≤ x.1.length ∧ ¬x.2.1 ∈ List.take x_1 x.1) ∧ (0 : Int) = (↑x_1 : Int) ∧ x.1 = x.1 ∧ x.2.1 = x.2.1 ∧ True) ∧ ∀ (x_1 : Nat), x_1 ≤ x.1.length ∧ ¬x.2.1 ∈ List.take x_1 x.1 → inK IntKind.i64 (↑x_1 : Int) ∧ True → ((True ∧ True ∧ True ∧ True ∧ True) ∧ True) ∧ (decide ((↑x_1 : Int) < (↑x.1.length : Int)) = true → ((True ∧ True ∧ inN (↑x_1 : Int) x.1.length ∧ True ∧ True ∧ True ∧ True) ∧ True) ∧ ((x.1.getD (↑x_1 : Int).toNat (0 : Int) == x.2.1) = true → ((True ∧ True ∧ True) ∧ True) ∧ (↑x_1 : Int) = Sp.idx x.1 x.2.1) ∧ ((x.1.getD (↑x_1 : Int).toNat (0 : Int) == x.2.1) = false → ((True ∧ inK IntKind.i64 ((↑x_1 : Int) + (1 : Int)) ∧ True ∧ True) ∧ True) ∧ ∃ (y : Nat), (y ≤ x.1.length ∧ ¬x.2.1 ∈ List.take y x.1) ∧ x.1.length - y < x.1.length - x_1 ∧ (↑x_1 : Int) + (1 : Int) = (↑y : Int) ∧ x.1 = x.1 ∧ x.2.1 = x.2.1 ∧ True)) ∧ (decide ((↑x_1 : Int) < (↑x.1.length : Int)) = false → ((True ∧ True) ∧ True) ∧ (-1 : Int) = Sp.idx x.1 x.2.1)) := by kernel_rfl
  rw [e]
  simp only [true_and, and_true, eq_self, forall_const, decide_eq_true_eq, decide_eq_false_iff_not, Int.not_lt, Int.not_le, Bool.and_eq_true, true_implies, implies_true, Bool.not_eq_true', Bool.not_eq_false', false_implies, Bool.false_eq_true, Bool.true_eq_false, and_self, beq_iff_eq, beq_eq_false_iff_ne, ne_eq, Int.toNat_natCast, Bool.cond_false_right, Bool.cond_true_left, exists_prop, ge_iff_le, gt_iff_lt, List.length_singleton, List.length_nil, List.nil_append, List.append_eq, Bool.cond_false_left, Bool.cond_true_right, Bool.or_false, Bool.and_true, Bool.or_eq_false_iff, Bool.not_eq_true, bne_iff_ne, bne_eq_false_iff_eq]
  all_goals first | exact h | (simp only [true_and, and_true, eq_self, forall_const, decide_eq_true_eq, decide_eq_false_iff_not, Int.not_lt, Int.not_le, Bool.and_eq_true, true_implies, implies_true, Bool.not_eq_true', Bool.not_eq_false', false_implies, Bool.false_eq_true, Bool.true_eq_false, and_self, beq_iff_eq, beq_eq_false_iff_ne, ne_eq, Int.toNat_natCast, Bool.cond_false_right, Bool.cond_true_left, exists_prop, ge_iff_le, gt_iff_lt, List.length_singleton, List.length_nil, List.nil_append, List.append_eq, Bool.cond_false_left, Bool.cond_true_right, Bool.or_false, Bool.and_true, Bool.or_eq_false_iff, Bool.not_eq_true, bne_iff_ne, bne_eq_false_iff_eq] at h; exact h)
theorem vc39 (h : (
  ∀ (x : List Int × Int × Unit), (x.1.length ≤ lim ∧ ∀ (x_1 : Int), x_1 ∈ x.1 → inK IntKind.i64 x_1) ∧ inK IntKind.i64 x.2.1 → (∃ (x_1 : Nat), (x_1 ≤ x.1.length ∧ ¬x.2.1 ∈ List.take x_1 x.1) ∧ (0 : Int) = (↑x_1 : Int)) ∧ ∀ (x_1 : Nat), x_1 ≤ x.1.length ∧ ¬x.2.1 ∈ List.take x_1 x.1 → inK IntKind.i64 (↑x_1 : Int) → ((↑x_1 : Int) < (↑x.1.length : Int) → inN (↑x_1 : Int) x.1.length ∧ (x.1.getD x_1 (0 : Int) = x.2.1 → (↑x_1 : Int) = Sp.idx x.1 x.2.1) ∧ (¬x.1.getD x_1 (0 : Int) = x.2.1 → inK IntKind.i64 ((↑x_1 : Int) + (1 : Int)) ∧ ∃ (y : Nat), (y ≤ x.1.length ∧ ¬x.2.1 ∈ List.take y x.1) ∧ x.1.length - y < x.1.length - x_1 ∧ (↑x_1 : Int) + (1 : Int) = (↑y : Int))) ∧ ((↑x.1.length : Int) ≤ (↑x_1 : Int) → (-1 : Int) = Sp.idx x.1 x.2.1))) : funI C39 (stpP C39) S39 L39 Try.f39 := by
  have e : funI C39 (stpP C39) S39 L39 Try.f39 = (
  ∀ (x : List Int × Int × Unit), True → (x.1.length ≤ lim ∧ ∀ (x_1 : Int), x_1 ∈ x.1 → inK IntKind.i64 x_1) ∧ inK IntKind.i64 x.2.1 ∧ True → ((True ∧ True) ∧ True) ∧ ((True ∧ True) ∧ True) ∧ (∃ (x_1 : Nat), (x_1 ≤ x.1.length ∧ ¬x.2.1 ∈ List.take x_1 x.1) ∧ (0 : Int) = (↑x_1 : Int) ∧ x.1 = x.1 ∧ x.2.1 = x.2.1 ∧ True) ∧ ∀ (x_1 : Nat), x_1 ≤ x.1.length ∧ ¬x.2.1 ∈ List.take x_1 x.1 → inK IntKind.i64 (↑x_1 : Int) ∧ True → ((True ∧ True ∧ True ∧ True ∧ True) ∧ True) ∧ (decide ((↑x_1 : Int) < (↑x.1.length : Int)) = true → ((True ∧ True ∧ inN (↑x_1 : Int) x.1.length ∧ True ∧ True ∧ True ∧ True) ∧ True) ∧ ((x.1.getD (↑x_1 : Int).toNat (0 : Int) == x.2.1) = true → ((True ∧ True ∧ True) ∧ True) ∧ (↑x_1 : Int) = Sp.idx x.1 x.2.1) ∧ ((x.1.getD (↑x_1 : Int).toNat (0 : Int) == x.2.1) = false → ((True ∧ inK IntKind.i64 ((↑x_1 : Int) + (1 : Int)) ∧ True ∧ True) ∧ True) ∧ ∃ (y : Nat), (y ≤ x.1.length ∧ ¬x.2.1 ∈ List.take y x.1) ∧ x.1.length - y < x.1.length - x_1 ∧ (↑x_1 : Int) + (1 : Int) = (↑y : Int) ∧ x.1 = x.1 ∧ x.2.1 = x.2.1 ∧ True)) ∧ (decide ((↑x_1 : Int) < (↑x.1.length : Int)) = false → ((True ∧ True) ∧ True) ∧ (-1 : Int) = Sp.idx x.1 x.2.1)) := by kernel_rfl
  rw [e]
  simp only [true_and, and_true, eq_self, forall_const, decide_eq_true_eq, decide_eq_false_iff_not, Int.not_lt, Int.not_le, Bool.and_eq_true, true_implies, implies_true, Bool.not_eq_true', Bool.not_eq_false', false_implies, Bool.false_eq_true, Bool.true_eq_false, and_self, beq_iff_eq, beq_eq_false_iff_ne, ne_eq, Int.toNat_natCast, Bool.cond_false_right, Bool.cond_true_left, exists_prop, ge_iff_le, gt_iff_lt, List.length_singleton, List.length_nil, List.nil_append, List.append_eq, Bool.cond_false_left, Bool.cond_true_right, Bool.or_false, Bool.and_true, Bool.or_eq_false_iff, Bool.not_eq_true, bne_iff_ne, bne_eq_false_iff_eq]
  all_goals first | exact h | (simp only [true_and, and_true, eq_self, forall_const, decide_eq_true_eq, decide_eq_false_iff_not, Int.not_lt, Int.not_le, Bool.and_eq_true, true_implies, implies_true, Bool.not_eq_true', Bool.not_eq_false', false_implies, Bool.false_eq_true, Bool.true_eq_false, and_self, beq_iff_eq, beq_eq_false_iff_ne, ne_eq, Int.toNat_natCast, Bool.cond_false_right, Bool.cond_true_left, exists_prop, ge_iff_le, gt_iff_lt, List.length_singleton, List.length_nil, List.nil_append, List.append_eq, Bool.cond_false_left, Bool.cond_true_right, Bool.or_false, Bool.and_true, Bool.or_eq_false_iff, Bool.not_eq_true, bne_iff_ne, bne_eq_false_iff_eq] at h; exact h)
theorem vc63 (h : (
  ∀ (x : List Int × Int × Unit), (x.1.length ≤ lim ∧ ∀ (x_1 : Int), x_1 ∈ x.1 → inK IntKind.i64 x_1) ∧ inK IntKind.i64 x.2.1 → (∃ (x_1 : Nat), (x_1 ≤ x.1.length ∧ ¬x.2.1 ∈ List.take x_1 x.1) ∧ (0 : Int) = (↑x_1 : Int)) ∧ ∀ (x_1 : Nat), x_1 ≤ x.1.length ∧ ¬x.2.1 ∈ List.take x_1 x.1 → inK IntKind.i64 (↑x_1 : Int) → ((↑x_1 : Int) < (↑x.1.length : Int) → inN (↑x_1 : Int) x.1.length ∧ (x.2.1 = x.1.getD x_1 (0 : Int) → (↑x_1 : Int) = Sp.idx x.1 x.2.1) ∧ (¬x.2.1 = x.1.getD x_1 (0 : Int) → inK IntKind.i64 ((↑x_1 : Int) + (1 : Int)) ∧ ∃ (y : Nat), (y ≤ x.1.length ∧ ¬x.2.1 ∈ List.take y x.1) ∧ x.1.length - y < x.1.length - x_1 ∧ (↑x_1 : Int) + (1 : Int) = (↑y : Int))) ∧ ((↑x.1.length : Int) ≤ (↑x_1 : Int) → (-1 : Int) = Sp.idx x.1 x.2.1))) : funI C63 (stpP C63) S63 L63 Try.f63 := by
  have e : funI C63 (stpP C63) S63 L63 Try.f63 = (
  ∀ (x : List Int × Int × Unit), True → (x.1.length ≤ lim ∧ ∀ (x_1 : Int), x_1 ∈ x.1 → inK IntKind.i64 x_1) ∧ inK IntKind.i64 x.2.1 ∧ True → ((True ∧ True) ∧ True) ∧ ((True ∧ True ∧ True ∧ True) ∧ True) ∧ (∃ (x_1 : Nat), (x_1 ≤ x.1.length ∧ ¬x.2.1 ∈ List.take x_1 x.1) ∧ (0 : Int) = (↑x_1 : Int) ∧ x.1 = x.1 ∧ x.2.1 = x.2.1 ∧ (↑x.1.length : Int) = (↑x.1.length : Int) ∧ True) ∧ ∀ (x_1 : Nat), x_1 ≤ x.1.length ∧ ¬x.2.1 ∈ List.take x_1 x.1 → inK IntKind.i64 (↑x_1 : Int) ∧ True → ((True ∧ True) ∧ True) ∧ (decide ((↑x_1 : Int) < (↑x.1.length : Int)) = true → ((True ∧ True ∧ True) ∧ True) ∧ ((True ∧ True ∧ True ∧ inN (↑x_1 : Int) x.1.length ∧ True ∧ True ∧ True) ∧ True) ∧ ((x.2.1 == x.1.getD (↑x_1 : Int).toNat (0 : Int)) = true → ((True ∧ True ∧ True) ∧ True) ∧ (↑x_1 : Int) = Sp.idx x.1 x.2.1) ∧ ((x.2.1 == x.1.getD (↑x_1 : Int).toNat (0 : Int)) = false → ((inK IntKind.i64 ((↑x_1 : Int) + (1 : Int)) ∧ True ∧ True) ∧ True) ∧ ∃ (y : Nat), (y ≤ x.1.length ∧ ¬x.2.1 ∈ List.take y x.1) ∧ x.1.length - y < x.1.length - x_1 ∧ (↑x_1 : Int) + (1 : Int) = (↑y : Int) ∧ x.1 = x.1 ∧ x.2.1 = x.2.1 ∧ (↑x.1.length : Int) = (↑x.1.length : Int) ∧ True)) ∧ (decide ((↑x_1 : Int) < (↑x.1.length : Int)) = false → ((True ∧ True) ∧ True) ∧ (-1 : Int) = Sp.idx x.1 x.2.1)) := by kernel_rfl
  rw [e]
  simp only [true_and, and_true, eq_self, forall_const, decide_eq_true_eq, decide_eq_false_iff_not, Int.not_lt, Int.not_le, Bool.and_eq_true, true_implies, implies_true, Bool.not_eq_true', Bool.not_eq_false', false_implies, Bool.false_eq_true, Bool.true_eq_false, and_self, beq_iff_eq, beq_eq_false_iff_ne, ne_eq, Int.toNat_natCast, Bool.cond_false_right, Bool.cond_true_left, exists_prop, ge_iff_le, gt_iff_lt, List.length_singleton, List.length_nil, List.nil_append, List.append_eq, Bool.cond_false_left, Bool.cond_true_right, Bool.or_false, Bool.and_true, Bool.or_eq_false_iff, Bool.not_eq_true, bne_iff_ne, bne_eq_false_iff_eq]
  all_goals first | exact h | (simp only [true_and, and_true, eq_self, forall_const, decide_eq_true_eq, decide_eq_false_iff_not, Int.not_lt, Int.not_le, Bool.and_eq_true, true_implies, implies_true, Bool.not_eq_true', Bool.not_eq_false', false_implies, Bool.false_eq_true, Bool.true_eq_false, and_self, beq_iff_eq, beq_eq_false_iff_ne, ne_eq, Int.toNat_natCast, Bool.cond_false_right, Bool.cond_true_left, exists_prop, ge_iff_le, gt_iff_lt, List.length_singleton, List.length_nil, List.nil_append, List.append_eq, Bool.cond_false_left, Bool.cond_true_right, Bool.or_false, Bool.and_true, Bool.or_eq_false_iff, Bool.not_eq_true, bne_iff_ne, bne_eq_false_iff_eq] at h; exact h)
theorem vc42 (h : (
  ∀ (x : (Int × Int × Int × Unit) × Unit), inK IntKind.i64 x.1.1 ∧ inK IntKind.i64 x.1.2.1 ∧ inK IntKind.i64 x.1.2.2.1 → (x.1.1 == (1 : Int) || x.1.1 == (3 : Int)) = Sp.reads x.1)) : funI C42 (stpP C42) S42 L42 Try.f42 := by
  have e : funI C42 (stpP C42) S42 L42 Try.f42 = (
  ∀ (x : (Int × Int × Int × Unit) × Unit), True → (inK IntKind.i64 x.1.1 ∧ inK IntKind.i64 x.1.2.1 ∧ inK IntKind.i64 x.1.2.2.1 ∧ True) ∧ True → ((True ∧ True ∧ True) ∧ True) ∧ ((True ∧ True ∧ True ∧ True ∧ ((true && bif x.1.1 == (1 : Int) then false else true) = true → True) ∧ ((true && bif x.1.1 == (1 : Int) then false else true) = true → True) ∧ ((true && bif x.1.1 == (1 : Int) then false else true) = true → True) ∧ True ∧ True ∧ True) ∧ True) ∧ (bif x.1.1 == (1 : Int) then true else x.1.1 == (3 : Int)) = Sp.reads x.1) := by kernel_rfl
  rw [e]
  simp only [true_and, and_true, eq_self, forall_const, decide_eq_true_eq, decide_eq_false_iff_not, Int.not_lt, Int.not_le, Bool.and_eq_true, true_implies, implies_true, Bool.not_eq_true', Bool.not_eq_false', false_implies, Bool.false_eq_true, Bool.true_eq_false, and_self, beq_iff_eq, beq_eq_false_iff_ne, ne_eq, Int.toNat_natCast, Bool.cond_false_right, Bool.cond_true_left, exists_prop, ge_iff_le, gt_iff_lt, List.length_singleton, List.length_nil, List.nil_append, List.append_eq, Bool.cond_false_left, Bool.cond_true_right, Bool.or_false, Bool.and_true, Bool.or_eq_false_iff, Bool.not_eq_true, bne_iff_ne, bne_eq_false_iff_eq]
  all_goals first | exact h | (simp only [true_and, and_true, eq_self, forall_const, decide_eq_true_eq, decide_eq_false_iff_not, Int.not_lt, Int.not_le, Bool.and_eq_true, true_implies, implies_true, Bool.not_eq_true', Bool.not_eq_false', false_implies, Bool.false_eq_true, Bool.true_eq_false, and_self, beq_iff_eq, beq_eq_false_iff_ne, ne_eq, Int.toNat_natCast, Bool.cond_false_right, Bool.cond_true_left, exists_prop, ge_iff_le, gt_iff_lt, List.length_singleton, List.length_nil, List.nil_append, List.append_eq, Bool.cond_false_left, Bool.cond_true_right, Bool.or_false, Bool.and_true, Bool.or_eq_false_iff, Bool.not_eq_true, bne_iff_ne, bne_eq_false_iff_eq] at h; exact h)
theorem vc43 (h : (
  ∀ (x : (Int × Int × Int × Unit) × Unit), inK IntKind.i64 x.1.1 ∧ inK IntKind.i64 x.1.2.1 ∧ inK IntKind.i64 x.1.2.2.1 → (x.1.1 == (2 : Int) || x.1.1 == (3 : Int)) = Sp.writes x.1)) : funI C43 (stpP C43) S43 L43 Try.f43 := by
  have e : funI C43 (stpP C43) S43 L43 Try.f43 = (
  ∀ (x : (Int × Int × Int × Unit) × Unit), True → (inK IntKind.i64 x.1.1 ∧ inK IntKind.i64 x.1.2.1 ∧ inK IntKind.i64 x.1.2.2.1 ∧ True) ∧ True → ((True ∧ True ∧ True) ∧ True) ∧ ((True ∧ True ∧ True ∧ True ∧ ((true && bif x.1.1 == (2 : Int) then false else true) = true → True) ∧ ((true && bif x.1.1 == (2 : Int) then false else true) = true → True) ∧ ((true && bif x.1.1 == (2 : Int) then false else true) = true → True) ∧ True ∧ True ∧ True) ∧ True) ∧ (bif x.1.1 == (2 : Int) then true else x.1.1 == (3 : Int)) = Sp.writes x.1) := by kernel_rfl
  rw [e]
  simp only [true_and, and_true, eq_self, forall_const, decide_eq_true_eq, decide_eq_false_iff_not, Int.not_lt, Int.not_le, Bool.and_eq_true, true_implies, implies_true, Bool.not_eq_true', Bool.not_eq_false', false_implies, Bool.false_eq_true, Bool.true_eq_false, and_self, beq_iff_eq, beq_eq_false_iff_ne, ne_eq, Int.toNat_natCast, Bool.cond_false_right, Bool.cond_true_left, exists_prop, ge_iff_le, gt_iff_lt, List.length_singleton, List.length_nil, List.nil_append, List.append_eq, Bool.cond_false_left, Bool.cond_true_right, Bool.or_false, Bool.and_true, Bool.or_eq_false_iff, Bool.not_eq_true, bne_iff_ne, bne_eq_false_iff_eq]
  all_goals first | exact h | (simp only [true_and, and_true, eq_self, forall_const, decide_eq_true_eq, decide_eq_false_iff_not, Int.not_lt, Int.not_le, Bool.and_eq_true, true_implies, implies_true, Bool.not_eq_true', Bool.not_eq_false', false_implies, Bool.false_eq_true, Bool.true_eq_false, and_self, beq_iff_eq, beq_eq_false_iff_ne, ne_eq, Int.toNat_natCast, Bool.cond_false_right, Bool.cond_true_left, exists_prop, ge_iff_le, gt_iff_lt, List.length_singleton, List.length_nil, List.nil_append, List.append_eq, Bool.cond_false_left, Bool.cond_true_right, Bool.or_false, Bool.and_true, Bool.or_eq_false_iff, Bool.not_eq_true, bne_iff_ne, bne_eq_false_iff_eq] at h; exact h)
theorem vc37 (h : (
  ∀ (x : (Int × Int × Int × Unit) × Unit), inK IntKind.i64 x.1.1 ∧ inK IntKind.i64 x.1.2.1 ∧ inK IntKind.i64 x.1.2.2.1 → (x.1.1 == (1 : Int) || x.1.1 == (3 : Int)) = Sp.reads x.1)) : funI C37 (stpP C37) S37 L37 Try.f37 := by
  have e : funI C37 (stpP C37) S37 L37 Try.f37 = (
  ∀ (x : (Int × Int × Int × Unit) × Unit), True → (inK IntKind.i64 x.1.1 ∧ inK IntKind.i64 x.1.2.1 ∧ inK IntKind.i64 x.1.2.2.1 ∧ True) ∧ True → ((True ∧ True ∧ True) ∧ True) ∧ ((True ∧ True ∧ True ∧ True ∧ ((true && bif x.1.1 == (1 : Int) then false else true) = true → True) ∧ ((true && bif x.1.1 == (1 : Int) then false else true) = true → True) ∧ ((true && bif x.1.1 == (1 : Int) then false else true) = true → True) ∧ True ∧ True ∧ True) ∧ True) ∧ (bif x.1.1 == (1 : Int) then true else x.1.1 == (3 : Int)) = Sp.reads x.1) := by kernel_rfl
  rw [e]
  simp only [true_and, and_true, eq_self, forall_const, decide_eq_true_eq, decide_eq_false_iff_not, Int.not_lt, Int.not_le, Bool.and_eq_true, true_implies, implies_true, Bool.not_eq_true', Bool.not_eq_false', false_implies, Bool.false_eq_true, Bool.true_eq_false, and_self, beq_iff_eq, beq_eq_false_iff_ne, ne_eq, Int.toNat_natCast, Bool.cond_false_right, Bool.cond_true_left, exists_prop, ge_iff_le, gt_iff_lt, List.length_singleton, List.length_nil, List.nil_append, List.append_eq, Bool.cond_false_left, Bool.cond_true_right, Bool.or_false, Bool.and_true, Bool.or_eq_false_iff, Bool.not_eq_true, bne_iff_ne, bne_eq_false_iff_eq]
  all_goals first | exact h | (simp only [true_and, and_true, eq_self, forall_const, decide_eq_true_eq, decide_eq_false_iff_not, Int.not_lt, Int.not_le, Bool.and_eq_true, true_implies, implies_true, Bool.not_eq_true', Bool.not_eq_false', false_implies, Bool.false_eq_true, Bool.true_eq_false, and_self, beq_iff_eq, beq_eq_false_iff_ne, ne_eq, Int.toNat_natCast, Bool.cond_false_right, Bool.cond_true_left, exists_prop, ge_iff_le, gt_iff_lt, List.length_singleton, List.length_nil, List.nil_append, List.append_eq, Bool.cond_false_left, Bool.cond_true_right, Bool.or_false, Bool.and_true, Bool.or_eq_false_iff, Bool.not_eq_true, bne_iff_ne, bne_eq_false_iff_eq] at h; exact h)
theorem vc32 (h : (
  ∀ (x : (Int × Int × Int × Unit) × Unit), inK IntKind.i64 x.1.1 ∧ inK IntKind.i64 x.1.2.1 ∧ inK IntKind.i64 x.1.2.2.1 → (x.1.1 == (2 : Int) || x.1.1 == (3 : Int)) = Sp.writes x.1)) : funI C32 (stpP C32) S32 L32 Try.f32 := by
  have e : funI C32 (stpP C32) S32 L32 Try.f32 = (
  ∀ (x : (Int × Int × Int × Unit) × Unit), True → (inK IntKind.i64 x.1.1 ∧ inK IntKind.i64 x.1.2.1 ∧ inK IntKind.i64 x.1.2.2.1 ∧ True) ∧ True → ((True ∧ True ∧ True) ∧ True) ∧ ((True ∧ True ∧ True ∧ True ∧ ((true && bif x.1.1 == (2 : Int) then false else true) = true → True) ∧ ((true && bif x.1.1 == (2 : Int) then false else true) = true → True) ∧ ((true && bif x.1.1 == (2 : Int) then false else true) = true → True) ∧ True ∧ True ∧ True) ∧ True) ∧ (bif x.1.1 == (2 : Int) then true else x.1.1 == (3 : Int)) = Sp.writes x.1) := by kernel_rfl
  rw [e]
  simp only [true_and, and_true, eq_self, forall_const, decide_eq_true_eq, decide_eq_false_iff_not, Int.not_lt, Int.not_le, Bool.and_eq_true, true_implies, implies_true, Bool.not_eq_true', Bool.not_eq_false', false_implies, Bool.false_eq_true, Bool.true_eq_false, and_self, beq_iff_eq, beq_eq_false_iff_ne, ne_eq, Int.toNat_natCast, Bool.cond_false_right, Bool.cond_true_left, exists_prop, ge_iff_le, gt_iff_lt, List.length_singleton, List.length_nil, List.nil_append, List.append_eq, Bool.cond_false_left, Bool.cond_true_right, Bool.or_false, Bool.and_true, Bool.or_eq_false_iff, Bool.not_eq_true, bne_iff_ne, bne_eq_false_iff_eq]
  all_goals first | exact h | (simp only [true_and, and_true, eq_self, forall_const, decide_eq_true_eq, decide_eq_false_iff_not, Int.not_lt, Int.not_le, Bool.and_eq_true, true_implies, implies_true, Bool.not_eq_true', Bool.not_eq_false', false_implies, Bool.false_eq_true, Bool.true_eq_false, and_self, beq_iff_eq, beq_eq_false_iff_ne, ne_eq, Int.toNat_natCast, Bool.cond_false_right, Bool.cond_true_left, exists_prop, ge_iff_le, gt_iff_lt, List.length_singleton, List.length_nil, List.nil_append, List.append_eq, Bool.cond_false_left, Bool.cond_true_right, Bool.or_false, Bool.and_true, Bool.or_eq_false_iff, Bool.not_eq_true, bne_iff_ne, bne_eq_false_iff_eq] at h; exact h)
theorem vc62 (h : (
  ∀ (x : (Int × Int × Int × Unit) × Unit), inK IntKind.i64 x.1.1 ∧ inK IntKind.i64 x.1.2.1 ∧ inK IntKind.i64 x.1.2.2.1 → (x.1.1 = (4 : Int) → (decide (x.1.1 = (4 : Int)) && (decide (x.1.2.1 = (0 : Int)) && decide (x.1.2.2.1 = (0 : Int)))) = Sp.usual x.1) ∧ (¬x.1.1 = (4 : Int) → (x.1.1 = (1 : Int) → (decide ((0 : Int) ≤ x.1.2.1) && decide (x.1.2.1 < (3 : Int)) && x.1.2.2.1 == (0 : Int)) = Sp.usual x.1) ∧ (¬x.1.1 = (1 : Int) → (x.1.1 = (2 : Int) → (x.1.1 = (2 : Int) → (decide ((0 : Int) ≤ x.1.2.1) && decide (x.1.2.1 < (3 : Int)) && decide ((-100 : Int) ≤ x.1.2.2.1) && decide (x.1.2.2.1 ≤ (100 : Int))) = Sp.usual x.1) ∧ (¬x.1.1 = (2 : Int) → false = Sp.usual x.1)) ∧ (¬x.1.1 = (2 : Int) → (x.1.1 = (3 : Int) → (decide ((0 : Int) ≤ x.1.2.1) && decide (x.1.2.1 < (3 : Int)) && decide ((-100 : Int) ≤ x.1.2.2.1) && decide (x.1.2.2.1 ≤ (100 : Int))) = Sp.usual x.1) ∧ (¬x.1.1 = (3 : Int) → false = Sp.usual x.1)))))) : funI C62 (stpP C62) S62 L62 Try.f62 := by
  have e : funI C62 (stpP C62) S62 L62 Try.f62 = (
  ∀ (x : (Int × Int × Int × Unit) × Unit), True → (inK IntKind.i64 x.1.1 ∧ inK IntKind.i64 x.1.2.1 ∧ inK IntKind.i64 x.1.2.2.1 ∧ True) ∧ True → ((True ∧ True ∧ True) ∧ True) ∧ ((True ∧ True ∧ True) ∧ True) ∧ ((True ∧ True ∧ True) ∧ True) ∧ ((x.1.1 == (4 : Int)) = true → ((True ∧ True ∧ True ∧ True ∧ True) ∧ True) ∧ (decide (x.1.1 = (4 : Int)) && (decide (x.1.2.1 = (0 : Int)) && (decide (x.1.2.2.1 = (0 : Int)) && true))) = Sp.usual x.1) ∧ ((x.1.1 == (4 : Int)) = false → ((True ∧ True ∧ True) ∧ True) ∧ ((x.1.1 == (1 : Int)) = true → ((True ∧ True ∧ True ∧ True ∧ ((true && bif decide ((0 : Int) ≤ x.1.2.1) then true else false) = true → True) ∧ ((true && bif decide ((0 : Int) ≤ x.1.2.1) then true else false) = true → True) ∧ ((true && bif decide ((0 : Int) ≤ x.1.2.1) then true else false) = true → True) ∧ True ∧ True ∧ ((true && bif bif decide ((0 : Int) ≤ x.1.2.1) then decide (x.1.2.1 < (3 : Int)) else false then true else false) = true → True) ∧ ((true && bif bif decide ((0 : Int) ≤ x.1.2.1) then decide (x.1.2.1 < (3 : Int)) else false then true else false) = true → True) ∧ ((true && bif bif decide ((0 : Int) ≤ x.1.2.1) then decide (x.1.2.1 < (3 : Int)) else false then true else false) = true → True) ∧ True ∧ True ∧ True) ∧ True) ∧ (bif bif decide ((0 : Int) ≤ x.1.2.1) then decide (x.1.2.1 < (3 : Int)) else false then x.1.2.2.1 == (0 : Int) else false) = Sp.usual x.1) ∧ ((x.1.1 == (1 : Int)) = false → ((True ∧ True ∧ True) ∧ True) ∧ ((x.1.1 == (2 : Int)) = true → ((x.1.1 == (2 : Int)) = true → ((True ∧ True ∧ True ∧ True ∧ ((true && bif decide ((0 : Int) ≤ x.1.2.1) then true else false) = true → True) ∧ ((true && bif decide ((0 : Int) ≤ x.1.2.1) then true else false) = true → True) ∧ ((true && bif decide ((0 : Int) ≤ x.1.2.1) then true else false) = true → True) ∧ True ∧ True ∧ ((true && bif bif decide ((0 : Int) ≤ x.1.2.1) then decide (x.1.2.1 < (3 : Int)) else false then true else false) = true → True) ∧ ((true && bif bif decide ((0 : Int) ≤ x.1.2.1) then decide (x.1.2.1 < (3 : Int)) else false then true else false) = true → True) ∧ ((true && bif bif decide ((0 : Int) ≤ x.1.2.1) then decide (x.1.2.1 < (3 : Int)) else false then true else false) = true → True) ∧ True ∧ True ∧ ((true && bif bif bif decide ((0 : Int) ≤ x.1.2.1) then decide (x.1.2.1 < (3 : Int)) else false then decide ((-100 : Int) ≤ x.1.2.2.1) else false then true else false) = true → True) ∧ ((true && bif bif bif decide ((0 : Int) ≤ x.1.2.1) then decide (x.1.2.1 < (3 : Int)) else false then decide ((-100 : Int) ≤ x.1.2.2.1) else false then true else false) = true → True) ∧ ((true && bif bif bif decide ((0 : Int) ≤ x.1.2.1) then decide (x.1.2.1 < (3 : Int)) else false then decide ((-100 : Int) ≤ x.1.2.2.1) else false then true else false) = true → True) ∧ True ∧ True ∧ True) ∧ True) ∧ (bif bif bif decide ((0 : Int) ≤ x.1.2.1) then decide (x.1.2.1 < (3 : Int)) else false then decide ((-100 : Int) ≤ x.1.2.2.1) else false then decide (x.1.2.2.1 ≤ (100 : Int)) else false) = Sp.usual x.1) ∧ ((x.1.1 == (2 : Int)) = false → ((True ∧ True) ∧ True) ∧ false = Sp.usual x.1)) ∧ ((x.1.1 == (2 : Int)) = false → ((True ∧ True ∧ True) ∧ True) ∧ ((x.1.1 == (3 : Int)) = true → ((True ∧ True ∧ True ∧ True ∧ ((true && bif decide ((0 : Int) ≤ x.1.2.1) then true else false) = true → True) ∧ ((true && bif decide ((0 : Int) ≤ x.1.2.1) then true else false) = true → True) ∧ ((true && bif decide ((0 : Int) ≤ x.1.2.1) then true else false) = true → True) ∧ True ∧ True ∧ ((true && bif bif decide ((0 : Int) ≤ x.1.2.1) then decide (x.1.2.1 < (3 : Int)) else false then true else false) = true → True) ∧ ((true && bif bif decide ((0 : Int) ≤ x.1.2.1) then decide (x.1.2.1 < (3 : Int)) else false then true else false) = true → True) ∧ ((true && bif bif decide ((0 : Int) ≤ x.1.2.1) then decide (x.1.2.1 < (3 : Int)) else false then true else false) = true → True) ∧ True ∧ True ∧ ((true && bif bif bif decide ((0 : Int) ≤ x.1.2.1) then decide (x.1.2.1 < (3 : Int)) else false then decide ((-100 : Int) ≤ x.1.2.2.1) else false then true else false) = true → True) ∧ ((true && bif bif bif decide ((0 : Int) ≤ x.1.2.1) then decide (x.1.2.1 < (3 : Int)) else false then decide ((-100 : Int) ≤ x.1.2.2.1) else false then true else false) = true → True) ∧ ((true && bif bif bif decide ((0 : Int) ≤ x.1.2.1) then decide (x.1.2.1 < (3 : Int)) else false then decide ((-100 : Int) ≤ x.1.2.2.1) else false then true else false) = true → True) ∧ True ∧ True ∧ True) ∧ True) ∧ (bif bif bif decide ((0 : Int) ≤ x.1.2.1) then decide (x.1.2.1 < (3 : Int)) else false then decide ((-100 : Int) ≤ x.1.2.2.1) else false then decide (x.1.2.2.1 ≤ (100 : Int)) else false) = Sp.usual x.1) ∧ ((x.1.1 == (3 : Int)) = false → ((True ∧ True) ∧ True) ∧ false = Sp.usual x.1))))) := by kernel_rfl
  rw [e]
  simp only [true_and, and_true, eq_self, forall_const, decide_eq_true_eq, decide_eq_false_iff_not, Int.not_lt, Int.not_le, Bool.and_eq_true, true_implies, implies_true, Bool.not_eq_true', Bool.not_eq_false', false_implies, Bool.false_eq_true, Bool.true_eq_false, and_self, beq_iff_eq, beq_eq_false_iff_ne, ne_eq, Int.toNat_natCast, Bool.cond_false_right, Bool.cond_true_left, exists_prop, ge_iff_le, gt_iff_lt, List.length_singleton, List.length_nil, List.nil_append, List.append_eq, Bool.cond_false_left, Bool.cond_true_right, Bool.or_false, Bool.and_true, Bool.or_eq_false_iff, Bool.not_eq_true, bne_iff_ne, bne_eq_false_iff_eq]
  all_goals first | exact h | (simp only [true_and, and_true, eq_self, forall_const, decide_eq_true_eq, decide_eq_false_iff_not, Int.not_lt, Int.not_le, Bool.and_eq_true, true_implies, implies_true, Bool.not_eq_true', Bool.not_eq_false', false_implies, Bool.false_eq_true, Bool.true_eq_false, and_self, beq_iff_eq, beq_eq_false_iff_ne, ne_eq, Int.toNat_natCast, Bool.cond_false_right, Bool.cond_true_left, exists_prop, ge_iff_le, gt_iff_lt, List.length_singleton, List.length_nil, List.nil_append, List.append_eq, Bool.cond_false_left, Bool.cond_true_right, Bool.or_false, Bool.and_true, Bool.or_eq_false_iff, Bool.not_eq_true, bne_iff_ne, bne_eq_false_iff_eq] at h; exact h)
theorem vc61 (h : (
  ∀ (x : (Int × (Int × Int × Int × Unit) × Int × Unit) × Unit), inK IntKind.i64 x.1.1 ∧ (inK IntKind.i64 x.1.2.1.1 ∧ inK IntKind.i64 x.1.2.1.2.1 ∧ inK IntKind.i64 x.1.2.1.2.2.1) ∧ inK IntKind.i64 x.1.2.2.1 → (!Sp.usual x.1.2.1) = !Sp.usual x.1.2.1)) : funI C61 (stpP C61) S61 L61 Try.f61 := by
  have e : funI C61 (stpP C61) S61 L61 Try.f61 = (
  ∀ (x : (Int × (Int × Int × Int × Unit) × Int × Unit) × Unit), True → (inK IntKind.i64 x.1.1 ∧ (inK IntKind.i64 x.1.2.1.1 ∧ inK IntKind.i64 x.1.2.1.2.1 ∧ inK IntKind.i64 x.1.2.1.2.2.1 ∧ True) ∧ inK IntKind.i64 x.1.2.2.1 ∧ True) ∧ True → ((True ∧ True ∧ True) ∧ True) ∧ ((True ∧ True ∧ True ∧ True ∧ True ∧ True) ∧ True) ∧ (!Sp.usual x.1.2.1) = !Sp.usual x.1.2.1) := by kernel_rfl
  rw [e]
  simp only [true_and, and_true, eq_self, forall_const, decide_eq_true_eq, decide_eq_false_iff_not, Int.not_lt, Int.not_le, Bool.and_eq_true, true_implies, implies_true, Bool.not_eq_true', Bool.not_eq_false', false_implies, Bool.false_eq_true, Bool.true_eq_false, and_self, beq_iff_eq, beq_eq_false_iff_ne, ne_eq, Int.toNat_natCast, Bool.cond_false_right, Bool.cond_true_left, exists_prop, ge_iff_le, gt_iff_lt, List.length_singleton, List.length_nil, List.nil_append, List.append_eq, Bool.cond_false_left, Bool.cond_true_right, Bool.or_false, Bool.and_true, Bool.or_eq_false_iff, Bool.not_eq_true, bne_iff_ne, bne_eq_false_iff_eq]
  all_goals first | exact h | (simp only [true_and, and_true, eq_self, forall_const, decide_eq_true_eq, decide_eq_false_iff_not, Int.not_lt, Int.not_le, Bool.and_eq_true, true_implies, implies_true, Bool.not_eq_true', Bool.not_eq_false', false_implies, Bool.false_eq_true, Bool.true_eq_false, and_self, beq_iff_eq, beq_eq_false_iff_ne, ne_eq, Int.toNat_natCast, Bool.cond_false_right, Bool.cond_true_left, exists_prop, ge_iff_le, gt_iff_lt, List.length_singleton, List.length_nil, List.nil_append, List.append_eq, Bool.cond_false_left, Bool.cond_true_right, Bool.or_false, Bool.and_true, Bool.or_eq_false_iff, Bool.not_eq_true, bne_iff_ne, bne_eq_false_iff_eq] at h; exact h)
theorem vc64 (h : (
  ∀ (x : List (Int × (Int × Int × Int × Unit) × Int × Unit) × Fun (tLEv :: ([] : List Ty)) Ty.bool × Unit), (∀ (e : Int × (Int × Int × Int × Unit) × Int × Unit), x.2.1.1 (e, ())) → (x.1.length ≤ lim ∧ ∀ (x_1 : Int × (Int × Int × Int × Unit) × Int × Unit), x_1 ∈ x.1 → inK IntKind.i64 x_1.1 ∧ (inK IntKind.i64 x_1.2.1.1 ∧ inK IntKind.i64 x_1.2.1.2.1 ∧ inK IntKind.i64 x_1.2.1.2.2.1) ∧ inK IntKind.i64 x_1.2.2.1) → (∃ (x_1 : Nat), (x_1 ≤ x.1.length ∧ ∀ (e : Int × (Int × Int × Int × Unit) × Int × Unit), e ∈ List.take x_1 x.1 → x.2.1.2 (e, ()) = false) ∧ (0 : Int) = (↑x_1 : Int)) ∧ ∀ (x_1 : Nat), (x_1 ≤ x.1.length ∧ ∀ (e : Int × (Int × Int × Int × Unit) × Int × Unit), e ∈ List.take x_1 x.1 → x.2.1.2 (e, ()) = false) → inK IntKind.i64 (↑x_1 : Int) → ((↑x_1 : Int) < (↑x.1.length : Int) → (inN (↑x_1 : Int) x.1.length ∧ x.2.1.1 (x.1.getD x_1 ((0 : Int), ((0 : Int), (0 : Int), (0 : Int), ()), (0 : Int), ()), ())) ∧ (x.2.1.2 (x.1.getD x_1 ((0 : Int), ((0 : Int), (0 : Int), (0 : Int), ()), (0 : Int), ()), ()) = true → (↑x_1 : Int) = Sp.findI (fun (e : Sp.LEv) => x.2.1.2 (e, ())) x.1) ∧ (x.2.1.2 (x.1.getD x_1 ((0 : Int), ((0 : Int), (0 : Int), (0 : Int), ()), (0 : Int), ()), ()) = false → inK IntKind.i64 ((↑x_1 : Int) + (1 : Int)) ∧ ∃ (y : Nat), (y ≤ x.1.length ∧ ∀ (e : Int × (Int × Int × Int × Unit) × Int × Unit), e ∈ List.take y x.1 → x.2.1.2 (e, ()) = false) ∧ x.1.length - y < x.1.length - x_1 ∧ (↑x_1 : Int) + (1 : Int) = (↑y : Int))) ∧ ((↑x.1.length : Int) ≤ (↑x_1 : Int) → (-1 : Int) = Sp.findI (fun (e : Sp.LEv) => x.2.1.2 (e, ())) x.1))) : funI C64 (stpP C64) S64 L64 Try.f64 := by
  have e : funI C64 (stpP C64) S64 L64 Try.f64 = (
  ∀ (x : List (Int × (Int × Int × Int × Unit) × Int × Unit) × Fun (tLEv :: ([] : List Ty)) Ty.bool × Unit), (∀ (e : Int × (Int × Int × Int × Unit) × Int × Unit), x.2.1.1 (e, ())) → (x.1.length ≤ lim ∧ ∀ (x_1 : Int × (Int × Int × Int × Unit) × Int × Unit), x_1 ∈ x.1 → inK IntKind.i64 x_1.1 ∧ (inK IntKind.i64 x_1.2.1.1 ∧ inK IntKind.i64 x_1.2.1.2.1 ∧ inK IntKind.i64 x_1.2.1.2.2.1 ∧ True) ∧ inK IntKind.i64 x_1.2.2.1 ∧ True) ∧ True → ((True ∧ True) ∧ True) ∧ ((True ∧ True ∧ True ∧ True) ∧ True) ∧ (∃ (x_1 : Nat), (x_1 ≤ x.1.length ∧ ∀ (e : Int × (Int × Int × Int × Unit) × Int × Unit), e ∈ List.take x_1 x.1 → x.2.1.2 (e, ()) = false) ∧ (0 : Int) = (↑x_1 : Int) ∧ x.1 = x.1 ∧ (∃ (h1 : tLEv :: ([] : List Ty) = tLEv :: ([] : List Ty)), ∃ (h2 : Ty.bool = Ty.bool), x.2.1 = x.2.1) ∧ (↑x.1.length : Int) = (↑x.1.length : Int) ∧ True) ∧ ∀ (x_1 : Nat), (x_1 ≤ x.1.length ∧ ∀ (e : Int × (Int × Int × Int × Unit) × Int × Unit), e ∈ List.take x_1 x.1 → x.2.1.2 (e, ()) = false) → inK IntKind.i64 (↑x_1 : Int) ∧ True → ((True ∧ True) ∧ True) ∧ (decide ((↑x_1 : Int) < (↑x.1.length : Int)) = true → ((True ∧ True ∧ True) ∧ True) ∧ ((True ∧ True ∧ True ∧ inN (↑x_1 : Int) x.1.length ∧ True ∧ x.2.1.1 (x.1.getD (↑x_1 : Int).toNat ((0 : Int), ((0 : Int), (0 : Int), (0 : Int), ()), (0 : Int), ()), ()) ∧ True) ∧ True) ∧ (x.2.1.2 (x.1.getD (↑x_1 : Int).toNat ((0 : Int), ((0 : Int), (0 : Int), (0 : Int), ()), (0 : Int), ()), ()) = true → ((True ∧ True ∧ True) ∧ True) ∧ (↑x_1 : Int) = Sp.findI (fun (e : Sp.LEv) => x.2.1.2 (e, ())) x.1) ∧ (x.2.1.2 (x.1.getD (↑x_1 : Int).toNat ((0 : Int), ((0 : Int), (0 : Int), (0 : Int), ()), (0 : Int), ()), ()) = false → ((inK IntKind.i64 ((↑x_1 : Int) + (1 : Int)) ∧ True ∧ True) ∧ True) ∧ ∃ (y : Nat), (y ≤ x.1.length ∧ ∀ (e : Int × (Int × Int × Int × Unit) × Int × Unit), e ∈ List.take y x.1 → x.2.1.2 (e, ()) = false) ∧ x.1.length - y < x.1.length - x_1 ∧ (↑x_1 : Int) + (1 : Int) = (↑y : Int) ∧ x.1 = x.1 ∧ (∃ (h1 : tLEv :: ([] : List Ty) = tLEv :: ([] : List Ty)), ∃ (h2 : Ty.bool = Ty.bool), x.2.1 = x.2.1) ∧ (↑x.1.length : Int) = (↑x.1.length : Int) ∧ True)) ∧ (decide ((↑x_1 : Int) < (↑x.1.length : Int)) = false → ((True ∧ True) ∧ True) ∧ (-1 : Int) = Sp.findI (fun (e : Sp.LEv) => x.2.1.2 (e, ())) x.1)) := by kernel_rfl
  rw [e]
  simp only [true_and, and_true, eq_self, forall_const, decide_eq_true_eq, decide_eq_false_iff_not, Int.not_lt, Int.not_le, Bool.and_eq_true, true_implies, implies_true, Bool.not_eq_true', Bool.not_eq_false', false_implies, Bool.false_eq_true, Bool.true_eq_false, and_self, beq_iff_eq, beq_eq_false_iff_ne, ne_eq, Int.toNat_natCast, Bool.cond_false_right, Bool.cond_true_left, exists_prop, ge_iff_le, gt_iff_lt, List.length_singleton, List.length_nil, List.nil_append, List.append_eq, Bool.cond_false_left, Bool.cond_true_right, Bool.or_false, Bool.and_true, Bool.or_eq_false_iff, Bool.not_eq_true, bne_iff_ne, bne_eq_false_iff_eq]
  all_goals first | exact h | (simp only [true_and, and_true, eq_self, forall_const, decide_eq_true_eq, decide_eq_false_iff_not, Int.not_lt, Int.not_le, Bool.and_eq_true, true_implies, implies_true, Bool.not_eq_true', Bool.not_eq_false', false_implies, Bool.false_eq_true, Bool.true_eq_false, and_self, beq_iff_eq, beq_eq_false_iff_ne, ne_eq, Int.toNat_natCast, Bool.cond_false_right, Bool.cond_true_left, exists_prop, ge_iff_le, gt_iff_lt, List.length_singleton, List.length_nil, List.nil_append, List.append_eq, Bool.cond_false_left, Bool.cond_true_right, Bool.or_false, Bool.and_true, Bool.or_eq_false_iff, Bool.not_eq_true, bne_iff_ne, bne_eq_false_iff_eq] at h; exact h)
theorem vc60 (h : (
  ∀ (x : List (Int × (Int × Int × Int × Unit) × Int × Unit) × Fun (tLEv :: ([] : List Ty)) Ty.bool × Unit), (∀ (e : Int × (Int × Int × Int × Unit) × Int × Unit), x.2.1.1 (e, ())) → (x.1.length ≤ lim ∧ ∀ (x_1 : Int × (Int × Int × Int × Unit) × Int × Unit), x_1 ∈ x.1 → inK IntKind.i64 x_1.1 ∧ (inK IntKind.i64 x_1.2.1.1 ∧ inK IntKind.i64 x_1.2.1.2.1 ∧ inK IntKind.i64 x_1.2.1.2.2.1) ∧ inK IntKind.i64 x_1.2.2.1) → (∀ (e : Int × (Int × Int × Int × Unit) × Int × Unit), x.2.1.1 (e, ())) ∧ decide ((0 : Int) ≤ Sp.findI (fun (e : Sp.LEv) => x.2.1.2 (e, ())) x.1) = x.1.any fun (e : tLEv.den) => x.2.1.2 (e, ()))) : funI C60 (stpP C60) S60 L60 Try.f60 := by
  have e : funI C60 (stpP C60) S60 L60 Try.f60 = (
  ∀ (x : List (Int × (Int × Int × Int × Unit) × Int × Unit) × Fun (tLEv :: ([] : List Ty)) Ty.bool × Unit), (∀ (e : Int × (Int × Int × Int × Unit) × Int × Unit), x.2.1.1 (e, ())) → (x.1.length ≤ lim ∧ ∀ (x_1 : Int × (Int × Int × Int × Unit) × Int × Unit), x_1 ∈ x.1 → inK IntKind.i64 x_1.1 ∧ (inK IntKind.i64 x_1.2.1.1 ∧ inK IntKind.i64 x_1.2.1.2.1 ∧ inK IntKind.i64 x_1.2.1.2.2.1 ∧ True) ∧ inK IntKind.i64 x_1.2.2.1 ∧ True) ∧ True → ((True ∧ True) ∧ True) ∧ ((True ∧ True ∧ (∀ (e : Int × (Int × Int × Int × Unit) × Int × Unit), x.2.1.1 (e, ())) ∧ True ∧ True ∧ True) ∧ True) ∧ decide (Sp.findI (fun (e : Sp.LEv) => x.2.1.2 (e, ())) x.1 ≥ (0 : Int)) = x.1.any fun (e : tLEv.den) => x.2.1.2 (e, ())) := by kernel_rfl
  rw [e]
  simp only [true_and, and_true, eq_self, forall_const, decide_eq_true_eq, decide_eq_false_iff_not, Int.not_lt, Int.not_le, Bool.and_eq_true, true_implies, implies_true, Bool.not_eq_true', Bool.not_eq_false', false_implies, Bool.false_eq_true, Bool.true_eq_false, and_self, beq_iff_eq, beq_eq_false_iff_ne, ne_eq, Int.toNat_natCast, Bool.cond_false_right, Bool.cond_true_left, exists_prop, ge_iff_le, gt_iff_lt, List.length_singleton, List.length_nil, List.nil_append, List.append_eq, Bool.cond_false_left, Bool.cond_true_right, Bool.or_false, Bool.and_true, Bool.or_eq_false_iff, Bool.not_eq_true, bne_iff_ne, bne_eq_false_iff_eq]
  all_goals first | exact h | (simp only [true_and, and_true, eq_self, forall_const, decide_eq_true_eq, decide_eq_false_iff_not, Int.not_lt, Int.not_le, Bool.and_eq_true, true_implies, implies_true, Bool.not_eq_true', Bool.not_eq_false', false_implies, Bool.false_eq_true, Bool.true_eq_false, and_self, beq_iff_eq, beq_eq_false_iff_ne, ne_eq, Int.toNat_natCast, Bool.cond_false_right, Bool.cond_true_left, exists_prop, ge_iff_le, gt_iff_lt, List.length_singleton, List.length_nil, List.nil_append, List.append_eq, Bool.cond_false_left, Bool.cond_true_right, Bool.or_false, Bool.and_true, Bool.or_eq_false_iff, Bool.not_eq_true, bne_iff_ne, bne_eq_false_iff_eq] at h; exact h)
theorem vc40 (h : (
  ∀ (x : (List (Int × (Int × Int × Int × Unit) × Int × Unit) × List Int × List (List Int) × List Int × Unit) × Int × Unit), x.2.1 < (↑x.1.1.length : Int) → ((x.1.1.length ≤ lim ∧ ∀ (x_1 : Int × (Int × Int × Int × Unit) × Int × Unit), x_1 ∈ x.1.1 → inK IntKind.i64 x_1.1 ∧ (inK IntKind.i64 x_1.2.1.1 ∧ inK IntKind.i64 x_1.2.1.2.1 ∧ inK IntKind.i64 x_1.2.1.2.2.1) ∧ inK IntKind.i64 x_1.2.2.1) ∧ (x.1.2.1.length ≤ lim ∧ ∀ (x_1 : Int), x_1 ∈ x.1.2.1 → inK IntKind.i64 x_1) ∧ (x.1.2.2.1.length ≤ lim ∧ ∀ (x_1 : List Int), x_1 ∈ x.1.2.2.1 → x_1.length ≤ lim ∧ ∀ (x : Int), x ∈ x_1 → inK IntKind.i64 x) ∧ x.1.2.2.2.1.length ≤ lim ∧ ∀ (x_1 : Int), x_1 ∈ x.1.2.2.2.1 → inK IntKind.i64 x_1) ∧ inK IntKind.i64 x.2.1 → (x.2.1 < (0 : Int) → (0 : Int) = Sp.value x.1.1 x.2.1) ∧ ((0 : Int) ≤ x.2.1 → inN x.2.1 x.1.1.length ∧ ((x.1.1.getD x.2.1.toNat ((0 : Int), ((0 : Int), (0 : Int), (0 : Int), ()), (0 : Int), ())).2.1.1 = (3 : Int) → inN x.2.1 x.1.1.length ∧ IntKind.i64.wrap ((x.1.1.getD x.2.1.toNat ((0 : Int), ((0 : Int), (0 : Int), (0 : Int), ()), (0 : Int), ())).2.2.1 + (x.1.1.getD x.2.1.toNat ((0 : Int), ((0 : Int), (0 : Int), (0 : Int), ()), (0 : Int), ())).2.1.2.2.1) = Sp.value x.1.1 x.2.1) ∧ (¬(x.1.1.getD x.2.1.toNat ((0 : Int), ((0 : Int), (0 : Int), (0 : Int), ()), (0 : Int), ())).2.1.1 = (3 : Int) → inN x.2.1 x.1.1.length ∧ (x.1.1.getD x.2.1.toNat ((0 : Int), ((0 : Int), (0 : Int), (0 : Int), ()), (0 : Int), ())).2.1.2.2.1 = Sp.value x.1.1 x.2.1)))) : funI C40 (stpP C40) S40 L40 Try.f40 := by
  have e : funI C40 (stpP C40) S40 L40 Try.f40 = (
  ∀ (x : (List (Int × (Int × Int × Int × Unit) × Int × Unit) × List Int × List (List Int) × List Int × Unit) × Int × Unit), x.2.1 < (↑x.1.1.length : Int) → ((x.1.1.length ≤ lim ∧ ∀ (x_1 : Int × (Int × Int × Int × Unit) × Int × Unit), x_1 ∈ x.1.1 → inK IntKind.i64 x_1.1 ∧ (inK IntKind.i64 x_1.2.1.1 ∧ inK IntKind.i64 x_1.2.1.2.1 ∧ inK IntKind.i64 x_1.2.1.2.2.1 ∧ True) ∧ inK IntKind.i64 x_1.2.2.1 ∧ True) ∧ (x.1.2.1.length ≤ lim ∧ ∀ (x_1 : Int), x_1 ∈ x.1.2.1 → inK IntKind.i64 x_1) ∧ (x.1.2.2.1.length ≤ lim ∧ ∀ (x_1 : List Int), x_1 ∈ x.1.2.2.1 → x_1.length ≤ lim ∧ ∀ (x : Int), x ∈ x_1 → inK IntKind.i64 x) ∧ (x.1.2.2.2.1.length ≤ lim ∧ ∀ (x_1 : Int), x_1 ∈ x.1.2.2.2.1 → inK IntKind.i64 x_1) ∧ True) ∧ inK IntKind.i64 x.2.1 ∧ True → ((True ∧ True ∧ True) ∧ True) ∧ ((True ∧ True ∧ True) ∧ True) ∧ (decide (x.2.1 < (0 : Int)) = true → ((True ∧ True) ∧ True) ∧ (0 : Int) = Sp.value x.1.1 x.2.1) ∧ (decide (x.2.1 < (0 : Int)) = false → ((True ∧ True ∧ True ∧ inN x.2.1 x.1.1.length ∧ True ∧ True ∧ True ∧ True ∧ True) ∧ True) ∧ (((x.1.1.getD x.2.1.toNat ((0 : Int), ((0 : Int), (0 : Int), (0 : Int), ()), (0 : Int), ())).2.1.1 == (3 : Int)) = true → ((True ∧ True ∧ True ∧ inN x.2.1 x.1.1.length ∧ True ∧ True ∧ True ∧ True ∧ True ∧ inN x.2.1 x.1.1.length ∧ True ∧ True ∧ True ∧ True ∧ True ∧ True) ∧ True) ∧ IntKind.i64.wrap ((x.1.1.getD x.2.1.toNat ((0 : Int), ((0 : Int), (0 : Int), (0 : Int), ()), (0 : Int), ())).2.2.1 + (x.1.1.getD x.2.1.toNat ((0 : Int), ((0 : Int), (0 : Int), (0 : Int), ()), (0 : Int), ())).2.1.2.2.1) = Sp.value x.1.1 x.2.1) ∧ (((x.1.1.getD x.2.1.toNat ((0 : Int), ((0 : Int), (0 : Int), (0 : Int), ()), (0 : Int), ())).2.1.1 == (3 : Int)) = false → ((True ∧ True ∧ True ∧ inN x.2.1 x.1.1.length ∧ True ∧ True ∧ True ∧ True ∧ True) ∧ True) ∧ (x.1.1.getD x.2.1.toNat ((0 : Int), ((0 : Int), (0 : Int), (0 : Int), ()), (0 : Int), ())).2.1.2.2.1 = Sp.value x.1.1 x.2.1))) := by kernel_rfl
  rw [e]
  simp only [true_and, and_true, eq_self, forall_const, decide_eq_true_eq, decide_eq_false_iff_not, Int.not_lt, Int.not_le, Bool.and_eq_true, true_implies, implies_true, Bool.not_eq_true', Bool.not_eq_false', false_implies, Bool.false_eq_true, Bool.true_eq_false, and_self, beq_iff_eq, beq_eq_false_iff_ne, ne_eq, Int.toNat_natCast, Bool.cond_false_right, Bool.cond_true_left, exists_prop, ge_iff_le, gt_iff_lt, List.length_singleton, List.length_nil, List.nil_append, List.append_eq, Bool.cond_false_left, Bool.cond_true_right, Bool.or_false, Bool.and_true, Bool.or_eq_false_iff, Bool.not_eq_true, bne_iff_ne, bne_eq_false_iff_eq]
  all_goals first | exact h | (simp only [true_and, and_true, eq_self, forall_const, decide_eq_true_eq, decide_eq_false_iff_not, Int.not_lt, Int.not_le, Bool.and_eq_true, true_implies, implies_true, Bool.not_eq_true', Bool.not_eq_false', false_implies, Bool.false_eq_true, Bool.true_eq_false, and_self, beq_iff_eq, beq_eq_false_iff_ne, ne_eq, Int.toNat_natCast, Bool.cond_false_right, Bool.cond_true_left, exists_prop, ge_iff_le, gt_iff_lt, List.length_singleton, List.length_nil, List.nil_append, List.append_eq, Bool.cond_false_left, Bool.cond_true_right, Bool.or_false, Bool.and_true, Bool.or_eq_false_iff, Bool.not_eq_true, bne_iff_ne, bne_eq_false_iff_eq] at h; exact h)
theorem vc44 (h : (
  ∀ (x : (List (Int × (Int × Int × Int × Unit) × Int × Unit) × List Int × List (List Int) × List Int × Unit) × Int × Unit), x.2.1 < (↑x.1.1.length : Int) → ((x.1.1.length ≤ lim ∧ ∀ (x_1 : Int × (Int × Int × Int × Unit) × Int × Unit), x_1 ∈ x.1.1 → inK IntKind.i64 x_1.1 ∧ (inK IntKind.i64 x_1.2.1.1 ∧ inK IntKind.i64 x_1.2.1.2.1 ∧ inK IntKind.i64 x_1.2.1.2.2.1) ∧ inK IntKind.i64 x_1.2.2.1) ∧ (x.1.2.1.length ≤ lim ∧ ∀ (x_1 : Int), x_1 ∈ x.1.2.1 → inK IntKind.i64 x_1) ∧ (x.1.2.2.1.length ≤ lim ∧ ∀ (x_1 : List Int), x_1 ∈ x.1.2.2.1 → x_1.length ≤ lim ∧ ∀ (x : Int), x ∈ x_1 → inK IntKind.i64 x) ∧ x.1.2.2.2.1.length ≤ lim ∧ ∀ (x_1 : Int), x_1 ∈ x.1.2.2.2.1 → inK IntKind.i64 x_1) ∧ inK IntKind.i64 x.2.1 → (x.2.1 < (0 : Int) → (0 : Int) = Sp.value x.1.1 x.2.1) ∧ ((0 : Int) ≤ x.2.1 → inN x.2.1 x.1.1.length ∧ ((x.1.1.getD x.2.1.toNat ((0 : Int), ((0 : Int), (0 : Int), (0 : Int), ()), (0 : Int), ())).2.1.1 = (3 : Int) → inN x.2.1 x.1.1.length ∧ IntKind.i64.wrap ((x.1.1.getD x.2.1.toNat ((0 : Int), ((0 : Int), (0 : Int), (0 : Int), ()), (0 : Int), ())).2.2.1 + (x.1.1.getD x.2.1.toNat ((0 : Int), ((0 : Int), (0 : Int), (0 : Int), ()), (0 : Int), ())).2.1.2.2.1) = Sp.value x.1.1 x.2.1) ∧ (¬(x.1.1.getD x.2.1.toNat ((0 : Int), ((0 : Int), (0 : Int), (0 : Int), ()), (0 : Int), ())).2.1.1 = (3 : Int) → inN x.2.1 x.1.1.length ∧ (x.1.1.getD x.2.1.toNat ((0 : Int), ((0 : Int), (0 : Int), (0 : Int), ()), (0 : Int), ())).2.1.2.2.1 = Sp.value x.1.1 x.2.1)))) : funI C44 (stpP C44) S44 L44 Try.f44 := by
  have e : funI C44 (stpP C44) S44 L44 Try.f44 = (
  ∀ (x : (List (Int × (Int × Int × Int × Unit) × Int × Unit) × List Int × List (List Int) × List Int × Unit) × Int × Unit), x.2.1 < (↑x.1.1.length : Int) → ((x.1.1.length ≤ lim ∧ ∀ (x_1 : Int × (Int × Int × Int × Unit) × Int × Unit), x_1 ∈ x.1.1 → inK IntKind.i64 x_1.1 ∧ (inK IntKind.i64 x_1.2.1.1 ∧ inK IntKind.i64 x_1.2.1.2.1 ∧ inK IntKind.i64 x_1.2.1.2.2.1 ∧ True) ∧ inK IntKind.i64 x_1.2.2.1 ∧ True) ∧ (x.1.2.1.length ≤ lim ∧ ∀ (x_1 : Int), x_1 ∈ x.1.2.1 → inK IntKind.i64 x_1) ∧ (x.1.2.2.1.length ≤ lim ∧ ∀ (x_1 : List Int), x_1 ∈ x.1.2.2.1 → x_1.length ≤ lim ∧ ∀ (x : Int), x ∈ x_1 → inK IntKind.i64 x) ∧ (x.1.2.2.2.1.length ≤ lim ∧ ∀ (x_1 : Int), x_1 ∈ x.1.2.2.2.1 → inK IntKind.i64 x_1) ∧ True) ∧ inK IntKind.i64 x.2.1 ∧ True → ((True ∧ True ∧ True) ∧ True) ∧ ((True ∧ True ∧ True ∧ True) ∧ True) ∧ (decide (x.2.1 < (0 : Int)) = true → ((True ∧ True) ∧ True) ∧ (0 : Int) = Sp.value x.1.1 x.2.1) ∧ (decide (x.2.1 < (0 : Int)) = false → ((True ∧ True ∧ True ∧ inN x.2.1 x.1.1.length ∧ True ∧ True ∧ True ∧ True ∧ True ∧ True) ∧ True) ∧ (((x.1.1.getD x.2.1.toNat ((0 : Int), ((0 : Int), (0 : Int), (0 : Int), ()), (0 : Int), ())).2.1.1 == (3 : Int)) = true → ((True ∧ True ∧ True ∧ inN x.2.1 x.1.1.length ∧ True ∧ True ∧ True ∧ True ∧ True ∧ inN x.2.1 x.1.1.length ∧ True ∧ True ∧ True ∧ True ∧ True ∧ True) ∧ True) ∧ IntKind.i64.wrap ((x.1.1.getD x.2.1.toNat ((0 : Int), ((0 : Int), (0 : Int), (0 : Int), ()), (0 : Int), ())).2.2.1 + (x.1.1.getD x.2.1.toNat ((0 : Int), ((0 : Int), (0 : Int), (0 : Int), ()), (0 : Int), ())).2.1.2.2.1) = Sp.value x.1.1 x.2.1) ∧ (((x.1.1.getD x.2.1.toNat ((0 : Int), ((0 : Int), (0 : Int), (0 : Int), ()), (0 : Int), ())).2.1.1 == (3 : Int)) = false → ((True ∧ True ∧ True ∧ inN x.2.1 x.1.1.length ∧ True ∧ True ∧ True ∧ True ∧ True) ∧ True) ∧ (x.1.1.getD x.2.1.toNat ((0 : Int), ((0 : Int), (0 : Int), (0 : Int), ()), (0 : Int), ())).2.1.2.2.1 = Sp.value x.1.1 x.2.1))) := by kernel_rfl
  rw [e]
  simp only [true_and, and_true, eq_self, forall_const, decide_eq_true_eq, decide_eq_false_iff_not, Int.not_lt, Int.not_le, Bool.and_eq_true, true_implies, implies_true, Bool.not_eq_true', Bool.not_eq_false', false_implies, Bool.false_eq_true, Bool.true_eq_false, and_self, beq_iff_eq, beq_eq_false_iff_ne, ne_eq, Int.toNat_natCast, Bool.cond_false_right, Bool.cond_true_left, exists_prop, ge_iff_le, gt_iff_lt, List.length_singleton, List.length_nil, List.nil_append, List.append_eq, Bool.cond_false_left, Bool.cond_true_right, Bool.or_false, Bool.and_true, Bool.or_eq_false_iff, Bool.not_eq_true, bne_iff_ne, bne_eq_false_iff_eq]
  all_goals first | exact h | (simp only [true_and, and_true, eq_self, forall_const, decide_eq_true_eq, decide_eq_false_iff_not, Int.not_lt, Int.not_le, Bool.and_eq_true, true_implies, implies_true, Bool.not_eq_true', Bool.not_eq_false', false_implies, Bool.false_eq_true, Bool.true_eq_false, and_self, beq_iff_eq, beq_eq_false_iff_ne, ne_eq, Int.toNat_natCast, Bool.cond_false_right, Bool.cond_true_left, exists_prop, ge_iff_le, gt_iff_lt, List.length_singleton, List.length_nil, List.nil_append, List.append_eq, Bool.cond_false_left, Bool.cond_true_right, Bool.or_false, Bool.and_true, Bool.or_eq_false_iff, Bool.not_eq_true, bne_iff_ne, bne_eq_false_iff_eq] at h; exact h)
theorem vc38 (h : (
  ∀ (x : List Int × Int × Unit), (0 : (AK.val tI).den) ≤ x.2.1 → (x.1.length ≤ lim ∧ ∀ (x_1 : Int), x_1 ∈ x.1 → inK IntKind.u8 x_1) ∧ inK IntKind.i64 x.2.1 → (x.2.1 < (↑x.1.length : Int) → inN x.2.1 x.1.length ∧ x.1.getD x.2.1.toNat (0 : Int) = Sp.byteAt x.1 x.2.1) ∧ ((↑x.1.length : Int) ≤ x.2.1 → (0 : Int) = Sp.byteAt x.1 x.2.1))) : funI C38 (stpP C38) S38 L38 Try.f38 := by
  have e : funI C38 (stpP C38) S38 L38 Try.f38 = (
  ∀ (x : List Int × Int × Unit), (0 : (AK.val tI).den) ≤ x.2.1 → (x.1.length ≤ lim ∧ ∀ (x_1 : Int), x_1 ∈ x.1 → inK IntKind.u8 x_1) ∧ inK IntKind.i64 x.2.1 ∧ True → ((True ∧ True) ∧ True) ∧ ((True ∧ True ∧ True ∧ True ∧ True) ∧ True) ∧ (decide (x.2.1 < (↑x.1.length : Int)) = true → ((True ∧ True ∧ inN x.2.1 x.1.length ∧ True ∧ True ∧ True ∧ True) ∧ True) ∧ x.1.getD x.2.1.toNat (0 : Int) = Sp.byteAt x.1 x.2.1) ∧ (decide (x.2.1 < (↑x.1.length : Int)) = false → ((True ∧ True) ∧ True) ∧ (0 : Int) = Sp.byteAt x.1 x.2.1)) := by kernel_rfl
  rw [e]
  simp only [true_and, and_true, eq_self, forall_const, decide_eq_true_eq, decide_eq_false_iff_not, Int.not_lt, Int.not_le, Bool.and_eq_true, true_implies, implies_true, Bool.not_eq_true', Bool.not_eq_false', false_implies, Bool.false_eq_true, Bool.true_eq_false, and_self, beq_iff_eq, beq_eq_false_iff_ne, ne_eq, Int.toNat_natCast, Bool.cond_false_right, Bool.cond_true_left, exists_prop, ge_iff_le, gt_iff_lt, List.length_singleton, List.length_nil, List.nil_append, List.append_eq, Bool.cond_false_left, Bool.cond_true_right, Bool.or_false, Bool.and_true, Bool.or_eq_false_iff, Bool.not_eq_true, bne_iff_ne, bne_eq_false_iff_eq]
  all_goals first | exact h | (simp only [true_and, and_true, eq_self, forall_const, decide_eq_true_eq, decide_eq_false_iff_not, Int.not_lt, Int.not_le, Bool.and_eq_true, true_implies, implies_true, Bool.not_eq_true', Bool.not_eq_false', false_implies, Bool.false_eq_true, Bool.true_eq_false, and_self, beq_iff_eq, beq_eq_false_iff_ne, ne_eq, Int.toNat_natCast, Bool.cond_false_right, Bool.cond_true_left, exists_prop, ge_iff_le, gt_iff_lt, List.length_singleton, List.length_nil, List.nil_append, List.append_eq, Bool.cond_false_left, Bool.cond_true_right, Bool.or_false, Bool.and_true, Bool.or_eq_false_iff, Bool.not_eq_true, bne_iff_ne, bne_eq_false_iff_eq] at h; exact h)
theorem vc46 (h : (
  ∀ (x : (Int × Int × Int × Unit) × Int × Unit), (inK IntKind.i64 x.1.1 ∧ inK IntKind.i64 x.1.2.1 ∧ inK IntKind.i64 x.1.2.2.1) ∧ inK IntKind.i64 x.2.1 → (Sp.writes x.1 && x.1.2.1 == x.2.1) = (Sp.writes x.1 && decide (x.1.2.1 = x.2.1)))) : funI C46 (stpP C46) S46 L46 Try.f46 := by
  have e : funI C46 (stpP C46) S46 L46 Try.f46 = (
  ∀ (x : (Int × Int × Int × Unit) × Int × Unit), True → (inK IntKind.i64 x.1.1 ∧ inK IntKind.i64 x.1.2.1 ∧ inK IntKind.i64 x.1.2.2.1 ∧ True) ∧ inK IntKind.i64 x.2.1 ∧ True → ((True ∧ True ∧ True) ∧ True) ∧ ((True ∧ True ∧ True ∧ ((true && bif Sp.writes x.1 then true else false) = true → True) ∧ ((true && bif Sp.writes x.1 then true else false) = true → True) ∧ ((true && bif Sp.writes x.1 then true else false) = true → True) ∧ ((true && bif Sp.writes x.1 then true else false) = true → True) ∧ True ∧ True ∧ True) ∧ True) ∧ (bif Sp.writes x.1 then x.1.2.1 == x.2.1 else false) = (Sp.writes x.1 && decide (x.1.2.1 = x.2.1))) := by kernel_rfl
  rw [e]
  simp only [true_and, and_true, eq_self, forall_const, decide_eq_true_eq, decide_eq_false_iff_not, Int.not_lt, Int.not_le, Bool.and_eq_true, true_implies, implies_true, Bool.not_eq_true', Bool.not_eq_false', false_implies, Bool.false_eq_true, Bool.true_eq_false, and_self, beq_iff_eq, beq_eq_false_iff_ne, ne_eq, Int.toNat_natCast, Bool.cond_false_right, Bool.cond_true_left, exists_prop, ge_iff_le, gt_iff_lt, List.length_singleton, List.length_nil, List.nil_append, List.append_eq, Bool.cond_false_left, Bool.cond_true_right, Bool.or_false, Bool.and_true, Bool.or_eq_false_iff, Bool.not_eq_true, bne_iff_ne, bne_eq_false_iff_eq]
  all_goals first | exact h | (simp only [true_and, and_true, eq_self, forall_const, decide_eq_true_eq, decide_eq_false_iff_not, Int.not_lt, Int.not_le, Bool.and_eq_true, true_implies, implies_true, Bool.not_eq_true', Bool.not_eq_false', false_implies, Bool.false_eq_true, Bool.true_eq_false, and_self, beq_iff_eq, beq_eq_false_iff_ne, ne_eq, Int.toNat_natCast, Bool.cond_false_right, Bool.cond_true_left, exists_prop, ge_iff_le, gt_iff_lt, List.length_singleton, List.length_nil, List.nil_append, List.append_eq, Bool.cond_false_left, Bool.cond_true_right, Bool.or_false, Bool.and_true, Bool.or_eq_false_iff, Bool.not_eq_true, bne_iff_ne, bne_eq_false_iff_eq] at h; exact h)
theorem vc47 (h : (
  ∀ (x : (Int × Int × Int × Unit) × Unit), inK IntKind.i64 x.1.1 ∧ inK IntKind.i64 x.1.2.1 ∧ inK IntKind.i64 x.1.2.2.1 → (x.1.1 == (4 : Int)) = decide (x.1.1 = (4 : tI.den)))) : funI C47 (stpP C47) S47 L47 Try.f47 := by
  have e : funI C47 (stpP C47) S47 L47 Try.f47 = (
  ∀ (x : (Int × Int × Int × Unit) × Unit), True → (inK IntKind.i64 x.1.1 ∧ inK IntKind.i64 x.1.2.1 ∧ inK IntKind.i64 x.1.2.2.1 ∧ True) ∧ True → ((True ∧ True ∧ True) ∧ True) ∧ ((True ∧ True ∧ True ∧ True ∧ True) ∧ True) ∧ (x.1.1 == (4 : Int)) = decide (x.1.1 = (4 : tI.den))) := by kernel_rfl
  rw [e]
  simp only [true_and, and_true, eq_self, forall_const, decide_eq_true_eq, decide_eq_false_iff_not, Int.not_lt, Int.not_le, Bool.and_eq_true, true_implies, implies_true, Bool.not_eq_true', Bool.not_eq_false', false_implies, Bool.false_eq_true, Bool.true_eq_false, and_self, beq_iff_eq, beq_eq_false_iff_ne, ne_eq, Int.toNat_natCast, Bool.cond_false_right, Bool.cond_true_left, exists_prop, ge_iff_le, gt_iff_lt, List.length_singleton, List.length_nil, List.nil_append, List.append_eq, Bool.cond_false_left, Bool.cond_true_right, Bool.or_false, Bool.and_true, Bool.or_eq_false_iff, Bool.not_eq_true, bne_iff_ne, bne_eq_false_iff_eq]
  all_goals first | exact h | (simp only [true_and, and_true, eq_self, forall_const, decide_eq_true_eq, decide_eq_false_iff_not, Int.not_lt, Int.not_le, Bool.and_eq_true, true_implies, implies_true, Bool.not_eq_true', Bool.not_eq_false', false_implies, Bool.false_eq_true, Bool.true_eq_false, and_self, beq_iff_eq, beq_eq_false_iff_ne, ne_eq, Int.toNat_natCast, Bool.cond_false_right, Bool.cond_true_left, exists_prop, ge_iff_le, gt_iff_lt, List.length_singleton, List.length_nil, List.nil_append, List.append_eq, Bool.cond_false_left, Bool.cond_true_right, Bool.or_false, Bool.and_true, Bool.or_eq_false_iff, Bool.not_eq_true, bne_iff_ne, bne_eq_false_iff_eq] at h; exact h)
theorem vc27 (h : (
  ∀ (x : Int × Int × Unit), inK IntKind.i64 x.1 ∧ inK IntKind.i64 x.2.1 → ((2 : Int), x.1, x.2.1, ()) = ((2 : tI.den), x.1, x.2.1, ()))) : funI C27 (stpP C27) S27 L27 Try.f27 := by
  have e : funI C27 (stpP C27) S27 L27 Try.f27 = (
  ∀ (x : Int × Int × Unit), True → inK IntKind.i64 x.1 ∧ inK IntKind.i64 x.2.1 ∧ True → ((True ∧ True) ∧ True) ∧ ((True ∧ True ∧ True ∧ True) ∧ True ∧ True) ∧ ((2 : Int), x.1, x.2.1, ()) = ((2 : tI.den), x.1, x.2.1, ())) := by kernel_rfl
  rw [e]
  simp only [true_and, and_true, eq_self, forall_const, decide_eq_true_eq, decide_eq_false_iff_not, Int.not_lt, Int.not_le, Bool.and_eq_true, true_implies, implies_true, Bool.not_eq_true', Bool.not_eq_false', false_implies, Bool.false_eq_true, Bool.true_eq_false, and_self, beq_iff_eq, beq_eq_false_iff_ne, ne_eq, Int.toNat_natCast, Bool.cond_false_right, Bool.cond_true_left, exists_prop, ge_iff_le, gt_iff_lt, List.length_singleton, List.length_nil, List.nil_append, List.append_eq, Bool.cond_false_left, Bool.cond_true_right, Bool.or_false, Bool.and_true, Bool.or_eq_false_iff, Bool.not_eq_true, bne_iff_ne, bne_eq_false_iff_eq]
  all_goals first | exact h | (simp only [true_and, and_true, eq_self, forall_const, decide_eq_true_eq, decide_eq_false_iff_not, Int.not_lt, Int.not_le, Bool.and_eq_true, true_implies, implies_true, Bool.not_eq_true', Bool.not_eq_false', false_implies, Bool.false_eq_true, Bool.true_eq_false, and_self, beq_iff_eq, beq_eq_false_iff_ne, ne_eq, Int.toNat_natCast, Bool.cond_false_right, Bool.cond_true_left, exists_prop, ge_iff_le, gt_iff_lt, List.length_singleton, List.length_nil, List.nil_append, List.append_eq, Bool.cond_false_left, Bool.cond_true_right, Bool.or_false, Bool.and_true, Bool.or_eq_false_iff, Bool.not_eq_true, bne_iff_ne, bne_eq_false_iff_eq] at h; exact h)
theorem vc28 (h : (
  ∀ (x : Int × Unit), inK IntKind.i64 x.1 → ((1 : Int), x.1, (0 : Int), ()) = ((1 : tI.den), x.1, (0 : tI.den), ()))) : funI C28 (stpP C28) S28 L28 Try.f28 := by
  have e : funI C28 (stpP C28) S28 L28 Try.f28 = (
  ∀ (x : Int × Unit), True → inK IntKind.i64 x.1 ∧ True → ((True ∧ True) ∧ True) ∧ ((True ∧ True ∧ True) ∧ True ∧ True) ∧ ((1 : Int), x.1, (0 : Int), ()) = ((1 : tI.den), x.1, (0 : tI.den), ())) := by kernel_rfl
  rw [e]
  simp only [true_and, and_true, eq_self, forall_const, decide_eq_true_eq, decide_eq_false_iff_not, Int.not_lt, Int.not_le, Bool.and_eq_true, true_implies, implies_true, Bool.not_eq_true', Bool.not_eq_false', false_implies, Bool.false_eq_true, Bool.true_eq_false, and_self, beq_iff_eq, beq_eq_false_iff_ne, ne_eq, Int.toNat_natCast, Bool.cond_false_right, Bool.cond_true_left, exists_prop, ge_iff_le, gt_iff_lt, List.length_singleton, List.length_nil, List.nil_append, List.append_eq, Bool.cond_false_left, Bool.cond_true_right, Bool.or_false, Bool.and_true, Bool.or_eq_false_iff, Bool.not_eq_true, bne_iff_ne, bne_eq_false_iff_eq]
  all_goals first | exact h | (simp only [true_and, and_true, eq_self, forall_const, decide_eq_true_eq, decide_eq_false_iff_not, Int.not_lt, Int.not_le, Bool.and_eq_true, true_implies, implies_true, Bool.not_eq_true', Bool.not_eq_false', false_implies, Bool.false_eq_true, Bool.true_eq_false, and_self, beq_iff_eq, beq_eq_false_iff_ne, ne_eq, Int.toNat_natCast, Bool.cond_false_right, Bool.cond_true_left, exists_prop, ge_iff_le, gt_iff_lt, List.length_singleton, List.length_nil, List.nil_append, List.append_eq, Bool.cond_false_left, Bool.cond_true_right, Bool.or_false, Bool.and_true, Bool.or_eq_false_iff, Bool.not_eq_true, bne_iff_ne, bne_eq_false_iff_eq] at h; exact h)
theorem vc29 (h : (
  ((4 : Int), (0 : Int), (0 : Int), ()) = ((4 : tI.den), (0 : tI.den), (0 : tI.den), ()))) : funI C29 (stpP C29) S29 L29 Try.f29 := by
  have e : funI C29 (stpP C29) S29 L29 Try.f29 = (
  ∀ (x : Unit), True → True → ((True ∧ True) ∧ True) ∧ ((True ∧ True) ∧ True ∧ True) ∧ ((4 : Int), (0 : Int), (0 : Int), ()) = ((4 : tI.den), (0 : tI.den), (0 : tI.den), ())) := by kernel_rfl
  rw [e]
  simp only [true_and, and_true, eq_self, forall_const, decide_eq_true_eq, decide_eq_false_iff_not, Int.not_lt, Int.not_le, Bool.and_eq_true, true_implies, implies_true, Bool.not_eq_true', Bool.not_eq_false', false_implies, Bool.false_eq_true, Bool.true_eq_false, and_self, beq_iff_eq, beq_eq_false_iff_ne, ne_eq, Int.toNat_natCast, Bool.cond_false_right, Bool.cond_true_left, exists_prop, ge_iff_le, gt_iff_lt, List.length_singleton, List.length_nil, List.nil_append, List.append_eq, Bool.cond_false_left, Bool.cond_true_right, Bool.or_false, Bool.and_true, Bool.or_eq_false_iff, Bool.not_eq_true, bne_iff_ne, bne_eq_false_iff_eq]
  all_goals first | exact h | (simp only [true_and, and_true, eq_self, forall_const, decide_eq_true_eq, decide_eq_false_iff_not, Int.not_lt, Int.not_le, Bool.and_eq_true, true_implies, implies_true, Bool.not_eq_true', Bool.not_eq_false', false_implies, Bool.false_eq_true, Bool.true_eq_false, and_self, beq_iff_eq, beq_eq_false_iff_ne, ne_eq, Int.toNat_natCast, Bool.cond_false_right, Bool.cond_true_left, exists_prop, ge_iff_le, gt_iff_lt, List.length_singleton, List.length_nil, List.nil_append, List.append_eq, Bool.cond_false_left, Bool.cond_true_right, Bool.or_false, Bool.and_true, Bool.or_eq_false_iff, Bool.not_eq_true, bne_iff_ne, bne_eq_false_iff_eq] at h; exact h)
end Go.User
namespace Sp

theorem not_mem_take_succ {α : Type} {l : List α} {i : Nat} {n d : α} (h : n ∉ l.take i) (hi : i < l.length) (hn : l.getD i d ≠ n) : n ∉ l.take (i + 1) := by
  rw [List.take_succ_eq_append_getElem hi]
  simp only [List.mem_append, List.mem_singleton, not_or]
  refine ⟨h, fun e => hn ?_⟩
  rw [List.getD_eq_getElem?_getD, List.getElem?_eq_getElem hi]
  exact e.symm

theorem idx_at {l : List Int} {n : Int} {i : Nat} (h : n ∉ l.take i) (hi : i < l.length) (hn : l.getD i 0 = n) : (i : Int) = idx l n := by
  have hg : l[i] = n := by rw [List.getD_eq_getElem?_getD, List.getElem?_eq_getElem hi] at hn; exact hn
  have hm : n ∈ l := hg ▸ List.getElem_mem hi
  unfold idx
  rw [if_pos hm]
  have e : l.idxOf n = i := by
    have := List.idxOf_append (l₁ := l.take i) (l₂ := l.drop i) (a := n)
    rw [List.take_append_drop, if_neg h, List.drop_eq_getElem_cons hi, hg, List.idxOf_cons_self, List.length_take] at this
    omega
  rw [e]

theorem idx_none {l : List Int} {n : Int} (h : n ∉ l) : (-1 : Int) = idx l n := by unfold idx; rw [if_neg h]

theorem take_all {α : Type} {l : List α} {i : Nat} (h1 : i ≤ l.length) (h2 : (l.length : Int) ≤ (i : Int)) : l.take i = l := List.take_of_length_le (by omega)

theorem findI_at {l : List LEv} {p : LEv → Bool} {i : Nat} (h : ∀ e ∈ l.take i, p e = false) (hi : i < l.length) (hp : p (l.getD i ev0) = true) : (i : Int) = findI p l := by
  have hg : l.getD i ev0 = l[i] := by rw [List.getD_eq_getElem?_getD, List.getElem?_eq_getElem hi]; rfl
  rw [hg] at hp
  unfold findI
  have : l.findIdx? p = some i := by
    rw [List.findIdx?_eq_some_iff_getElem]
    refine ⟨hi, hp, fun j hj => ?_⟩
    have := h l[j] (List.mem_take_iff_getElem.2 ⟨j, by omega, rfl⟩)
    rw [this]; simp
  rw [this]
theorem findI_none {l : List LEv} {p : LEv → Bool} (h : ∀ e ∈ l, p e = false) : (-1 : Int) = findI p l := by
  unfold findI
  have : l.findIdx? p = none := by
    rw [List.findIdx?_eq_none_iff]; exact h
  rw [this]
theorem findI_any (l : List LEv) (p : LEv → Bool) : decide (0 ≤ findI p l) = l.any p := by
  unfold findI
  cases h : l.findIdx? p with
  | none =>
    rw [List.findIdx?_eq_none_iff] at h
    have : l.any p = false := by rw [List.any_eq_false]; intro x hx; rw [h x hx]; simp
    rw [this]; rfl
  | some i =>
    rw [List.findIdx?_eq_some_iff_getElem] at h
    obtain ⟨hi, hp, _⟩ := h
    have : l.any p = true := List.any_eq_true.2 ⟨_, List.getElem_mem hi, hp⟩
    rw [this]
    simp
end Sp
namespace Go.User
open Go.Lf
theorem lim_eq : lim = 140737488355328 := rfl
theorem inK_of {z : Int} (h1 : -9223372036854775808 ≤ z) (h2 : z ≤ 9223372036854775807) : inK .i64 z := ⟨h1, h2⟩
theorem inK_nat {n m : Nat} (h1 : n ≤ m) (h2 : m ≤ lim) : inK .i64 (n : Int) := by rw [lim_eq] at h2; exact inK_of (by omega) (by omega)
/-- A counter below a length may go on. -/
theorem inK_succ {i n : Nat} (h : (i : Int) < (n : Int)) (hn : n ≤ lim) : inK .i64 ((i : Int) + 1) := by rw [lim_eq] at hn; exact inK_of (by omega) (by omega)
theorem inN_of {i n : Nat} (h : (i : Int) < (n : Int)) : inN (i : Int) n := ⟨by omega, h⟩
end Go.User
namespace Go.User
open Go.Lf Go.Proofs

theorem okA {n : Nat} {fns : List (FuncId × FSpec)} (h : ∀ f s, Lf.look fns f = some s → FOk Try.prog f s) : CtxOK Try.prog (mkC n fns) := ctx_ok rfl rfl h ptrs_nil

theorem at_vc (x : List Int × Int × Unit) (h : (x.1.length ≤ Go.Lf.lim ∧ ∀ (x_1 : Int), x_1 ∈ x.1 → Go.Lf.inK Go.IntKind.i64 x_1) ∧ Go.Lf.inK Go.IntKind.i64 x.2.1) :
    (∃ (x_1 : Nat), (x_1 ≤ x.1.length ∧ ¬x.2.1 ∈ List.take x_1 x.1) ∧ (0 : Int) = (↑x_1 : Int)) := ⟨0, ⟨Nat.zero_le _, by simp⟩, rfl⟩

theorem ok22 : FOk Try.prog 22 S22 := by
  refine FOk.intro (okA fns_nil) (stpP_ok (okA fns_nil)) Try.call22 Try.func22 (by kernel_rfl) (by kernel_rfl) L22 (vc22 ?_)
  intro x hx
  refine ⟨⟨0, ⟨Nat.zero_le _, by simp⟩, rfl⟩, ?_⟩
  intro i hi hk
  refine ⟨fun hlt => ⟨inN_of hlt, fun h => Sp.idx_at hi.2 (by omega) h, fun h => ⟨inK_succ hlt hx.1.1, i + 1, ⟨by omega, Sp.not_mem_take_succ hi.2 (by omega) h⟩, by omega, by omega⟩⟩, fun hge => ?_⟩
  have := hi.2
  rw [Sp.take_all hi.1 hge] at this
  exact Sp.idx_none this
theorem ok39 : FOk Try.prog 39 S39 := by
  refine FOk.intro (okA fns_nil) (stpP_ok (okA fns_nil)) Try.call39 Try.func39 (by kernel_rfl) (by kernel_rfl) L39 (vc39 ?_)
  intro x hx
  refine ⟨⟨0, ⟨Nat.zero_le _, by simp⟩, rfl⟩, ?_⟩
  intro i hi hk
  refine ⟨fun hlt => ⟨inN_of hlt, fun h => Sp.idx_at hi.2 (by omega) h, fun h => ⟨inK_succ hlt hx.1.1, i + 1, ⟨by omega, Sp.not_mem_take_succ hi.2 (by omega) h⟩, by omega, by omega⟩⟩, fun hge => ?_⟩
  have := hi.2
  rw [Sp.take_all hi.1 hge] at this
  exact Sp.idx_none this
theorem ok63 : FOk Try.prog 63 S63 := by
  refine FOk.intro (okA fns_nil) (stpP_ok (okA fns_nil)) Try.call63 Try.func63 (by kernel_rfl) (by kernel_rfl) L63 (vc63 ?_)
  intro x hx
  refine ⟨⟨0, ⟨Nat.zero_le _, by simp⟩, rfl⟩, ?_⟩
  intro i hi hk
  refine ⟨fun hlt => ⟨inN_of hlt, fun h => Sp.idx_at hi.2 (by omega) h.symm, fun h => ⟨inK_succ hlt hx.1.1, i + 1, ⟨by omega, Sp.not_mem_take_succ hi.2 (by omega) (fun e => h e.symm)⟩, by omega, by omega⟩⟩, fun hge => ?_⟩
  have := hi.2
  rw [Sp.take_all hi.1 hge] at this
  exact Sp.idx_none this
theorem ok42 : FOk Try.prog 42 S42 := FOk.intro (okA fns_nil) (stpP_ok (okA fns_nil)) Try.call42 Try.func42 (by kernel_rfl) (by kernel_rfl) L42 (vc42 (fun x hx => rfl))
theorem ok43 : FOk Try.prog 43 S43 := FOk.intro (okA fns_nil) (stpP_ok (okA fns_nil)) Try.call43 Try.func43 (by kernel_rfl) (by kernel_rfl) L43 (vc43 (fun x hx => rfl))
theorem ok37 : FOk Try.prog 37 S37 := FOk.intro (okA fns_nil) (stpP_ok (okA fns_nil)) Try.call37 Try.func37 (by kernel_rfl) (by kernel_rfl) L37 (vc37 (fun x hx => rfl))
theorem ok32 : FOk Try.prog 32 S32 := FOk.intro (okA fns_nil) (stpP_ok (okA fns_nil)) Try.call32 Try.func32 (by kernel_rfl) (by kernel_rfl) L32 (vc32 (fun x hx => rfl))
theorem ok62 : FOk Try.prog 62 S62 := by
  refine FOk.intro (okA fns_nil) (stpP_ok (okA fns_nil)) Try.call62 Try.func62 (by kernel_rfl) (by kernel_rfl) L62 (vc62 ?_)
  intro x hx
  refine ⟨fun h => ?_, fun h => ⟨fun h1 => ?_, fun h1 => ⟨fun h2 => ⟨fun _ => ?_, fun h3 => absurd h2 h3⟩, fun h2 => ⟨fun h3 => ?_, fun h3 => ?_⟩⟩⟩⟩
  · simp [Sp.usual, h]
  · simp [Sp.usual, h1]; rfl
  · simp [Sp.usual, h2]
  · simp [Sp.usual, h3]
  · simp [Sp.usual, h, h1, h2, h3]
theorem ok61 : FOk Try.prog 61 S61 :=
  have hC : CtxOK Try.prog C61 := okA (fns_cons ok62 fns_nil)
  FOk.intro hC (stpP_ok hC) Try.call61 Try.func61 (by kernel_rfl) (by kernel_rfl) L61 (vc61 (fun x hx => rfl))
theorem ok64 : FOk Try.prog 64 S64 := by
  refine FOk.intro (okA fns_nil) (stpP_ok (okA fns_nil)) Try.call64 Try.func64 (by kernel_rfl) (by kernel_rfl) L64 (vc64 ?_)
  intro x hp hx
  refine ⟨⟨0, ⟨Nat.zero_le _, by simp⟩, rfl⟩, ?_⟩
  intro i hi hk
  refine ⟨fun hlt => ⟨⟨inN_of hlt, hp _⟩, fun h => Sp.findI_at hi.2 (by omega) h, fun h => ⟨inK_succ hlt hx.1, i + 1, ⟨by omega, ?_⟩, by omega, by omega⟩⟩, fun hge => ?_⟩
  · intro e he
    rw [List.take_succ_eq_append_getElem (by omega)] at he
    rcases List.mem_append.1 he with he | he
    · exact hi.2 e he
    · simp only [List.mem_singleton] at he
      rw [List.getD_eq_getElem?_getD, List.getElem?_eq_getElem (by omega)] at h
      rw [he]; exact h
  · have := hi.2
    rw [Sp.take_all hi.1 hge] at this
    exact Sp.findI_none this
theorem ok60 : FOk Try.prog 60 S60 :=
  have hC : CtxOK Try.prog C60 := okA (fns_cons ok64 fns_nil)
  FOk.intro hC (stpP_ok hC) Try.call60 Try.func60 (by kernel_rfl) (by kernel_rfl) L60 (vc60 (fun x hp hx => ⟨hp, Sp.findI_any _ _⟩))
theorem value_vc {e : List Sp.LEv} {n : Int} : (n < 0 → (0 : Int) = Sp.value e n) ∧ (0 ≤ n → (Sp.ev e n).2.1.1 = 3 → IntKind.wrap .i64 ((Sp.ev e n).2.2.1 + (Sp.ev e n).2.1.2.2.1) = Sp.value e n) ∧
    (0 ≤ n → ¬ (Sp.ev e n).2.1.1 = 3 → (Sp.ev e n).2.1.2.2.1 = Sp.value e n) := by
  refine ⟨fun h => ?_, fun h h1 => ?_, fun h h1 => ?_⟩
  · unfold Sp.value; rw [if_pos h]
  · unfold Sp.value; rw [if_neg (by omega), if_pos h1]
  · unfold Sp.value; rw [if_neg (by omega), if_neg h1]
theorem okW {n : Nat} {fns : List (FuncId × FSpec)} {wr : List Nat} (h : ∀ f s, Lf.look fns f = some s → FOk Try.prog f s) : CtxOK Try.prog { mkC n fns with wrp := wr } := ctx_ok rfl rfl h ptrs_nil
theorem ok40 : FOk Try.prog 40 S40 := by
  refine FOk.intro (okW fns_nil) (stpP_ok (okW fns_nil)) Try.call40 Try.func40 (by kernel_rfl) (by kernel_rfl) L40 (vc40 ?_)
  intro x hp hx
  have hv := value_vc (e := x.1.1) (n := x.2.1)
  exact ⟨fun h => hv.1 h, fun h => ⟨⟨h, hp⟩, fun h1 => ⟨⟨h, hp⟩, hv.2.1 h h1⟩, fun h1 => ⟨⟨h, hp⟩, hv.2.2 h h1⟩⟩⟩
theorem ok44 : FOk Try.prog 44 S44 := by
  refine FOk.intro (okW fns_nil) (stpP_ok (okW fns_nil)) Try.call44 Try.func44 (by kernel_rfl) (by kernel_rfl) L44 (vc44 ?_)
  intro x hp hx
  have hv := value_vc (e := x.1.1) (n := x.2.1)
  exact ⟨fun h => hv.1 h, fun h => ⟨⟨h, hp⟩, fun h1 => ⟨⟨h, hp⟩, hv.2.1 h h1⟩, fun h1 => ⟨⟨h, hp⟩, hv.2.2 h h1⟩⟩⟩
theorem ok38 : FOk Try.prog 38 S38 := by
  refine FOk.intro (okA fns_nil) (stpP_ok (okA fns_nil)) Try.call38 Try.func38 (by kernel_rfl) (by kernel_rfl) L38 (vc38 ?_)
  intro x hp hx
  refine ⟨fun h => ⟨⟨hp, h⟩, ?_⟩, fun h => ?_⟩
  · unfold Sp.byteAt; rw [if_pos h]
  · unfold Sp.byteAt; rw [if_neg (by omega)]
theorem ok46 : FOk Try.prog 46 S46 :=
  have hC : CtxOK Try.prog C46 := okA (fns_cons ok43 fns_nil)
  FOk.intro hC (stpP_ok hC) Try.call46 Try.func46 (by kernel_rfl) (by kernel_rfl) L46 (vc46 (fun x hx => rfl))
theorem ok47 : FOk Try.prog 47 S47 := FOk.intro (okA fns_nil) (stpP_ok (okA fns_nil)) Try.call47 Try.func47 (by kernel_rfl) (by kernel_rfl) L47 (vc47 (fun x hx => rfl))
theorem ok27 : FOk Try.prog 27 S27 := FOk.intro (okA fns_nil) (stpP_ok (okA fns_nil)) Try.call27 Try.func27 (by kernel_rfl) (by kernel_rfl) L27 (vc27 (fun x hx => rfl))
theorem ok28 : FOk Try.prog 28 S28 := FOk.intro (okA fns_nil) (stpP_ok (okA fns_nil)) Try.call28 Try.func28 (by kernel_rfl) (by kernel_rfl) L28 (vc28 (fun x hx => rfl))
theorem ok29 : FOk Try.prog 29 S29 := FOk.intro (okA fns_nil) (stpP_ok (okA fns_nil)) Try.call29 Try.func29 (by kernel_rfl) (by kernel_rfl) L29 (vc29 rfl)
end Go.User
namespace Sp

theorem getD_lt {α : Type} {l : List α} {i : Nat} {d : α} (h : i < l.length) : l.getD i d = l[i] := by rw [List.getD_eq_getElem?_getD, List.getElem?_eq_getElem h]; rfl

theorem evs_append : ∀ (c : Int) (p q : List (List LOp)), evs c (p ++ q) = evs c p ++ evs (c + p.length) q
  | c, [], q => by simp [evs]
  | c, l :: p, q => by
    simp only [List.cons_append, evs, evs_append (c + 1) p q, List.append_assoc, List.length_cons]
    congr 3; omega

theorem evs_succ {p : List (List LOp)} {i : Nat} (h : i < p.length) : evs 0 (p.take (i + 1)) = evs 0 (p.take i) ++ (p.getD i []).map (mkEv (i : Int)) := by
  rw [List.take_succ_eq_append_getElem h, evs_append, getD_lt h]
  simp only [evs, List.append_nil, List.length_take]
  congr 2; congr 1; omega

theorem evs_le {p : List (List LOp)} {i k : Nat} (h : i < p.length) (hk : k ≤ (p.getD i []).length) : (evs 0 (p.take i) ++ ((p.getD i []).take k).map (mkEv (i : Int))).length ≤ (evs 0 p).length := by
  have h1 : evs 0 p = evs 0 (p.take (i + 1)) ++ evs (0 + ((p.take (i + 1)).length : Int)) (p.drop (i + 1)) := by rw [← evs_append, List.take_append_drop]
  rw [h1, evs_succ h]
  simp only [List.length_append, List.length_map, List.length_take]
  omega

theorem map_take_succ {l : List LOp} {k : Nat} (c : Int) (h : k < l.length) : (l.take (k + 1)).map (mkEv c) = (l.take k).map (mkEv c) ++ [mkEv c (l.getD k (0, 0, 0, ()))] := by
  rw [List.take_succ_eq_append_getElem h, List.map_append, getD_lt h]; rfl

theorem sel_succ (p : Nat → Bool) (n : Nat) : sel p (n + 1) = sel p n ++ (if p n = true then [(n : Int)] else []) := by
  unfold sel
  rw [List.range_succ, List.filter_append, List.map_append]
  congr 1
  by_cases h : p n = true
  · rw [if_pos h]; simp [h]
  · rw [if_neg h]; simp [h]
theorem sel_len (p : Nat → Bool) (n : Nat) : (sel p n).length ≤ n := by
  unfold sel
  rw [List.length_map]
  exact Nat.le_trans (List.length_filter_le _ _) (by simp)

theorem mat_ext {f g : Nat → Nat → Bool} (h : ∀ a b, a < 6 → b < 6 → f a b = g a b) : mat f = mat g := by
  unfold mat
  refine List.map_congr_left fun a ha => List.map_congr_left fun b hb => ?_
  exact h a b (List.mem_range.1 ha) (List.mem_range.1 hb)
theorem mat_const : List.replicate 6 (List.replicate 6 false) = mat fun _ _ => false := rfl
theorem mat_row {f : Nat → Nat → Bool} {a : Nat} (h : a < 6) {d : List Bool} : (mat f).getD a d = (List.range 6).map (f a) := by
  have : a < (mat f).length := by simp [mat]; exact h
  rw [getD_lt this]; simp [mat]
theorem get2_mat {f : Nat → Nat → Bool} {a b : Nat} (ha : a < 6) (hb : b < 6) : get2 (mat f) a b = f a b := by
  unfold get2
  rw [mat_row ha, getD_lt (by simp; exact hb)]; simp
theorem mat_set {f : Nat → Nat → Bool} {a b : Nat} (ha : a < 6) (hb : b < 6) {d : List Bool} {v : Bool} :
    (mat f).set a (((mat f).getD a d).set b v) = mat fun x y => if x = a ∧ y = b then v else f x y := by
  rw [mat_row ha]
  apply List.ext_getElem
  · simp [mat]
  · intro i h1 h2
    simp only [List.getElem_set, mat, List.getElem_map, List.getElem_range]
    by_cases hi : a = i
    · subst hi
      rw [if_pos rfl]
      apply List.ext_getElem
      · simp
      · intro j h3 h4
        simp only [List.getElem_set, List.getElem_map, List.getElem_range, true_and]
        by_cases hj : b = j
        · subst hj; simp
        · rw [if_neg hj, if_neg (fun h => hj h.symm)]
    · rw [if_neg hi]
      refine List.map_congr_left fun y hy => ?_
      rw [if_neg (fun h => hi h.1.symm)]

theorem shuf_step {n : Nat} {l b : List Int} {i : Int} (h : l.length = n + 1) : shuf l.length l b i = l.getD ((byteAt b i).tmod (l.length : Int)).toNat 0 :: shuf n (l.eraseIdx ((byteAt b i).tmod (l.length : Int)).toNat) b (i + 1) := by
  rw [h]
  simp only [shuf, h]

theorem byteAt_nonneg {b : List Int} (h : ∀ x ∈ b, Go.Lf.inK .u8 x) (i : Int) : 0 ≤ byteAt b i ∧ byteAt b i ≤ 255 := by
  unfold byteAt
  split
  · rename_i hi
    by_cases h2 : i.toNat < b.length
    · rw [getD_lt h2]
      have := h _ (List.getElem_mem h2)
      exact ⟨this.1, this.2⟩
    · rw [List.getD_eq_getElem?_getD, List.getElem?_eq_none (by omega)]; simp
  · simp
end Sp
