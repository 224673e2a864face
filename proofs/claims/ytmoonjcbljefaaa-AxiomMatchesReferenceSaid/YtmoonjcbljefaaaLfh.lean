/- Written by gen.py: what is left to show of each function. Written by gen.py: what is left to show of each function. Written by gen.py: what is left to show of each function. Written by gen.py: what is left to show of each function. -/
import Derived.Test.YtmoonjcbljefaaaLfg
set_option linter.unusedVariables false
set_option linter.unusedSimpArgs false
namespace Go.User
open Go.Proofs Go.Lf
set_option maxRecDepth 100000
theorem vc59 : funI C59 (stpP C59) S59 L59 Try.f59 = (
let q0 : Prop := True ∧ True ∧ True;
let q1 : Int := (4 : Int);
let q2 : Int := (0 : Int);
let q3 : Int := (100 : Int);
let q4 : Prop := (True ∧ True) ∧ True;
∀ (x : (Int × Int × Int × Unit) × Unit),
  let q5 : Bool := decide (x.1.1 < (1 : Int));
  let q6 : Prop := (true && bif q5 then false else true) = true → True;
  let q7 : Bool := bif q5 then true else decide (x.1.1 > q1);
  let q8 : Prop := (true && bif q7 then false else true) = true → True;
  let q9 : Bool := bif q7 then true else decide (x.1.2.1 < q2);
  let q10 : Prop := (true && bif q9 then false else true) = true → True;
  let q11 : Bool := bif q9 then true else decide (x.1.2.1 > (2 : Int));
  let q12 : Prop := (true && bif q11 then false else true) = true → True;
  let q13 : Bool := bif q11 then true else decide (x.1.2.2.1 < -q3);
  let q14 : Prop := (true && bif q13 then false else true) = true → True;
  let q15 : Bool := bif q13 then true else decide (x.1.2.2.1 > q3);
  let q16 : Prop := q4 ∧ false = Sp.usual x.1;
  let q17 : Bool := x.1.1 == q1;
  let q18 : Prop := (true && bif q17 then true else false) = true → True;
  let q19 : Bool := bif q17 then x.1.2.1 != q2 else false;
  let q20 : Prop := (true && bif Sp.writes x.1 then false else true) = true → True;
  True → dFact ((Ty.int IntKind.i64).prod ((Ty.int IntKind.i64).prod ((Ty.int IntKind.i64).prod Ty.unit))) x.1 ∧ True → (q0 ∧ True) ∧ ((True ∧ True ∧ True ∧ True ∧ q6 ∧ q6 ∧ q6 ∧ True ∧ True ∧ q8 ∧ q8 ∧ q8 ∧ True ∧ True ∧ q10 ∧ q10 ∧ q10 ∧ True ∧ True ∧ q12 ∧ q12 ∧ q12 ∧ True ∧ True ∧ q14 ∧ q14 ∧ q14 ∧ True ∧ True) ∧ True) ∧ (q15 = true → q16) ∧ (q15 = false → ((True ∧ True ∧ True ∧ True ∧ q18 ∧ q18 ∧ q18 ∧ True ∧ True) ∧ True) ∧ (q19 = true → q16) ∧ (q19 = false → ((True ∧ True ∧ True ∧ q20 ∧ q20 ∧ q20 ∧ q0) ∧ True) ∧ (bif Sp.writes x.1 then true else x.1.2.2.1 == q2) = Sp.usual x.1))) := by kernel_rfl
theorem vc20 : funI C20 (stpP C20) S20 L20 Try.f20 = (
let q0 : Prop := True ∧ True ∧ True;
let q1 : Int := (1 : Int);
let q2 : Prop := (True ∧ True) ∧ True;
let q3 : Nat := (6 : Nat);
let q4 : Nat := (1 : Nat);
let q5 : Nat := (4 : Nat);
let q6 : Int := (0 : Int);
let q7 : Prop := True ∧ q0;
let q8 : Int := (6 : Int);
∀ (x : (List (List (Int × Int × Int × Unit)) × Unit) × Unit),
  let q9 : Nat := x.1.1.length;
  let q10 : Int := (↑q9 : Int);
  let q11 : Bool := decide (q10 < q1);
  let q12 : Prop := (true && bif q11 then false else true) = true → True;
  let q13 : Bool := bif q11 then true else decide (q10 > (4 : Int));
  let q14 : Prop := q2 ∧ false = Sp.valid x.1;
  let q15 : Prop := x.1 = x.1;
  let q16 : Prop := q15 ∧ True;
  True →
    dFact (((Ty.int IntKind.i64).prod ((Ty.int IntKind.i64).prod ((Ty.int IntKind.i64).prod Ty.unit))).slice.slice.prod Ty.unit) x.1 ∧ True →
      (q0 ∧ True) ∧
        ((True ∧ True ∧ True ∧ True ∧ True ∧ q12 ∧ q12 ∧ q12 ∧ q12 ∧ True ∧ True) ∧ True) ∧
          (q13 = true → q14) ∧
            (q13 = false →
              q2 ∧
                q2 ∧
                  (∃ (x_1 : Nat), (x_1 ≤ q9 ∧ (∀ (l : List (Int × Int × Int × Unit)), l ∈ List.take x_1 x.1.1 → l.length ≤ q3 ∧ ∀ (o : Int × Int × Int × Unit), o ∈ l → Sp.usual o = true) ∧ q4 ≤ q9 ∧ q9 ≤ q5) ∧ q6 = (↑x_1 : Int) ∧ q6 = (↑(Sp.evs q6 (List.take x_1 x.1.1)).length : Int) ∧ q16) ∧
                    ∀ (x_1 : Nat),
                      let q17 : Int := (↑(Sp.evs q6 (List.take x_1 x.1.1)).length : Int);
                      let q18 : Bool := decide ((↑x_1 : Int) < q10);
                      let q19 : Prop := inN (↑x_1 : Int) q9;
                      let q20 : Prop := True ∧ True ∧ True ∧ q19 ∧ q7;
                      let q21 : List (Int × Int × Int × Unit) := x.1.1.getD (↑x_1 : Int).toNat (([] : List tLOp.den));
                      let q22 : Nat := q21.length;
                      let q23 : Int := (↑q22 : Int);
                      let q24 : Bool := decide (q23 > q8);
                      let q25 : List (Int × Int × Int × Unit) := x.1.1.getD x_1 (([] : List tLOp.den));
                      let q26 : Nat := q25.length;
                      let q27 : Prop := q15 ∧ (↑x_1 : Int) = (↑x_1 : Int) ∧ True;
                      let q28 : Int := (↑x_1 : Int) + q1;
                      let q29 : Bool := decide (q17 ≥ q1);
                      let q30 : Prop := (true && bif q29 then true else false) = true → True;
                      x_1 ≤ q9 ∧ (∀ (l : List (Int × Int × Int × Unit)), l ∈ List.take x_1 x.1.1 → l.length ≤ q3 ∧ ∀ (o : Int × Int × Int × Unit), o ∈ l → Sp.usual o = true) ∧ q4 ≤ q9 ∧ q9 ≤ q5 →
                        dFact (Ty.int IntKind.i64) (↑x_1 : Int) ∧ dFact (Ty.int IntKind.i64) q17 ∧ True →
                          ((True ∧ True ∧ q7) ∧ True) ∧
                            (q18 = true →
                                (q20 ∧ True) ∧
                                  (q24 = true → q14) ∧
                                    (q24 = false →
                                      q2 ∧
                                        (∃ (x : Nat), (x_1 < q9 ∧ x ≤ q26 ∧ q26 ≤ q3 ∧ ∀ (o : Int × Int × Int × Unit), o ∈ List.take x q25 → Sp.usual o = true) ∧ q6 = (↑x : Int) ∧ q17 = q17 + (↑x : Int) ∧ q27) ∧
                                          ∀ (x_2 : Nat),
                                            let q31 : Int := q17 + (↑x_2 : Int);
                                            let q32 : Bool := decide ((↑x_2 : Int) < q23);
                                            let q33 : Int := q31 + q1;
                                            let q34 : Bool := !Sp.usual (q21.getD (↑x_2 : Int).toNat (q6, q6, q6, ()));
                                            let q35 : Int := (↑x_2 : Int) + q1;
                                            (x_1 < q9 ∧ x_2 ≤ q26 ∧ q26 ≤ q3 ∧ ∀ (o : Int × Int × Int × Unit), o ∈ List.take x_2 q25 → Sp.usual o = true) → dFact (Ty.int IntKind.i64) (↑x_2 : Int) ∧ dFact (Ty.int IntKind.i64) q31 ∧ True → ((True ∧ q20) ∧ True) ∧ (q32 = true → ((True ∧ inK IntKind.i64 q33 ∧ True ∧ True) ∧ True) ∧ ((True ∧ True ∧ True ∧ q19 ∧ True ∧ True ∧ inN (↑x_2 : Int) q22 ∧ q7) ∧ True) ∧ (q34 = true → q14) ∧ (q34 = false → ((True ∧ inK IntKind.i64 q35 ∧ True ∧ True) ∧ True) ∧ ∃ (y : Nat), (x_1 < q9 ∧ y ≤ q26 ∧ q26 ≤ q3 ∧ ∀ (o : Int × Int × Int × Unit), o ∈ List.take y q25 → Sp.usual o = true) ∧ q26 - y < q26 - x_2 ∧ q35 = (↑y : Int) ∧ q33 = q17 + (↑y : Int) ∧ q27)) ∧ (q32 = false → ((True ∧ inK IntKind.i64 q28 ∧ True ∧ True) ∧ True) ∧ ∃ (y : Nat), (y ≤ q9 ∧ (∀ (l : List (Int × Int × Int × Unit)), l ∈ List.take y x.1.1 → l.length ≤ q3 ∧ ∀ (o : Int × Int × Int × Unit), o ∈ l → Sp.usual o = true) ∧ q4 ≤ q9 ∧ q9 ≤ q5) ∧ q9 - y < q9 - x_1 ∧ q28 = (↑y : Int) ∧ q31 = (↑(Sp.evs q6 (List.take y x.1.1)).length : Int) ∧ q16))) ∧
                              (q18 = false → ((True ∧ True ∧ True ∧ q30 ∧ q30 ∧ q0) ∧ True) ∧ (bif q29 then decide (q17 ≤ q8) else false) = Sp.valid x.1))) := by kernel_rfl
theorem vc48 : funI C48 (stpP C48) S48 L48 Try.f48 = (
let q0 : Prop := (True ∧ True) ∧ True;
let q1 : Prop := True ∧ True ∧ True ∧ True;
let q2 : Prop := True ∧ q1;
let q3 : Int := (0 : Int);
let q4 : Int := (1 : Int);
∀ (x : List Int × List Int × Unit),
  let q5 : Nat := x.1.length;
  let q6 : Nat := x.2.1.length;
  let q7 : Int := (↑q6 : Int);
  let q8 : Bool := (↑q5 : Int) != q7;
  let q9 : Bool := Sp.listsB x.1 x.2.1;
  let q10 : Prop := q0 ∧ false = q9;
  let q11 : Prop := x.1 = x.1 ∧ x.2.1 = x.2.1 ∧ True;
  True →
    dFact (Ty.int IntKind.i64).slice x.1 ∧ dFact (Ty.int IntKind.i64).slice x.2.1 ∧ True →
      q0 ∧
        ((True ∧ q2) ∧ True) ∧
          (q8 = true → q10) ∧
            (q8 = false →
              q0 ∧
                (∃ (x_1 : Nat), (x_1 ≤ q6 ∧ q5 = q6 ∧ ∀ (w : Int), w ∈ List.take x_1 x.2.1 → w ∈ x.1) ∧ q3 = (↑x_1 : Int) ∧ q11) ∧
                  ∀ (x_1 : Nat),
                    let q12 : Bool := decide ((↑x_1 : Int) < q7);
                    let q13 : Bool := decide (Sp.idx x.1 (x.2.1.getD (↑x_1 : Int).toNat q3) < q3);
                    let q14 : Int := (↑x_1 : Int) + q4;
                    (x_1 ≤ q6 ∧ q5 = q6 ∧ ∀ (w : Int), w ∈ List.take x_1 x.2.1 → w ∈ x.1) → dFact (Ty.int IntKind.i64) (↑x_1 : Int) ∧ True → (q2 ∧ True) ∧ (q12 = true → ((True ∧ True ∧ True ∧ inN (↑x_1 : Int) q6 ∧ q1) ∧ True) ∧ (q13 = true → q10) ∧ (q13 = false → ((True ∧ inK IntKind.i64 q14 ∧ True ∧ True) ∧ True) ∧ ∃ (y : Nat), (y ≤ q6 ∧ q5 = q6 ∧ ∀ (w : Int), w ∈ List.take y x.2.1 → w ∈ x.1) ∧ q6 - y < q6 - x_1 ∧ q14 = (↑y : Int) ∧ q11)) ∧ (q12 = false → q0 ∧ true = q9))) := by kernel_rfl
theorem vc49 : funI C49 (stpP C49) S49 L49 Try.f49 = (
let q0 : Prop := (True ∧ True) ∧ True;
let q1 : Prop := True ∧ True ∧ True;
let q2 : Int := (0 : Int);
let q3 : Int × Unit := (q2, ());
let q4 : Int × (Int × Int × Int × Unit) × Int × Unit := (q2, (q2, q2, q3), q3);
∀ (x : List (Int × (Int × Int × Int × Unit) × Int × Unit) × Int × Int × Unit),
  let q5 : Nat := x.1.length;
  let q6 : Prop := inN x.2.1 q5;
  let q7 : Bool := x.2.2.1 == (-1 : Int);
  let q8 : Bool := Sp.srcB x.1 x.2.1 x.2.2.1;
  let q9 : Int × Int × Int × Unit := (x.1.getD x.2.1.toNat q4).2.1;
  let q10 : Bool := Sp.reads q9;
  let q11 : Prop := (true && bif q10 then true else false) = true → True;
  let q12 : Bool := bif q10 then decide (x.2.2.1 ≥ q2) else false;
  let q13 : Prop := (true && bif q12 then true else false) = true → True;
  let q14 : Bool := bif q12 then decide (x.2.2.1 < (↑q5 : Int)) else false;
  let q15 : Prop := (true && bif q14 then true else false) = true;
  let q16 : Prop := q15 → True;
  let q17 : Prop := inN x.2.2.1 q5;
  let q18 : Int × Int × Int × Unit := (x.1.getD x.2.2.1.toNat q4).2.1;
  let q19 : Bool := bif q14 then Sp.writes q18 else false;
  let q20 : Prop := (true && bif q19 then true else false) = true;
  let q21 : Prop := q20 → True;
  q6 → dFact ((Ty.int IntKind.i64).prod (((Ty.int IntKind.i64).prod ((Ty.int IntKind.i64).prod ((Ty.int IntKind.i64).prod Ty.unit))).prod ((Ty.int IntKind.i64).prod Ty.unit))).slice x.1 ∧ dFact (Ty.int IntKind.i64) x.2.1 ∧ dFact (Ty.int IntKind.i64) x.2.2.1 ∧ True → q0 ∧ (q1 ∧ True) ∧ (q7 = true → q0 ∧ true = q8) ∧ (q7 = false → ((True ∧ True ∧ q6 ∧ True ∧ True ∧ True ∧ True ∧ q11 ∧ q11 ∧ True ∧ True ∧ q13 ∧ q13 ∧ q13 ∧ q13 ∧ True ∧ True ∧ q16 ∧ q16 ∧ (q15 → q17) ∧ q16 ∧ q16 ∧ q16 ∧ True ∧ True ∧ q21 ∧ q21 ∧ (q20 → q17) ∧ q21 ∧ q21 ∧ q21 ∧ q21 ∧ q21 ∧ (q20 → q6) ∧ q21 ∧ q21 ∧ q21 ∧ q21 ∧ q1) ∧ True) ∧ (bif q19 then q18.2.1 == q9.2.1 else false) = q8)) := by kernel_rfl
theorem vc55 : funI C55 (stpP C55) S55 L55 Try.f55 = (
let q0 : Prop := True ∧ True ∧ True;
let q1 : Int := (0 : Int);
let q2 : Int × Unit := (q1, ());
let q3 : Int × (Int × Int × Int × Unit) × Int × Unit := (q1, (q1, q1, q2), q2);
∀ (x : (List (Int × (Int × Int × Int × Unit) × Int × Unit) × List Int × List (List Int) × List Int × Unit) × Int × Int × Unit),
  let q4 : Nat := x.1.1.length;
  let q5 : Prop := inN x.2.1 q4;
  let q6 : Prop := inN x.2.2.1 q4;
  let q7 : Bool := (x.1.1.getD x.2.1.toNat q3).1 == (x.1.1.getD x.2.2.1.toNat q3).1;
  let q8 : Prop := (true && bif q7 then true else false) = true → True;
  let q9 : Bool := bif q7 then decide (x.2.1 < x.2.2.1) else false;
  let q10 : List Int := x.1.2.2.2.1;
  let q11 : Bool := Sp.rord x.1.1 q10 x.2.1 x.2.2.1;
  let q12 : Int := Sp.idx q10 x.2.1;
  let q13 : Bool := decide (q12 ≥ q1);
  let q14 : Prop := (true && bif q13 then true else false) = true → True;
  q5 ∧ q6 → dFact (((Ty.int IntKind.i64).prod (((Ty.int IntKind.i64).prod ((Ty.int IntKind.i64).prod ((Ty.int IntKind.i64).prod Ty.unit))).prod ((Ty.int IntKind.i64).prod Ty.unit))).slice.prod ((Ty.int IntKind.i64).slice.prod ((Ty.int IntKind.i64).slice.slice.prod ((Ty.int IntKind.i64).slice.prod Ty.unit)))) x.1 ∧ dFact (Ty.int IntKind.i64) x.2.1 ∧ dFact (Ty.int IntKind.i64) x.2.2.1 ∧ True → (q0 ∧ True) ∧ ((True ∧ True ∧ True ∧ q5 ∧ True ∧ True ∧ True ∧ True ∧ True ∧ q6 ∧ True ∧ True ∧ True ∧ True ∧ q8 ∧ q8 ∧ q8 ∧ True ∧ True) ∧ True) ∧ (q9 = true → ((True ∧ True) ∧ True) ∧ true = q11) ∧ (q9 = false → ((True ∧ True ∧ True ∧ q0) ∧ True) ∧ ((True ∧ True ∧ True ∧ q14 ∧ q14 ∧ q14 ∧ q14 ∧ q14 ∧ q14 ∧ q0) ∧ True) ∧ (bif q13 then decide (q12 < Sp.idx q10 x.2.2.1) else false) = q11)) := by kernel_rfl
theorem vc57 : funI C57 (stpP C57) S57 L57 Try.f57 = (
let q0 : Prop := True ∧ True ∧ True;
let q1 : Int := (0 : Int);
let q2 : Int × Unit := (q1, ());
let q3 : Int × (Int × Int × Int × Unit) × Int × Unit := (q1, (q1, q1, q2), q2);
let q4 : Prop := True ∧ q0;
∀ (x : (List (Int × (Int × Int × Int × Unit) × Int × Unit) × List Int × List (List Int) × List Int × Unit) × Int × Bool × Unit),
  let q5 : Int := (Sp.ev x.1.1 x.2.1).2.1.2.1;
  let q6 : Int := (x.1.1.getD x.2.1.toNat q3).2.1.2.1;
  let q7 : List Int := x.1.2.2.1.getD q6.toNat (([] : List tI.den));
  let q8 : List Int := x.1.2.2.1.getD q5.toNat (([] : List Int));
  let q9 : Int := bif x.2.2.1 then Sp.idx q8 (x.1.2.1.getD x.2.1.toNat q1) else Sp.idx q8 x.2.1;
  inN x.2.1 x.1.1.length ∧ inN x.2.1 x.1.2.1.length ∧ inN q5 x.1.2.2.1.length → dFact (((Ty.int IntKind.i64).prod (((Ty.int IntKind.i64).prod ((Ty.int IntKind.i64).prod ((Ty.int IntKind.i64).prod Ty.unit))).prod ((Ty.int IntKind.i64).prod Ty.unit))).slice.prod ((Ty.int IntKind.i64).slice.prod ((Ty.int IntKind.i64).slice.slice.prod ((Ty.int IntKind.i64).slice.prod Ty.unit)))) x.1 ∧ dFact (Ty.int IntKind.i64) x.2.1 ∧ dFact Ty.bool x.2.2.1 ∧ True → (q0 ∧ True) ∧ ((True ∧ True ∧ True ∧ True ∧ True ∧ inN x.2.1 x.1.1.length ∧ True ∧ True ∧ True ∧ inN q6 x.1.2.2.1.length ∧ q0) ∧ True) ∧ ((True ∧ True) ∧ True) ∧ (x.2.2.1 = true → ((True ∧ True ∧ True ∧ True ∧ inN x.2.1 x.1.2.1.length ∧ q4) ∧ True) ∧ Sp.idx q7 (x.1.2.1.getD x.2.1.toNat q1) = q9) ∧ (x.2.2.1 = false → ((True ∧ q4) ∧ True) ∧ Sp.idx q7 x.2.1 = q9)) := by kernel_rfl
theorem vc58 : funI C58 (stpP C58) S58 L58 Try.f58 = (
let q0 : Prop := True ∧ True ∧ True;
let q1 : Prop := True ∧ q0;
let q2 : Int := (0 : Int);
let q3 : Int × Unit := (q2, ());
let q4 : Int × (Int × Int × Int × Unit) × Int × Unit := (q2, (q2, q2, q3), q3);
let q5 : Prop := (True ∧ True) ∧ True;
∀ (x : (List (Int × (Int × Int × Int × Unit) × Int × Unit) × List Int × List (List Int) × List Int × Unit) × Int × Int × Unit),
  let q6 : Nat := x.1.1.length;
  let q7 : Nat := x.1.2.1.length;
  let q8 : Int := (Sp.ev x.1.1 x.2.1).2.1.2.1;
  let q9 : Nat := x.1.2.2.1.length;
  let q10 : Prop := inN x.2.1 q6 ∧ inN x.2.1 q7 ∧ inN q8 q9;
  let q11 : Int := (Sp.ev x.1.1 x.2.2.1).2.1.2.1;
  let q12 : Prop := inN x.2.2.1 q6 ∧ inN x.2.2.1 q7 ∧ inN q11 q9;
  let q13 : Nat := x.1.1.length;
  let q14 : Int × Int × Int × Unit := (x.1.1.getD x.2.1.toNat q4).2.1;
  let q15 : Bool := Sp.writes q14;
  let q16 : Prop := (true && bif q15 then true else false) = true → True;
  let q17 : Nat := x.2.2.1.toNat;
  let q18 : Int × Int × Int × Unit := (x.1.1.getD q17 q4).2.1;
  let q19 : Bool := Sp.writes q18;
  let q20 : Bool := bif q15 then q19 else false;
  let q21 : Prop := (true && bif q20 then true else false) = true;
  let q22 : Prop := q21 → True;
  let q23 : List Int := x.1.2.2.1.getD q8.toNat (([] : List Int));
  let q24 : Int := Sp.idx q23 x.2.1;
  let q25 : List Int := x.1.2.2.1.getD q11.toNat (([] : List Int));
  let q26 : Int := Sp.idx q25 x.2.2.1;
  let q27 : Bool := bif q20 then decide (q24 ≥ q26) else false;
  let q28 : Bool := Sp.rcoh x.1 x.2.1 x.2.2.1;
  let q29 : Prop := q5 ∧ false = q28;
  let q30 : Bool := Sp.reads q18;
  let q31 : Bool := bif q15 then q30 else false;
  let q32 : Prop := (true && bif q31 then true else false) = true;
  let q33 : Prop := q32 → True;
  let q34 : Int := Sp.idx q25 (x.1.2.1.getD q17 q2);
  let q35 : Bool := bif q31 then decide (q24 > q34) else false;
  let q36 : Bool := Sp.reads q14;
  let q37 : Prop := (true && bif q36 then true else false) = true → True;
  let q38 : Bool := bif q36 then q19 else false;
  let q39 : Prop := (true && bif q38 then true else false) = true;
  let q40 : Prop := q39 → True;
  let q41 : Int := Sp.idx q23 (x.1.2.1.getD x.2.1.toNat q2);
  let q42 : Bool := bif q38 then decide (q41 ≥ q26) else false;
  let q43 : Bool := !q36;
  let q44 : Prop := (true && bif q43 then false else true) = true → True;
  let q45 : Bool := bif q43 then true else !q30;
  let q46 : Prop := (true && bif q45 then false else true) = true;
  let q47 : Prop := q46 → True;
  q10 ∧ q12 → dFact (((Ty.int IntKind.i64).prod (((Ty.int IntKind.i64).prod ((Ty.int IntKind.i64).prod ((Ty.int IntKind.i64).prod Ty.unit))).prod ((Ty.int IntKind.i64).prod Ty.unit))).slice.prod ((Ty.int IntKind.i64).slice.prod ((Ty.int IntKind.i64).slice.slice.prod ((Ty.int IntKind.i64).slice.prod Ty.unit)))) x.1 ∧ dFact (Ty.int IntKind.i64) x.2.1 ∧ dFact (Ty.int IntKind.i64) x.2.2.1 ∧ True → (q0 ∧ True) ∧ ((True ∧ True ∧ True ∧ inN x.2.1 q13 ∧ q1) ∧ True ∧ True) ∧ ((True ∧ True ∧ True ∧ inN x.2.2.1 q13 ∧ q1) ∧ True ∧ True) ∧ ((True ∧ True ∧ True ∧ q16 ∧ q16 ∧ True ∧ True ∧ q22 ∧ q22 ∧ (q21 → q10) ∧ q22 ∧ q22 ∧ (q21 → q12) ∧ q22 ∧ True ∧ True) ∧ True) ∧ (q27 = true → q29) ∧ (q27 = false → ((True ∧ True ∧ True ∧ q16 ∧ q16 ∧ True ∧ True ∧ q33 ∧ q33 ∧ (q32 → q10) ∧ q33 ∧ q33 ∧ (q32 → q12) ∧ q33 ∧ True ∧ True) ∧ True) ∧ (q35 = true → q29) ∧ (q35 = false → ((True ∧ True ∧ True ∧ q37 ∧ q37 ∧ True ∧ True ∧ q40 ∧ q40 ∧ (q39 → q10) ∧ q40 ∧ q40 ∧ (q39 → q12) ∧ q40 ∧ True ∧ True) ∧ True) ∧ (q42 = true → q29) ∧ (q42 = false → ((True ∧ True ∧ True ∧ True ∧ q44 ∧ q44 ∧ q44 ∧ True ∧ True ∧ q47 ∧ q47 ∧ (q46 → q10) ∧ q47 ∧ q47 ∧ (q46 → q12) ∧ q47 ∧ q0) ∧ True) ∧ (bif q45 then true else decide (q41 ≤ q34)) = q28)))) := by kernel_rfl
theorem vc56 : funI C56 (stpP C56) S56 L56 Try.f56 = (
let q0 : Prop := (True ∧ True) ∧ True;
let q1 : Prop := True ∧ True ∧ True;
let q2 : Prop := (True ∧ q1) ∧ True;
let q3 : Int := (1 : Int);
∀ (x : Int × List Bool × Unit),
  let q4 : Nat := x.2.1.length;
  let q5 : Prop := x.1 = x.1;
  let q6 : Prop := q5 ∧ True;
  (0 : (AK.val tI).den) ≤ x.1 ∧ x.1 ≤ (6 : Int) ∧ q4 = x.1.toNat * x.1.toNat →
    dFact (Ty.int IntKind.i64) x.1 ∧ dFact Ty.bool.slice x.2.1 ∧ True →
      q0 ∧
        ((True ∧ True ∧ (↑((0 : Nat) + q4) : Int) ≤ maxNew ∧ True) ∧ True ∧ True) ∧
          q0 ∧
            (∃ (x_1 : Nat), x_1 ≤ x.1.toNat ∧ (0 : Int) = (↑x_1 : Int) ∧ x.2.1 = Sp.closC x.1.toNat x.2.1 x_1 ∧ q6) ∧
              ∀ (x_1 : Nat),
                let q7 : List Bool := Sp.closC x.1.toNat x.2.1 x_1;
                let q8 : Bool := decide ((↑x_1 : Int) < x.1);
                let q9 : Prop := (↑x_1 : Int) = (↑x_1 : Int);
                let q10 : Prop := q5 ∧ q9 ∧ True;
                let q11 : Int := (↑x_1 : Int) * x.1;
                let q12 : Int := (↑x_1 : Int) + q3;
                x_1 ≤ x.1.toNat →
                  dFact (Ty.int IntKind.i64) (↑x_1 : Int) ∧ dFact Ty.bool.slice q7 ∧ True →
                    q2 ∧
                      (q8 = true →
                          q0 ∧
                            (∃ (x_2 : Nat), x_2 ≤ x.1.toNat ∧ (0 : Int) = (↑x_2 : Int) ∧ q7 = Sp.rowsC x.1.toNat x_1 q7 x_2 ∧ q10) ∧
                              ∀ (x_2 : Nat),
                                let q13 : List Bool := Sp.rowsC x.1.toNat x_1 q7 x_2;
                                let q14 : Bool := decide ((↑x_2 : Int) < x.1);
                                let q15 : Prop := q5 ∧ q9 ∧ (↑x_2 : Int) = (↑x_2 : Int) ∧ True;
                                let q16 : Int := (↑x_2 : Int) * x.1;
                                let q17 : Prop := inK IntKind.i64 q16;
                                let q18 : Int := q16 + (↑x_1 : Int);
                                let q19 : Int := (↑x_2 : Int) + q3;
                                x_2 ≤ x.1.toNat →
                                  dFact (Ty.int IntKind.i64) (↑x_2 : Int) ∧ dFact Ty.bool.slice q13 ∧ True →
                                    q2 ∧
                                      (q14 = true →
                                          q0 ∧
                                            (∃ (x_3 : Nat), x_3 ≤ x.1.toNat ∧ (0 : Int) = (↑x_3 : Int) ∧ q13 = Sp.rowC x.1.toNat x_1 x_2 q13 x_3 ∧ q15) ∧
                                              ∀ (x_3 : Nat),
                                                let q20 : List Bool := Sp.rowC x.1.toNat x_1 x_2 q13 x_3;
                                                let q21 : Bool := decide ((↑x_3 : Int) < x.1);
                                                let q22 : Nat := q20.length;
                                                let q23 : Bool := q20.getD q18.toNat false;
                                                let q24 : Prop := (true && bif q23 then true else false) = true;
                                                let q25 : Prop := q24 → True;
                                                let q26 : Int := q11 + (↑x_3 : Int);
                                                let q27 : Bool := bif q23 then q20.getD q26.toNat false else false;
                                                let q28 : Int := q16 + (↑x_3 : Int);
                                                let q29 : Int := (↑x_3 : Int) + q3;
                                                let q30 : Prop := (True ∧ inK IntKind.i64 q29 ∧ True ∧ True) ∧ True;
                                                x_3 ≤ x.1.toNat → dFact (Ty.int IntKind.i64) (↑x_3 : Int) ∧ dFact Ty.bool.slice q20 ∧ True → q2 ∧ (q21 = true → ((True ∧ True ∧ True ∧ q17 ∧ True ∧ inK IntKind.i64 q18 ∧ inN q18 q22 ∧ True ∧ True ∧ q25 ∧ q25 ∧ q25 ∧ (q24 → inK IntKind.i64 q11) ∧ q25 ∧ (q24 → inK IntKind.i64 q26) ∧ (q24 → inN q26 q22) ∧ q25 ∧ True ∧ True) ∧ True) ∧ (q27 = true → ((True ∧ True ∧ True ∧ q17 ∧ True ∧ inK IntKind.i64 q28 ∧ inN q28 q22 ∧ True) ∧ True ∧ True) ∧ q30 ∧ ∃ (y : Nat), y ≤ x.1.toNat ∧ x.1.toNat - y < x.1.toNat - x_3 ∧ q29 = (↑y : Int) ∧ q20.set q28.toNat true = Sp.rowC x.1.toNat x_1 x_2 q13 y ∧ q15) ∧ (q27 = false → q30 ∧ ∃ (y : Nat), y ≤ x.1.toNat ∧ x.1.toNat - y < x.1.toNat - x_3 ∧ q29 = (↑y : Int) ∧ q20 = Sp.rowC x.1.toNat x_1 x_2 q13 y ∧ q15)) ∧ (q21 = false → ((True ∧ inK IntKind.i64 q19 ∧ True ∧ True) ∧ True) ∧ ∃ (y : Nat), y ≤ x.1.toNat ∧ x.1.toNat - y < x.1.toNat - x_2 ∧ q19 = (↑y : Int) ∧ q20 = Sp.rowsC x.1.toNat x_1 q7 y ∧ q10)) ∧
                                        (q14 = false → ((True ∧ inK IntKind.i64 q12 ∧ True ∧ True) ∧ True) ∧ ∃ (y : Nat), y ≤ x.1.toNat ∧ x.1.toNat - y < x.1.toNat - x_1 ∧ q12 = (↑y : Int) ∧ q13 = Sp.closC x.1.toNat x.2.1 y ∧ q6)) ∧
                        (q8 = false → (q1 ∧ True) ∧ q7 = Sp.closC x.1.toNat x.2.1 x.1.toNat)) := by kernel_rfl
theorem vc17 : funI C17 (stpP C17) S17 L17 Try.f17 = (
let q0 : Int := (0 : Int);
let q1 : Nat := (1000 : Nat);
let q2 : Prop := True ∧ True ∧ True;
let q3 : Prop := True ∧ q2;
let q4 : Prop := q3 ∧ True;
let q5 : Prop := (True ∧ True) ∧ True;
let q6 : Int := (3 : Int);
let q7 : Nat := (3 : Nat);
let q8 : Int := (1 : Int);
let q9 : Int := (0 : tI.den);
let q10 : Prop := True ∧ q3;
let q11 : Prop := q10 ∧ True;
let q12 : Int × Unit := (q0, ());
let q13 : Int × (Int × Int × Int × Unit) × Int × Unit := (q0, (q0, q0, q12), q12);
∀ (x : (List (List (Int × Int × Int × Unit)) × Unit) × (List (Int × (Int × Int × Int × Unit) × Int × Unit) × List Int × List (List Int) × List Int × Unit) × Unit),
  let q14 : List (Int × (Int × Int × Int × Unit) × Int × Unit) := Sp.evs q0 x.1.1;
  let q15 : Nat := q14.length;
  let q16 : Prop := q15 ≤ q1;
  let q17 : Bool := !Sp.valid x.1;
  let q18 : Bool := Sp.right x.1 x.2.1;
  let q19 : Prop := q5 ∧ false = q18;
  let q20 : Nat := x.2.1.1.length;
  let q21 : Int := (↑q20 : Int);
  let q22 : Nat := q14.length;
  let q23 : Int := (↑q22 : Int);
  let q24 : Bool := q21 != q23;
  let q25 : Prop := (true && bif q24 then false else true) = true → True;
  let q26 : Nat := x.2.1.2.1.length;
  let q27 : Bool := bif q24 then true else (↑q26 : Int) != q23;
  let q28 : Prop := (true && bif q27 then false else true) = true → True;
  let q29 : List (List Int) := x.2.1.2.2.1;
  let q30 : Nat := q29.length;
  let q31 : Bool := bif q27 then true else (↑q30 : Int) != q6;
  let q32 : Prop := (true && bif q31 then false else true) = true;
  let q33 : Prop := q32 → True;
  let q34 : Prop := q22 ≤ q1;
  let q35 : Bool := bif q31 then true else !Sp.listsB x.2.1.2.2.2.1 (Sp.fen q14);
  let q36 : Prop := x.1 = x.1 ∧ x.2.1 = x.2.1 ∧ q14 = q14 ∧ True;
  q16 →
    dFact (((Ty.int IntKind.i64).prod ((Ty.int IntKind.i64).prod ((Ty.int IntKind.i64).prod Ty.unit))).slice.slice.prod Ty.unit) x.1 ∧ dFact (((Ty.int IntKind.i64).prod (((Ty.int IntKind.i64).prod ((Ty.int IntKind.i64).prod ((Ty.int IntKind.i64).prod Ty.unit))).prod ((Ty.int IntKind.i64).prod Ty.unit))).slice.prod ((Ty.int IntKind.i64).slice.prod ((Ty.int IntKind.i64).slice.slice.prod ((Ty.int IntKind.i64).slice.prod Ty.unit)))) x.2.1 ∧ True →
      q4 ∧
        q4 ∧
          (q17 = true → q19) ∧
            (q17 = false →
              ((True ∧ q16 ∧ True) ∧ True ∧ True) ∧
                ((True ∧ True ∧ True ∧ True ∧ True ∧ True ∧ True ∧ q25 ∧ q25 ∧ q25 ∧ q25 ∧ q25 ∧ q25 ∧ True ∧ True ∧ q28 ∧ q28 ∧ q28 ∧ q28 ∧ True ∧ True ∧ q33 ∧ q33 ∧ q33 ∧ (q32 → q34) ∧ q33 ∧ q33 ∧ True ∧ True) ∧ True) ∧
                  (q35 = true → q19) ∧
                    (q35 = false →
                      q5 ∧
                        (∃ (x : Nat), (x ≤ q7 ∧ ∀ (p : Nat), p < x → Sp.listsB (q29.getD p (([] : List tI.den))) (Sp.wr q14 (↑p : Int)) = true) ∧ q0 = (↑x : Int) ∧ q36) ∧
                          ∀ (x_1 : Nat),
                            let q37 : Bool := decide ((↑x_1 : Int) < q6);
                            let q38 : Bool := !Sp.listsB (q29.getD (↑x_1 : Int).toNat (([] : List tI.den))) (Sp.wr q14 (↑x_1 : Int));
                            let q39 : Int := (↑x_1 : Int) + q8;
                            (x_1 ≤ q7 ∧ ∀ (p : Nat), p < x_1 → Sp.listsB (q29.getD p (([] : List tI.den))) (Sp.wr q14 (↑p : Int)) = true) →
                              dFact (Ty.int IntKind.i64) (↑x_1 : Int) ∧ True →
                                (q2 ∧ True) ∧
                                  (q37 = true → ((True ∧ True ∧ True ∧ inN (↑x_1 : Int) q30 ∧ True ∧ True ∧ True ∧ q34 ∧ q2) ∧ True) ∧ (q38 = true → q19) ∧ (q38 = false → ((True ∧ inK IntKind.i64 q39 ∧ True ∧ True) ∧ True) ∧ ∃ (y : Nat), (y ≤ q7 ∧ ∀ (p : Nat), p < y → Sp.listsB (q29.getD p (([] : List tI.den))) (Sp.wr q14 (↑p : Int)) = true) ∧ q7 - y < q7 - x_1 ∧ q39 = (↑y : Int) ∧ q36)) ∧
                                    (q37 = false →
                                      q5 ∧
                                        (∃ (x_2 : Nat),
                                            (x_2 ≤ q15 ∧
                                                ∀ (j : Nat),
                                                  let q40 : Int × (Int × Int × Int × Unit) × Int × Unit := Sp.ev x.2.1.1 (↑j : Int);
                                                  let q41 : Int × (Int × Int × Int × Unit) × Int × Unit := Sp.ev q14 (↑j : Int);
                                                  j < x_2 → q40.1 = q41.1 ∧ q40.2.1 = q41.2.1 ∧ Sp.srcB q14 (↑j : Int) (x.2.1.2.1.getD j q9) = true) ∧
                                              q0 = (↑x_2 : Int) ∧ q36) ∧
                                          ∀ (x_2 : Nat),
                                            let q42 : Bool := decide ((↑x_2 : Int) < q23);
                                            let q43 : Prop := inN (↑x_2 : Int) q20;
                                            let q44 : Prop := inN (↑x_2 : Int) q22;
                                            let q45 : Nat := (↑x_2 : Int).toNat;
                                            let q46 : Int × (Int × Int × Int × Unit) × Int × Unit := x.2.1.1.getD q45 q13;
                                            let q47 : Int × (Int × Int × Int × Unit) × Int × Unit := q14.getD q45 q13;
                                            let q48 : Bool := q46.1 != q47.1;
                                            let q49 : Prop := (true && bif q48 then false else true) = true;
                                            let q50 : Prop := q49 → True;
                                            let q51 : Int × Int × Int × Unit := q46.2.1;
                                            let q52 : Int × Int × Int × Unit := q47.2.1;
                                            let q53 : Int × Int × Unit := q51.2;
                                            let q54 : Int × Int × Unit := q52.2;
                                            let q55 : Bool := bif q48 then true else !(decide (q51.1 = q52.1) && (decide (q53.1 = q54.1) && (decide (q53.2.1 = q54.2.1) && true)));
                                            let q56 : Prop := (true && bif q55 then false else true) = true;
                                            let q57 : Prop := q56 → True;
                                            let q58 : Bool := bif q55 then true else !Sp.srcB q14 (↑x_2 : Int) (x.2.1.2.1.getD q45 q0);
                                            let q59 : Int := (↑x_2 : Int) + q8;
                                            (x_2 ≤ q15 ∧
                                                ∀ (j : Nat),
                                                  let q60 : Int × (Int × Int × Int × Unit) × Int × Unit := Sp.ev x.2.1.1 (↑j : Int);
                                                  let q61 : Int × (Int × Int × Int × Unit) × Int × Unit := Sp.ev q14 (↑j : Int);
                                                  j < x_2 → q60.1 = q61.1 ∧ q60.2.1 = q61.2.1 ∧ Sp.srcB q14 (↑j : Int) (x.2.1.2.1.getD j q9) = true) →
                                              dFact (Ty.int IntKind.i64) (↑x_2 : Int) ∧ True →
                                                q11 ∧
                                                  (q42 = true →
                                                      ((True ∧ True ∧ True ∧ q43 ∧ True ∧ True ∧ True ∧ True ∧ q44 ∧ True ∧ True ∧ True ∧ True ∧ q50 ∧ q50 ∧ q50 ∧ (q49 → q43) ∧ q50 ∧ q50 ∧ q50 ∧ q50 ∧ (q49 → q44) ∧ q50 ∧ q50 ∧ q50 ∧ True ∧ True ∧ q57 ∧ q57 ∧ q57 ∧ q57 ∧ q57 ∧ (q56 → inN (↑x_2 : Int) q26) ∧ q57 ∧ (q56 → q44) ∧ q57 ∧ True ∧ True) ∧ True) ∧
                                                        (q58 = true → q19) ∧
                                                          (q58 = false →
                                                            ((True ∧ inK IntKind.i64 q59 ∧ True ∧ True) ∧ True) ∧
                                                              ∃ (y : Nat),
                                                                (y ≤ q15 ∧
                                                                    ∀ (j : Nat),
                                                                      let q62 : Int × (Int × Int × Int × Unit) × Int × Unit := Sp.ev x.2.1.1 (↑j : Int);
                                                                      let q63 : Int × (Int × Int × Int × Unit) × Int × Unit := Sp.ev q14 (↑j : Int);
                                                                      j < y → q62.1 = q63.1 ∧ q62.2.1 = q63.2.1 ∧ Sp.srcB q14 (↑j : Int) (x.2.1.2.1.getD j q9) = true) ∧
                                                                  q15 - y < q15 - x_2 ∧ q59 = (↑y : Int) ∧ q36)) ∧
                                                    (q42 = false →
                                                      q5 ∧
                                                        (∃ (x_3 : Nat), (x_3 ≤ q15 ∧ ∀ (j : Nat), j < x_3 → Sp.gotE q14 x.2.1 j) ∧ q0 = (↑x_3 : Int) ∧ q36) ∧
                                                          ∀ (x_3 : Nat),
                                                            let q64 : Bool := decide ((↑x_3 : Int) < q23);
                                                            let q65 : Nat := (↑x_3 : Int).toNat;
                                                            let q66 : Bool := Sp.reads (q14.getD q65 q13).2.1;
                                                            let q67 : Int := x.2.1.2.1.getD q65 q0;
                                                            let q68 : Prop := (True ∧ True ∧ True ∧ inN (↑x_3 : Int) q20 ∧ q10) ∧ True;
                                                            let q69 : Int := (x.2.1.1.getD q65 q13).2.2.1;
                                                            let q70 : Bool := q69 != Sp.value x.2.1.1 q67;
                                                            let q71 : Int := (↑x_3 : Int) + q8;
                                                            let q72 : Prop := ((True ∧ inK IntKind.i64 q71 ∧ True ∧ True) ∧ True) ∧ ∃ (y : Nat), (y ≤ q15 ∧ ∀ (j : Nat), j < y → Sp.gotE q14 x.2.1 j) ∧ q15 - y < q15 - x_3 ∧ q71 = (↑y : Int) ∧ q36;
                                                            let q73 : Bool := q69 != q0;
                                                            (x_3 ≤ q15 ∧ ∀ (j : Nat), j < x_3 → Sp.gotE q14 x.2.1 j) → dFact (Ty.int IntKind.i64) (↑x_3 : Int) ∧ True → q11 ∧ (q64 = true → q5 ∧ ((True ∧ True ∧ inN (↑x_3 : Int) q22 ∧ q3) ∧ True) ∧ (q66 = true → ((True ∧ True ∧ True ∧ True ∧ inN (↑x_3 : Int) q26 ∧ True ∧ q67 < q21 ∧ True ∧ True) ∧ True) ∧ q68 ∧ (q70 = true → q19) ∧ (q70 = false → q72)) ∧ (q66 = false → q68 ∧ (q73 = true → q19) ∧ (q73 = false → q72))) ∧ (q64 = false → q5 ∧ true = q18)))))) := by kernel_rfl
theorem vc19 : funI C19 (stpP C19) S19 L19 Try.f19 = (
let q0 : Int := (0 : Int);
let q1 : Nat := (1000 : Nat);
let q2 : Prop := True ∧ True ∧ True;
let q3 : Prop := True ∧ q2;
let q4 : Prop := q3 ∧ True;
let q5 : Prop := (True ∧ True) ∧ True;
let q6 : Int := (1 : Int);
let q7 : Int × Unit := (q0, ());
let q8 : Int × (Int × Int × Int × Unit) × Int × Unit := (q0, (q0, q0, q7), q7);
let q9 : Int := (4 : Int);
∀ (x : (List (List (Int × Int × Int × Unit)) × Unit) × (List (Int × (Int × Int × Int × Unit) × Int × Unit) × List Int × List (List Int) × List Int × Unit) × Unit),
  let q10 : Prop := (Sp.evs q0 x.1.1).length ≤ q1;
  let q11 : Bool := !Sp.right x.1 x.2.1;
  let q12 : Bool := Sp.allowed x.1 x.2.1;
  let q13 : Prop := q5 ∧ false = q12;
  let q14 : Nat := x.2.1.1.length;
  let q15 : Int := (↑q14 : Int);
  let q16 : Int := q15 * q15;
  let q17 : Prop := (True ∧ True ∧ inK IntKind.i64 q16 ∧ ((0 : (Ty.int IntKind.i64).den) ≤ q16 ∧ q16 ≤ q16 ∧ q16 ≤ maxNew) ∧ True) ∧ True ∧ True;
  let q18 : List Bool := List.replicate q16.toNat false;
  let q19 : Prop := x.2.1 = x.2.1;
  let q20 : Prop := q15 = q15;
  let q21 : Prop := q19 ∧ q20 ∧ True;
  let q22 : List Int := x.2.1.2.2.2.1;
  let q23 : Prop := (0 : (AK.val tI).den) ≤ q15;
  let q24 : Prop := q15 ≤ (6 : Int);
  let q25 : Nat := q15.toNat;
  let q26 : Nat := q25 * q25;
  let q27 : Prop := dFact Ty.bool.slice (Sp.rBef x.2.1);
  let q28 : Nat := x.2.1.1.length;
  let q29 : Nat := x.2.1.2.1.length;
  let q30 : List (List Int) := x.2.1.2.2.1;
  let q31 : Nat := q30.length;
  let q32 : Prop := Sp.rBef x.2.1 = Sp.rBef x.2.1;
  let q33 : Prop := q32 ∧ q21;
  q10 →
    dFact (((Ty.int IntKind.i64).prod ((Ty.int IntKind.i64).prod ((Ty.int IntKind.i64).prod Ty.unit))).slice.slice.prod Ty.unit) x.1 ∧ dFact (((Ty.int IntKind.i64).prod (((Ty.int IntKind.i64).prod ((Ty.int IntKind.i64).prod ((Ty.int IntKind.i64).prod Ty.unit))).prod ((Ty.int IntKind.i64).prod Ty.unit))).slice.prod ((Ty.int IntKind.i64).slice.prod ((Ty.int IntKind.i64).slice.slice.prod ((Ty.int IntKind.i64).slice.prod Ty.unit)))) x.2.1 ∧ True →
      q4 ∧
        ((True ∧ True ∧ q10 ∧ True ∧ True) ∧ True) ∧
          (q11 = true → q13) ∧
            (q11 = false →
              ((True ∧ q3) ∧ True) ∧
                q17 ∧
                  q17 ∧
                    q5 ∧
                      (∃ (x_1 : Nat),
                          let q34 : Nat := x_1 * q14;
                          x_1 ≤ q14 ∧ q0 = (↑x_1 : Int) ∧ q18 = Sp.bl q14 (Sp.fO x.2.1) q34 ∧ q18 = Sp.bl q14 (Sp.fF x.2.1) q34 ∧ q21) ∧
                        ∀ (x_1 : Nat),
                          let q35 : Nat := x_1 * q14;
                          let q36 : List Bool := Sp.bl q14 (Sp.fO x.2.1) q35;
                          let q37 : List Bool := Sp.bl q14 (Sp.fF x.2.1) q35;
                          let q38 : Bool := decide ((↑x_1 : Int) < q15);
                          let q39 : Prop := q19 ∧ q20 ∧ (↑x_1 : Int) = (↑x_1 : Int) ∧ True;
                          let q40 : Int := (↑x_1 : Int) * q15;
                          let q41 : Prop := inK IntKind.i64 q40;
                          let q42 : Int := (↑x_1 : Int) + q6;
                          x_1 ≤ q14 →
                            dFact (Ty.int IntKind.i64) (↑x_1 : Int) ∧ dFact Ty.bool.slice q36 ∧ dFact Ty.bool.slice q37 ∧ True →
                              q4 ∧
                                (q38 = true →
                                    q5 ∧
                                      (∃ (x_2 : Nat),
                                          let q43 : Nat := q35 + x_2;
                                          (x_1 < q14 ∧ x_2 ≤ q14) ∧ q0 = (↑x_2 : Int) ∧ q36 = Sp.bl q14 (Sp.fO x.2.1) q43 ∧ q37 = Sp.bl q14 (Sp.fF x.2.1) q43 ∧ q39) ∧
                                        ∀ (x_2 : Nat),
                                          let q44 : Nat := q35 + x_2;
                                          let q45 : List Bool := Sp.bl q14 (Sp.fO x.2.1) q44;
                                          let q46 : List Bool := Sp.bl q14 (Sp.fF x.2.1) q44;
                                          let q47 : Bool := decide ((↑x_2 : Int) < q15);
                                          let q48 : Int := q40 + (↑x_2 : Int);
                                          let q49 : Prop := inK IntKind.i64 q48;
                                          let q50 : Nat := q48.toNat;
                                          let q51 : List Bool := q45.set q50 (Sp.rord x.2.1.1 q22 (↑x_1 : Int) (↑x_2 : Int));
                                          let q52 : Bool := q51.getD q50 false;
                                          let q53 : Prop := (true && bif q52 then false else true) = true;
                                          let q54 : Prop := q53 → True;
                                          let q55 : Int := (↑x_2 : Int) + q6;
                                          x_1 < q14 ∧ x_2 ≤ q14 →
                                            dFact (Ty.int IntKind.i64) (↑x_2 : Int) ∧ dFact Ty.bool.slice q45 ∧ dFact Ty.bool.slice q46 ∧ True →
                                              q4 ∧
                                                (q47 = true →
                                                    ((True ∧ True ∧ True ∧ q41 ∧ True ∧ q49 ∧ True ∧ True ∧ True ∧ (inN (↑x_1 : Int) q14 ∧ inN (↑x_2 : Int) q14) ∧ inN q48 q45.length ∧ True) ∧ True ∧ True) ∧
                                                      ((True ∧ True ∧ True ∧ q41 ∧ True ∧ q49 ∧ True ∧ True ∧ True ∧ q41 ∧ True ∧ q49 ∧ inN q48 q51.length ∧ True ∧ True ∧ q54 ∧ q54 ∧ q54 ∧ (q53 → inN (↑x_2 : Int) x.2.1.2.1.length) ∧ q54 ∧ q54 ∧ q54 ∧ True ∧ inN q48 q46.length ∧ True) ∧ True ∧ True) ∧
                                                        ((True ∧ inK IntKind.i64 q55 ∧ True ∧ True) ∧ True) ∧
                                                          ∃ (y : Nat),
                                                            let q56 : Nat := q35 + y;
                                                            (x_1 < q14 ∧ y ≤ q14) ∧ q14 - y < q14 - x_2 ∧ q55 = (↑y : Int) ∧ q51 = Sp.bl q14 (Sp.fO x.2.1) q56 ∧ q46.set q50 (bif q52 then true else x.2.1.2.1.getD (↑x_2 : Int).toNat q0 == (↑x_1 : Int)) = Sp.bl q14 (Sp.fF x.2.1) q56 ∧ q39) ∧
                                                  (q47 = false →
                                                    ((True ∧ inK IntKind.i64 q42 ∧ True ∧ True) ∧ True) ∧
                                                      ∃ (y : Nat),
                                                        let q57 : Nat := y * q14;
                                                        y ≤ q14 ∧ q14 - y < q14 - x_1 ∧ q42 = (↑y : Int) ∧ q45 = Sp.bl q14 (Sp.fO x.2.1) q57 ∧ q46 = Sp.bl q14 (Sp.fF x.2.1) q57 ∧ q21)) ∧
                                  (q38 = false →
                                    ((True ∧ True ∧ (q23 ∧ q24 ∧ q37.length = q26) ∧ True) ∧ True ∧ True) ∧
                                      ((True ∧ True ∧ (q23 ∧ q24 ∧ q36.length = q26) ∧ True) ∧ True ∧ True) ∧
                                        q5 ∧
                                          (∃ (x_2 : Nat), (x_2 ≤ q14 ∧ ∀ (c : Nat), c < x_2 → Sp.ok1 x.2.1 c) ∧ q0 = (↑x_2 : Int) ∧ Sp.closC q25 q36 q25 = Sp.rBef x.2.1 ∧ Sp.closC q25 q37 q25 = Sp.rFlow x.2.1 ∧ q21) ∧
                                            ∀ (x_2 : Nat),
                                              let q58 : Bool := decide ((↑x_2 : Int) < q15);
                                              let q59 : Int := (↑x_2 : Int) * q15;
                                              let q60 : Int := q59 + (↑x_2 : Int);
                                              let q61 : Bool := (Sp.rFlow x.2.1).getD q60.toNat false;
                                              let q62 : Nat := (↑x_2 : Int).toNat;
                                              let q63 : Bool := (x.2.1.1.getD q62 q8).2.1.1 == (3 : Int);
                                              let q64 : Prop := (true && bif q63 then true else false) = true;
                                              let q65 : Prop := q64 → True;
                                              let q66 : Int := (Sp.ev x.2.1.1 (↑x_2 : Int)).2.1.2.1;
                                              let q67 : Prop := q64 → inN (↑x_2 : Int) q28 ∧ inN (↑x_2 : Int) q29 ∧ inN q66 q31;
                                              let q68 : List Int := q30.getD q66.toNat (([] : List Int));
                                              let q69 : Int := Sp.idx q68 (↑x_2 : Int) - q6;
                                              let q70 : Bool := bif q63 then Sp.idx q68 (x.2.1.2.1.getD q62 q0) != q69 else false;
                                              let q71 : Int := (↑x_2 : Int) + q6;
                                              (x_2 ≤ q14 ∧ ∀ (c : Nat), c < x_2 → Sp.ok1 x.2.1 c) →
                                                dFact (Ty.int IntKind.i64) (↑x_2 : Int) ∧ q27 ∧ dFact Ty.bool.slice (Sp.rFlow x.2.1) ∧ True →
                                                  q4 ∧
                                                    (q58 = true → ((True ∧ True ∧ True ∧ inK IntKind.i64 q59 ∧ True ∧ inK IntKind.i64 q60 ∧ inN q60 (Sp.rFlow x.2.1).length ∧ True ∧ True) ∧ True) ∧ (q61 = true → q13) ∧ (q61 = false → ((True ∧ True ∧ True ∧ inN (↑x_2 : Int) q14 ∧ True ∧ True ∧ True ∧ True ∧ True ∧ q65 ∧ q65 ∧ q67 ∧ q65 ∧ q65 ∧ q67 ∧ (q64 → inK IntKind.i64 q69) ∧ q65 ∧ True ∧ True) ∧ True) ∧ (q70 = true → q13) ∧ (q70 = false → ((True ∧ inK IntKind.i64 q71 ∧ True ∧ True) ∧ True) ∧ ∃ (y : Nat), (y ≤ q14 ∧ ∀ (c : Nat), c < y → Sp.ok1 x.2.1 c) ∧ q14 - y < q14 - x_2 ∧ q71 = (↑y : Int) ∧ q32 ∧ Sp.rFlow x.2.1 = Sp.rFlow x.2.1 ∧ q21))) ∧
                                                      (q58 = false →
                                                        q5 ∧
                                                          (∃ (x_3 : Nat), (x_3 ≤ q14 ∧ ∀ (c : Nat), c < x_3 → ∀ (b : Nat), b < q14 → Sp.ok2 x.2.1 c b) ∧ q0 = (↑x_3 : Int) ∧ q33) ∧
                                                            ∀ (x_3 : Nat),
                                                              let q72 : Bool := decide ((↑x_3 : Int) < q15);
                                                              let q73 : Prop := q19 ∧ q20 ∧ q32 ∧ (↑x_3 : Int) = (↑x_3 : Int) ∧ True;
                                                              let q74 : Prop := inN (↑x_3 : Int) q14;
                                                              let q75 : Int × Int × Int × Unit := (x.2.1.1.getD (↑x_3 : Int).toNat q8).2.1;
                                                              let q76 : Bool := q75.1 == q9;
                                                              let q77 : Prop := (true && bif q76 then false else true) = true;
                                                              let q78 : Prop := q77 → True;
                                                              let q79 : Int := (↑x_3 : Int) * q15;
                                                              let q80 : Int := (↑x_3 : Int) + q6;
                                                              (x_3 ≤ q14 ∧ ∀ (c : Nat), c < x_3 → ∀ (b : Nat), b < q14 → Sp.ok2 x.2.1 c b) →
                                                                dFact (Ty.int IntKind.i64) (↑x_3 : Int) ∧ q27 ∧ True →
                                                                  q4 ∧
                                                                    (q72 = true →
                                                                        q5 ∧
                                                                          (∃ (x_4 : Nat), (x_3 < q14 ∧ x_4 ≤ q14 ∧ ∀ (c : Nat), c < x_4 → Sp.ok2 x.2.1 x_3 c) ∧ q0 = (↑x_4 : Int) ∧ q73) ∧
                                                                            ∀ (x_4 : Nat),
                                                                              let q81 : Bool := decide ((↑x_4 : Int) < q15);
                                                                              let q82 : Prop := inN (↑x_4 : Int) q14;
                                                                              let q83 : Int := q79 + (↑x_4 : Int);
                                                                              let q84 : Bool := (Sp.rBef x.2.1).getD q83.toNat false;
                                                                              let q85 : Prop := (true && bif q84 then true else false) = true → True;
                                                                              let q86 : Int × Int × Int × Unit := (x.2.1.1.getD (↑x_4 : Int).toNat q8).2.1;
                                                                              let q87 : Bool := bif q84 then !bif q76 then true else q86.1 == q9 else false;
                                                                              let q88 : Prop := (true && bif q87 then true else false) = true;
                                                                              let q89 : Prop := q88 → True;
                                                                              let q90 : Bool := bif q87 then q75.2.1 == q86.2.1 else false;
                                                                              let q91 : Prop := (true && bif q90 then true else false) = true;
                                                                              let q92 : Prop := q91 → True;
                                                                              let q93 : Bool := bif q90 then !Sp.rcoh x.2.1 (↑x_3 : Int) (↑x_4 : Int) else false;
                                                                              let q94 : Int := (↑x_4 : Int) + q6;
                                                                              (x_3 < q14 ∧ x_4 ≤ q14 ∧ ∀ (c : Nat), c < x_4 → Sp.ok2 x.2.1 x_3 c) → dFact (Ty.int IntKind.i64) (↑x_4 : Int) ∧ True → q4 ∧ (q81 = true → ((True ∧ True ∧ True ∧ q74 ∧ True ∧ True ∧ True ∧ True ∧ True ∧ q78 ∧ q78 ∧ q78 ∧ (q77 → q82) ∧ q78 ∧ q78 ∧ q78 ∧ q78 ∧ q2) ∧ True) ∧ ((True ∧ True ∧ True ∧ inK IntKind.i64 q79 ∧ True ∧ inK IntKind.i64 q83 ∧ inN q83 (Sp.rBef x.2.1).length ∧ True ∧ True ∧ q85 ∧ q85 ∧ True ∧ True ∧ q89 ∧ q89 ∧ q89 ∧ (q88 → q74) ∧ q89 ∧ q89 ∧ q89 ∧ q89 ∧ q89 ∧ q89 ∧ (q88 → q82) ∧ q89 ∧ q89 ∧ q89 ∧ q89 ∧ True ∧ True ∧ q92 ∧ q92 ∧ q92 ∧ (q91 → (inN (↑x_3 : Int) q28 ∧ inN (↑x_3 : Int) q29 ∧ inN (Sp.ev x.2.1.1 (↑x_3 : Int)).2.1.2.1 q31) ∧ inN (↑x_4 : Int) q28 ∧ inN (↑x_4 : Int) q29 ∧ inN (Sp.ev x.2.1.1 (↑x_4 : Int)).2.1.2.1 q31) ∧ q92 ∧ True ∧ True) ∧ True) ∧ (q93 = true → q13) ∧ (q93 = false → ((True ∧ inK IntKind.i64 q94 ∧ True ∧ True) ∧ True) ∧ ∃ (y : Nat), (x_3 < q14 ∧ y ≤ q14 ∧ ∀ (c : Nat), c < y → Sp.ok2 x.2.1 x_3 c) ∧ q14 - y < q14 - x_4 ∧ q94 = (↑y : Int) ∧ q73)) ∧ (q81 = false → ((True ∧ inK IntKind.i64 q80 ∧ True ∧ True) ∧ True) ∧ ∃ (y : Nat), (y ≤ q14 ∧ ∀ (c : Nat), c < y → ∀ (b : Nat), b < q14 → Sp.ok2 x.2.1 c b) ∧ q14 - y < q14 - x_3 ∧ q80 = (↑y : Int) ∧ q33)) ∧
                                                                      (q72 = false → q5 ∧ true = q12))))) := by kernel_rfl
end Go.User
namespace Go.User
open Go.Proofs Go.Lf
set_option maxRecDepth 100000
theorem vc10 : funI C10 (stpP C10) S10 L10 Try.f10 = (
let q0 : Prop := (True ∧ True) ∧ True;
let q1 : Prop := True ∧ True ∧ True;
let q2 : Prop := q1 ∧ True ∧ True;
let q3 : Prop := q1 ∧ True;
let q4 : Int := (0 : Int);
let q5 : Int := (2 : Int);
let q6 : Int := (1 : Int);
let q7 : Int × Unit := (q6, ());
let q8 : Int × Int × Int × Unit := (q5, q4, q7);
let q9 : Int × Unit := (q4, ());
let q10 : List (Int × Int × Int × Unit) := (q6, q6, q9) :: ([] : List tLOp.den);
let q11 : Int × Int × Int × Unit := (q5, q6, q7);
let q12 : Int × Int × Unit := (q4, q9);
let q13 : List (Int × Int × Int × Unit) := (q6, q12) :: ([] : List tLOp.den);
let q14 : List (List (Int × Int × Int × Unit)) := ([] : List tLOp.slice.den);
let q15 : List (List (Int × Int × Int × Unit)) := (q8 :: q10) :: (q11 :: q13) :: q14;
let q16 : List (Int × (Int × Int × Int × Unit) × Int × Unit) := Sp.evs q4 q15;
let q17 : Nat := q16.length;
let q18 : Nat := (1000 : Nat);
let q19 : Prop := q17 ≤ q18;
let q20 : Prop := (true && true) = true;
let q21 : Prop := q20 → True;
let q22 : Int := (4 : Int);
let q23 : Int × Int × Int × Unit := (q22, q12);
let q24 : List (List (Int × Int × Int × Unit)) := (q8 :: q23 :: q10) :: (q11 :: q23 :: q13) :: q14;
let q25 : List (Int × (Int × Int × Int × Unit) × Int × Unit) := Sp.evs q4 q24;
let q26 : Nat := q25.length;
let q27 : Prop := q20 → q26 ≤ q18;
let q28 : Nat := (100 : Nat);
let q29 : Int := -q6;
let q30 : List Int := q29 :: ([] : List tI.den);
let q31 : List Int := q29 :: q29 :: q30;
let q32 : List Int := q29 :: q31;
let q33 : List Int := q29 :: q29 :: q32;
let q34 : Prop := q20 → (q26 ≤ q28 ∧ ∀ (x : Sp.LEv), x ∈ q25 → inN x.2.1.2.1 (3 : Nat)) ∧ q33.length = q26 ∧ ∀ (v : Int), v ∈ q33 → v < (↑q26 : Int);
let q35 : List (List (Int × Int × Int × Unit)) × Unit := (q15, ());
let q36 : List (List (Int × Int × Int × Unit)) × Unit := (q24, ());
let q37 : List (Int × (Int × Int × Int × Unit) × Int × Unit) × List Int × List (List Int) × List Int × Unit := Sp.gr q36 q33 (q22 :: q6 :: ([] : List tI.den));
let q38 : Bool := bif bif bif bif !Sp.valid q35 then true else !Sp.valid q36 then true else Sp.valid (q14, ()) then true else Sp.right q35 (([] : List tLEv.den), ([] : List tI.den), ([] : List tI.slice.den), ([] : List tI.den), ()) then true else !Sp.right q36 q37;
let q39 : Prop := q0 ∧ false = true;
let q40 : Nat := q32.length;
let q41 : Bool := bif bif !Sp.allowed q35 (Sp.gr q35 q32 (([] : List tI.den))) then true else Sp.allowed q36 (Sp.gr q36 q33 (q6 :: q22 :: ([] : List tI.den))) then true else Sp.allowed q36 q37;
let q42 : Int := (1 : tI.den);
let q43 : Int × Unit := ((0 : tI.den), ());
let q44 : Int := (2 : tI.den);
let q45 : Int × Unit := (q6, ());
let q46 : List (List (Int × Int × Int × Unit)) := ((q42, q4, q43) :: (q44, q6, q45) :: ([] : List tLOp.den)) :: ((q42, q6, q43) :: (q44, q4, q45) :: ([] : List tLOp.den)) :: q14;
let q47 : List (Int × (Int × Int × Int × Unit) × Int × Unit) := Sp.evs q4 q46;
let q48 : Nat := q47.length;
let q49 : Prop := q48 ≤ q28 ∧ ∀ (x : Sp.LEv), x ∈ q47 → inN x.2.1.2.1 (3 : Nat);
let q50 : Int := (3 : Int);
let q51 : List Int := q50 :: q29 :: q6 :: q30;
let q52 : Prop := q48 ≤ q18;
let q53 : Prop := q20 → q52;
let q54 : List Int := q50 :: q31;
let q55 : List (List (Int × Int × Int × Unit)) × Unit := (q46, ());
let q56 : List (Int × (Int × Int × Int × Unit) × Int × Unit) × List Int × List (List Int) × List Int × Unit := Sp.gr q55 q51 (([] : List tI.den));
∀ (x : Unit), True → True → q0 ∧ q2 ∧ q2 ∧ ((True ∧ True ∧ True ∧ True ∧ True ∧ True ∧ True ∧ q1) ∧ True ∧ True) ∧ q3 ∧ q3 ∧ ((True ∧ q19 ∧ True ∧ True ∧ q21 ∧ q27 ∧ q21 ∧ True ∧ True ∧ q21 ∧ (q20 → (Sp.evs q4 q14).length ≤ q18) ∧ True ∧ True ∧ q21 ∧ q21 ∧ (q20 → q19) ∧ True ∧ True ∧ q21 ∧ q21 ∧ q21 ∧ q21 ∧ q34 ∧ q27 ∧ q21 ∧ True ∧ True) ∧ True) ∧ (q38 = true → q39) ∧ (q38 = false → ((True ∧ True ∧ True ∧ ((q17 ≤ q28 ∧ ∀ (x : Sp.LEv), x ∈ q16 → inN x.2.1.2.1 (3 : Nat)) ∧ q40 = q17 ∧ ∀ (v : Int), v ∈ q32 → v < (↑q17 : Int)) ∧ q19 ∧ True ∧ True ∧ q21 ∧ q21 ∧ q21 ∧ q21 ∧ q34 ∧ q27 ∧ True ∧ True ∧ q21 ∧ q21 ∧ q21 ∧ q21 ∧ q34 ∧ q27 ∧ True ∧ True) ∧ True) ∧ (q41 = true → q39) ∧ (q41 = false → ((True ∧ True ∧ (q49 ∧ q51.length = q48 ∧ ∀ (v : Int), v ∈ q51 → v < (↑q48 : Int)) ∧ True ∧ True) ∧ True ∧ True) ∧ ((True ∧ True ∧ q52 ∧ True ∧ q21 ∧ q21 ∧ q53 ∧ q21 ∧ True ∧ True ∧ q21 ∧ q21 ∧ q21 ∧ (q20 → q49 ∧ q40 = q48 ∧ ∀ (v : Int), v ∈ q32 → v < (↑q48 : Int)) ∧ q53 ∧ True ∧ True ∧ q21 ∧ q21 ∧ q21 ∧ (q20 → q49 ∧ q54.length = q48 ∧ ∀ (v : Int), v ∈ q54 → v < (↑q48 : Int)) ∧ q53 ∧ q1) ∧ True) ∧ (bif bif bif Sp.right q55 q56 then !Sp.allowed q55 q56 else false then Sp.allowed q55 (Sp.gr q55 q32 (([] : List tI.den))) else false then Sp.allowed q55 (Sp.gr q55 q54 (([] : List tI.den))) else false) = true))) := by kernel_rfl
end Go.User
namespace Go.User
open Go.Proofs Go.Lf
set_option maxRecDepth 100000
theorem vc12 : funI C12 (stpP C12) S12 L12 Try.f12 = (
let q0 : Int := (0 : Int);
let q1 : Nat := (3 : Nat);
let q2 : Prop := True ∧ True ∧ True;
let q3 : Prop := q2 ∧ True;
let q4 : Nat := (1000 : Nat);
let q5 : Prop := (True ∧ True) ∧ True;
let q6 : List (List Int) := ([] : List tI.slice.den);
let q7 : List Int × Unit := (([] : List tI.den), ());
let q8 : List Int × List (List Int) × List Int × Unit := (([] : List tI.den), q6, q7);
let q9 : List (Int × (Int × Int × Int × Unit) × Int × Unit) × List Int × List (List Int) × List Int × Unit := (([] : List tLEv.den), q8);
let q10 : Prop := q9 = q9;
let q11 : Prop := q10 ∧ True;
let q12 : Int := (3 : Int);
let q13 : List Step := Step.snd :: Step.fst :: ([] : List Step);
let q14 : List Step := List.append._f (([] : List Step)) PUnit.unit (Step.snd :: q13);
let q15 : Int := (1 : Int);
let q16 : Prop := True ∧ q2;
let q17 : Prop := True ∧ q16;
let q18 : Prop := (True ∧ q17) ∧ True;
let q19 : List Int := -q15 :: ([] : List tI.den);
let q20 : Nat := q19.length;
let q21 : List Step := List.append._f (([] : List Step)) PUnit.unit q13;
let q22 : Int × Unit := (q0, ());
let q23 : Int × (Int × Int × Int × Unit) × Int × Unit := (q0, (q0, q0, q22), q22);
let q24 : Int := (8 : Int);
let q25 : Prop := q24 ≠ q0;
let q26 : Nat := (8 : Nat);
∀ (x : (List (List (Int × Int × Int × Unit)) × Unit) × List Int × Unit),
  let q27 : List (Int × (Int × Int × Int × Unit) × Int × Unit) := Sp.evs q0 x.1.1;
  let q28 : Nat := q27.length;
  let q29 : Prop := x.2.1 = x.2.1;
  let q30 : Prop := x.1 = x.1;
  let q31 : Prop := q29 ∧ q30 ∧ q11;
  let q32 : Nat := q27.length;
  let q33 : Prop := q32 ≤ q4;
  let q34 : List Int := Sp.fen q27;
  let q35 : List (List Int) := Sp.mo3 q27 x.2.1;
  let q36 : List (List Int) × List Int × Unit := (q35, Sp.foOf q27 x.2.1, ());
  let q37 : List Int := (Sp.fromN q27 x.2.1 q28).1;
  let q38 : List Int × List (List Int) × List Int × Unit := (q37, q36);
  (q28 ≤ (100 : Nat) ∧ ∀ (x : Sp.LEv), x ∈ q27 → inN x.2.1.2.1 q1) →
    dFact (((Ty.int IntKind.i64).prod ((Ty.int IntKind.i64).prod ((Ty.int IntKind.i64).prod Ty.unit))).slice.slice.prod Ty.unit) x.1 ∧ dFact (Ty.int IntKind.u8).slice x.2.1 ∧ True →
      q3 ∧
        ((True ∧ q28 ≤ q4 ∧ q2) ∧ True ∧ True) ∧
          q5 ∧
            q5 ∧
              (∃ (x_1 : Nat),
                  let q39 : List (List Int) × Int := Sp.moN q27 x.2.1 x_1;
                  x_1 ≤ q1 ∧ q0 = (↑x_1 : Int) ∧ q0 = q39.2 ∧ (q27, q8) = (q27, ([] : List tI.den), q39.1, q7) ∧ q31) ∧
                ∀ (x_1 : Nat),
                  let q40 : List (List Int) × Int := Sp.moN q27 x.2.1 x_1;
                  let q41 : Int := q40.2;
                  let q42 : List (List Int) := q40.1;
                  let q43 : Bool := decide ((↑x_1 : Int) < q12);
                  let q44 : List Int := Sp.wr q27 (↑x_1 : Int);
                  let q45 : Nat := q44.length;
                  let q46 : Prop := q0 ≤ q41 ∧ q41 ≤ (1000 : (AK.val tI).den);
                  let q47 : List (List Int) := Sp.shuffled q44 x.2.1 q41 :: q6;
                  let q48 : Int := q41 + (↑q45 : Int);
                  let q49 : Int := (↑x_1 : Int) + q15;
                  let q50 : List Int := Sp.shuffled q34 x.2.1 q41;
                  let q51 : Int := q41 + (↑q50.length : Int);
                  x_1 ≤ q1 →
                    dFact (Ty.int IntKind.i64) (↑x_1 : Int) ∧ dFact (Ty.int IntKind.i64) q41 ∧ dFact (((Ty.int IntKind.i64).prod (((Ty.int IntKind.i64).prod ((Ty.int IntKind.i64).prod ((Ty.int IntKind.i64).prod Ty.unit))).prod ((Ty.int IntKind.i64).prod Ty.unit))).slice.prod ((Ty.int IntKind.i64).slice.prod ((Ty.int IntKind.i64).slice.slice.prod ((Ty.int IntKind.i64).slice.prod Ty.unit)))) (q27, ([] : List tI.den), q42, q7) ∧ True →
                      q3 ∧
                        (q43 = true →
                            ((True ∧ True ∧ True ∧ q33 ∧ True) ∧ True ∧ True) ∧
                              ((True ∧ True ∧ True ∧ True ∧ True ∧ (q45 ≤ q4 ∧ q46) ∧ True ∧ True) ∧ (↑(q42.length + q47.length) : Int) ≤ maxNew ∧ True ∧ q14 = q14 ∧ True) ∧
                                ((True ∧ True ∧ True ∧ inK IntKind.i64 q48 ∧ True ∧ True) ∧ True) ∧
                                  ((True ∧ inK IntKind.i64 q49 ∧ True ∧ True) ∧ True) ∧
                                    ∃ (y : Nat),
                                      let q52 : List (List Int) × Int := Sp.moN q27 x.2.1 y;
                                      y ≤ q1 ∧ q1 - y < q1 - x_1 ∧ q49 = (↑y : Int) ∧ q48 = q52.2 ∧ (q27, ([] : List tI.den), q42 ++ q47, q7) = (q27, ([] : List tI.den), q52.1, q7) ∧ q31) ∧
                          (q43 = false →
                            ((True ∧ True ∧ q33 ∧ True ∧ True ∧ (q34.length ≤ q4 ∧ q46) ∧ True ∧ True) ∧ True ∧ True) ∧
                              ((True ∧ True ∧ True ∧ True ∧ inK IntKind.i64 q51 ∧ True ∧ True) ∧ True) ∧
                                q5 ∧
                                  (∃ (x_2 : Nat),
                                      let q53 : List Int × Int := Sp.fromN q27 x.2.1 x_2;
                                      x_2 ≤ q28 ∧ q0 = (↑x_2 : Int) ∧ q51 = q53.2 ∧ (q27, ([] : List tI.den), q42, q50, ()) = (q27, q53.1, q36) ∧ q31) ∧
                                    ∀ (x_2 : Nat),
                                      let q54 : List Int × Int := Sp.fromN q27 x.2.1 x_2;
                                      let q55 : Int := q54.2;
                                      let q56 : List Int := q54.1;
                                      let q57 : List (Int × (Int × Int × Int × Unit) × Int × Unit) × List Int × List (List Int) × List Int × Unit := (q27, q56, q36);
                                      let q58 : Bool := decide ((↑x_2 : Int) < (↑q32 : Int));
                                      let q59 : Prop := inN (↑x_2 : Int) q32;
                                      let q60 : Nat := (↑x_2 : Int).toNat;
                                      let q61 : Int × Int × Int × Unit := (q27.getD q60 q23).2.1;
                                      let q62 : Bool := !Sp.reads q61;
                                      let q63 : Int := (↑x_2 : Int) + q15;
                                      let q64 : Prop := (True ∧ inK IntKind.i64 q63 ∧ True ∧ True) ∧ True;
                                      let q65 : List Int := q56 ++ q19;
                                      let q66 : Int := q61.2.1;
                                      let q67 : List Int := q35.getD q66.toNat (([] : List tI.den));
                                      let q68 : Int := q55 + q15;
                                      let q69 : Bool := q61.1 == q12;
                                      let q70 : Prop := (true && bif q69 then true else false) = true;
                                      let q71 : Prop := q70 → True;
                                      let q72 : Int := Sp.byteAt x.2.1 q55;
                                      let q73 : Bool := bif q69 then q72.tmod q24 != (7 : Int) else false;
                                      let q74 : List Int := q19 ++ q67;
                                      let q75 : Int := Sp.idx q74 (↑x_2 : Int) - q15;
                                      let q76 : Nat := q74.length;
                                      let q77 : Prop := True ∧ inN (↑x_2 : Int) q65.length ∧ True;
                                      let q78 : Int := q72.tdiv q24;
                                      let q79 : Int := (↑q76 : Int);
                                      let q80 : Int := q78.tmod q79;
                                      x_2 ≤ q28 →
                                        dFact (Ty.int IntKind.i64) (↑x_2 : Int) ∧ dFact (Ty.int IntKind.i64) q55 ∧ dFact (((Ty.int IntKind.i64).prod (((Ty.int IntKind.i64).prod ((Ty.int IntKind.i64).prod ((Ty.int IntKind.i64).prod Ty.unit))).prod ((Ty.int IntKind.i64).prod Ty.unit))).slice.prod ((Ty.int IntKind.i64).slice.prod ((Ty.int IntKind.i64).slice.slice.prod ((Ty.int IntKind.i64).slice.prod Ty.unit)))) q57 ∧ True →
                                          q18 ∧
                                            (q58 = true →
                                                (q16 ∧ (↑(q56.length + q20) : Int) ≤ maxNew ∧ True ∧ q21 = q21 ∧ True) ∧
                                                  ((True ∧ True ∧ True ∧ q59 ∧ q17) ∧ True) ∧
                                                    (q62 = true →
                                                        q64 ∧
                                                          ∃ (y : Nat),
                                                            let q81 : List Int × Int := Sp.fromN q27 x.2.1 y;
                                                            y ≤ q28 ∧ q28 - y < q28 - x_2 ∧ q63 = (↑y : Int) ∧ q55 = q81.2 ∧ (q27, q65, q36) = (q27, q81.1, q36) ∧ q31) ∧
                                                      (q62 = false →
                                                        ((True ∧ True ∧ True ∧ True ∧ True ∧ True ∧ q59 ∧ True ∧ True ∧ True ∧ inN q66 q35.length ∧ True ∧ (↑(q20 + q67.length) : Int) ≤ maxNew ∧ True) ∧ True ∧ True) ∧
                                                          ((True ∧ True ∧ (0 : (AK.val tI).den) ≤ q55 ∧ True ∧ True) ∧ True) ∧
                                                            ((True ∧ inK IntKind.i64 q68 ∧ True ∧ True) ∧ True) ∧
                                                              ((True ∧ True ∧ True ∧ q59 ∧ True ∧ True ∧ True ∧ True ∧ True ∧ q71 ∧ (q70 → q25) ∧ q71 ∧ True ∧ True) ∧ True) ∧
                                                                (q73 = true →
                                                                    ((True ∧ True ∧ True ∧ True ∧ True ∧ True ∧ True ∧ inK IntKind.i64 q75 ∧ inN q75 q76 ∧ q77) ∧ True ∧ True) ∧
                                                                      q64 ∧
                                                                        ∃ (y : Nat),
                                                                          let q82 : List Int × Int := Sp.fromN q27 x.2.1 y;
                                                                          y ≤ q28 ∧ q28 - y < q28 - x_2 ∧ q63 = (↑y : Int) ∧ q68 = q82.2 ∧ (q27, q65.set q60 (q74.getD q75.toNat q0), q36) = (q27, q82.1, q36) ∧ q31) ∧
                                                                  (q73 = false →
                                                                    ((True ∧ True ∧ True ∧ True ∧ True ∧ (q25 ∧ inK IntKind.i64 q78) ∧ True ∧ True ∧ q79 ≠ q0 ∧ inN q80 q76 ∧ q77) ∧ True ∧ True) ∧
                                                                      q64 ∧
                                                                        ∃ (y : Nat),
                                                                          let q83 : List Int × Int := Sp.fromN q27 x.2.1 y;
                                                                          y ≤ q28 ∧ q28 - y < q28 - x_2 ∧ q63 = (↑y : Int) ∧ q68 = q83.2 ∧ (q27, q65.set q60 (q74.getD q80.toNat q0), q36) = (q27, q83.1, q36) ∧ q31))) ∧
                                              (q58 = false →
                                                q5 ∧
                                                  (∃ (x : Nat), x ≤ q26 ∧ q0 = (↑x : Int) ∧ q57 = (Sp.rounds q37 q27 x, q38) ∧ q31) ∧
                                                    ∀ (x_3 : Nat),
                                                      let q84 : List (Int × (Int × Int × Int × Unit) × Int × Unit) × List Int × List (List Int) × List Int × Unit := (Sp.rounds q37 q27 x_3, q38);
                                                      let q85 : Bool := decide ((↑x_3 : Int) < q24);
                                                      let q86 : Prop := q29 ∧ q30 ∧ q10 ∧ (↑x_3 : Int) = (↑x_3 : Int) ∧ True;
                                                      let q87 : Int := (↑x_3 : Int) + q15;
                                                      x_3 ≤ q26 →
                                                        dFact (Ty.int IntKind.i64) (↑x_3 : Int) ∧ dFact (((Ty.int IntKind.i64).prod (((Ty.int IntKind.i64).prod ((Ty.int IntKind.i64).prod ((Ty.int IntKind.i64).prod Ty.unit))).prod ((Ty.int IntKind.i64).prod Ty.unit))).slice.prod ((Ty.int IntKind.i64).slice.prod ((Ty.int IntKind.i64).slice.slice.prod ((Ty.int IntKind.i64).slice.prod Ty.unit)))) q84 ∧ True →
                                                          q3 ∧
                                                            (q85 = true →
                                                                q5 ∧
                                                                  (∃ (x : Nat), x ≤ q28 ∧ q0 = (↑x : Int) ∧ q84 = (Sp.rndN q37 (Sp.rounds q37 q27 x_3) x, q38) ∧ q86) ∧
                                                                    ∀ (x : Nat),
                                                                      let q88 : List (Int × (Int × Int × Int × Unit) × Int × Unit) := Sp.rndN q37 (Sp.rounds q37 q27 x_3) x;
                                                                      let q89 : List (Int × (Int × Int × Int × Unit) × Int × Unit) × List Int × List (List Int) × List Int × Unit := (q88, q38);
                                                                      let q90 : Nat := q88.length;
                                                                      let q91 : Int := (↑q90 : Int);
                                                                      let q92 : Bool := decide ((↑x : Int) < q91);
                                                                      let q93 : Prop := inN (↑x : Int) q90;
                                                                      let q94 : Nat := (↑x : Int).toNat;
                                                                      let q95 : Int × (Int × Int × Int × Unit) × Int × Unit := q88.getD q94 q23;
                                                                      let q96 : (Int × Int × Int × Unit) × Int × Unit := q95.2;
                                                                      let q97 : Int × Int × Int × Unit := q96.1;
                                                                      let q98 : Bool := Sp.reads q97;
                                                                      let q99 : Int := q37.getD q94 q0;
                                                                      let q100 : Int := (↑x : Int) + q15;
                                                                      let q101 : Prop := (True ∧ inK IntKind.i64 q100 ∧ True ∧ True) ∧ True;
                                                                      x ≤ q28 → dFact (Ty.int IntKind.i64) (↑x : Int) ∧ dFact (((Ty.int IntKind.i64).prod (((Ty.int IntKind.i64).prod ((Ty.int IntKind.i64).prod ((Ty.int IntKind.i64).prod Ty.unit))).prod ((Ty.int IntKind.i64).prod Ty.unit))).slice.prod ((Ty.int IntKind.i64).slice.prod ((Ty.int IntKind.i64).slice.slice.prod ((Ty.int IntKind.i64).slice.prod Ty.unit)))) q89 ∧ True → q18 ∧ (q92 = true → ((True ∧ True ∧ True ∧ q93 ∧ q16) ∧ True) ∧ (q98 = true → ((True ∧ True ∧ True ∧ True ∧ True ∧ True ∧ True ∧ inN (↑x : Int) q37.length ∧ True ∧ q99 < q91 ∧ q93 ∧ True ∧ True) ∧ True ∧ True) ∧ q101 ∧ ∃ (y : Nat), y ≤ q28 ∧ q28 - y < q28 - x ∧ q100 = (↑y : Int) ∧ (q88.set q94 (q95.1, q97, Sp.value q88 q99, q96.2.2), q38) = (Sp.rndN q37 (Sp.rounds q37 q27 x_3) y, q38) ∧ q86) ∧ (q98 = false → q101 ∧ ∃ (y : Nat), y ≤ q28 ∧ q28 - y < q28 - x ∧ q100 = (↑y : Int) ∧ q89 = (Sp.rndN q37 (Sp.rounds q37 q27 x_3) y, q38) ∧ q86)) ∧ (q92 = false → ((True ∧ inK IntKind.i64 q87 ∧ True ∧ True) ∧ True) ∧ ∃ (y : Nat), y ≤ q26 ∧ q26 - y < q26 - x_3 ∧ q87 = (↑y : Int) ∧ q89 = (Sp.rounds q37 q27 y, q38) ∧ q31)) ∧
                                                              (q85 = false → ((True ∧ True) ∧ True ∧ True) ∧ q84 = Sp.graph x.1 x.2.1)))) := by kernel_rfl
theorem vc30 : funI C30 (stpP C30) S30 L30 Try.f30 = (
let q0 : Int := (0 : Int);
let q1 : Nat := (100 : Nat);
let q2 : Nat := (3 : Nat);
let q3 : Prop := True ∧ True ∧ True;
let q4 : Prop := q3 ∧ True;
let q5 : Prop := q3 ∧ True ∧ True;
let q6 : Prop := (True ∧ True) ∧ True;
let q7 : List Int := ([] : List (Ty.int IntKind.u8).den);
let q8 : Nat := (8 : Nat);
let q9 : List (Int × (Int × Int × Int × Unit) × Int × Unit) × List Int × List (List Int) × List Int × Unit := (([] : List tLEv.den), ([] : List tI.den), ([] : List tI.slice.den), ([] : List tI.den), ());
let q10 : Prop := q9 = q9;
let q11 : Prop := q10 ∧ True;
let q12 : Int × Unit := (q0, ());
let q13 : Int × (Int × Int × Int × Unit) × Int × Unit := (q0, (q0, q0, q12), q12);
let q14 : Int := (1 : Int);
∀ (x : (List (List (Int × Int × Int × Unit)) × Unit) × List Int × List Int × Unit),
  let q15 : List (Int × (Int × Int × Int × Unit) × Int × Unit) := Sp.evs q0 x.1.1;
  let q16 : Nat := q15.length;
  let q17 : Prop := q16 ≤ q1 ∧ ∀ (x : Sp.LEv), x ∈ q15 → inN x.2.1.2.1 q2;
  let q18 : Nat := x.2.1.length;
  let q19 : List Int × Unit := (x.2.2.1, ());
  let q20 : List (Int × (Int × Int × Int × Unit) × Int × Unit) := Sp.rounds (Sp.fromN q15 (([] : List Int)) q16).1 q15 q8;
  let q21 : List Int × List (List Int) × List Int × Unit := (x.2.1, Sp.mo3 q15 (([] : List Int)), q19);
  let q22 : Prop := x.2.1 = x.2.1;
  let q23 : Prop := x.2.2.1 = x.2.2.1;
  let q24 : Prop := x.1 = x.1;
  let q25 : Prop := q22 ∧ q23 ∧ q24 ∧ q11;
  (q17 ∧ q18 = q16 ∧ ∀ (v : Int), v ∈ x.2.1 → v < (↑q16 : Int)) →
    dFact (((Ty.int IntKind.i64).prod ((Ty.int IntKind.i64).prod ((Ty.int IntKind.i64).prod Ty.unit))).slice.slice.prod Ty.unit) x.1 ∧ dFact (Ty.int IntKind.i64).slice x.2.1 ∧ dFact (Ty.int IntKind.i64).slice x.2.2.1 ∧ True →
      q4 ∧
        ((True ∧ q17 ∧ True ∧ True) ∧ True ∧ True) ∧
          q5 ∧
            q5 ∧
              q6 ∧
                (∃ (x_1 : Nat), x_1 ≤ q2 ∧ q0 = (↑x_1 : Int) ∧ (Sp.rounds (Sp.fromN q15 q7 q16).1 q15 q8, x.2.1, Sp.mo3 q15 q7, q19) = (Sp.stGR x.2.1 q20 x_1, q21) ∧ q25) ∧
                  ∀ (x_1 : Nat),
                    let q26 : List (Int × (Int × Int × Int × Unit) × Int × Unit) := Sp.stGR x.2.1 q20 x_1;
                    let q27 : List (Int × (Int × Int × Int × Unit) × Int × Unit) × List Int × List (List Int) × List Int × Unit := (q26, q21);
                    let q28 : Bool := decide ((↑x_1 : Int) < (3 : Int));
                    let q29 : Prop := q22 ∧ q23 ∧ q24 ∧ q10 ∧ (↑x_1 : Int) = (↑x_1 : Int) ∧ True;
                    let q30 : Int := (↑x_1 : Int) + q14;
                    x_1 ≤ q2 →
                      dFact (Ty.int IntKind.i64) (↑x_1 : Int) ∧ dFact (((Ty.int IntKind.i64).prod (((Ty.int IntKind.i64).prod ((Ty.int IntKind.i64).prod ((Ty.int IntKind.i64).prod Ty.unit))).prod ((Ty.int IntKind.i64).prod Ty.unit))).slice.prod ((Ty.int IntKind.i64).slice.prod ((Ty.int IntKind.i64).slice.slice.prod ((Ty.int IntKind.i64).slice.prod Ty.unit)))) q27 ∧ True →
                        q4 ∧
                          (q28 = true →
                              q6 ∧
                                (∃ (x_2 : Nat), x_2 ≤ q16 ∧ q0 = (↑x_2 : Int) ∧ q27 = (Sp.stGN x.2.1 q26 x_2, q21) ∧ q29) ∧
                                  ∀ (x_2 : Nat),
                                    let q31 : List (Int × (Int × Int × Int × Unit) × Int × Unit) := Sp.stGN x.2.1 q26 x_2;
                                    let q32 : List (Int × (Int × Int × Int × Unit) × Int × Unit) × List Int × List (List Int) × List Int × Unit := (q31, q21);
                                    let q33 : Nat := q31.length;
                                    let q34 : Bool := decide ((↑x_2 : Int) < (↑q33 : Int));
                                    let q35 : Prop := inN (↑x_2 : Int) q18;
                                    let q36 : Nat := (↑x_2 : Int).toNat;
                                    let q37 : Int := x.2.1.getD q36 q0;
                                    let q38 : Bool := decide (q37 ≥ q0);
                                    let q39 : Int × (Int × Int × Int × Unit) × Int × Unit := q31.getD q36 q13;
                                    let q40 : (Int × Int × Int × Unit) × Int × Unit := q39.2;
                                    let q41 : List (Int × (Int × Int × Int × Unit) × Int × Unit) := q31.set q36 (q39.1, q40.1, q0, q40.2.2);
                                    let q42 : Nat := q41.length;
                                    let q43 : Int := (↑x_2 : Int) + q14;
                                    let q44 : Prop := (True ∧ inK IntKind.i64 q43 ∧ True ∧ True) ∧ True;
                                    let q45 : Int × (Int × Int × Int × Unit) × Int × Unit := q41.getD q36 q13;
                                    let q46 : (Int × Int × Int × Unit) × Int × Unit := q45.2;
                                    x_2 ≤ q16 → dFact (Ty.int IntKind.i64) (↑x_2 : Int) ∧ dFact (((Ty.int IntKind.i64).prod (((Ty.int IntKind.i64).prod ((Ty.int IntKind.i64).prod ((Ty.int IntKind.i64).prod Ty.unit))).prod ((Ty.int IntKind.i64).prod Ty.unit))).slice.prod ((Ty.int IntKind.i64).slice.prod ((Ty.int IntKind.i64).slice.slice.prod ((Ty.int IntKind.i64).slice.prod Ty.unit)))) q32 ∧ True → ((True ∧ True ∧ True ∧ q3) ∧ True) ∧ (q34 = true → ((True ∧ True ∧ True ∧ inN (↑x_2 : Int) q33 ∧ True ∧ True) ∧ True ∧ True) ∧ ((True ∧ True ∧ q35 ∧ q3) ∧ True) ∧ (q38 = true → ((True ∧ True ∧ True ∧ True ∧ True ∧ True ∧ True ∧ q35 ∧ True ∧ inN q37 q42 ∧ True ∧ True ∧ True ∧ inN (↑x_2 : Int) q42 ∧ True ∧ True) ∧ True ∧ True) ∧ q44 ∧ ∃ (y : Nat), y ≤ q16 ∧ q16 - y < q16 - x_2 ∧ q43 = (↑y : Int) ∧ (q41.set q36 (q45.1, q46.1, (q41.getD q37.toNat q13).2.1.2.2.1, q46.2.2), q21) = (Sp.stGN x.2.1 q26 y, q21) ∧ q29) ∧ (q38 = false → q44 ∧ ∃ (y : Nat), y ≤ q16 ∧ q16 - y < q16 - x_2 ∧ q43 = (↑y : Int) ∧ (q41, q21) = (Sp.stGN x.2.1 q26 y, q21) ∧ q29)) ∧ (q34 = false → ((True ∧ inK IntKind.i64 q30 ∧ True ∧ True) ∧ True) ∧ ∃ (y : Nat), y ≤ q2 ∧ q2 - y < q2 - x_1 ∧ q30 = (↑y : Int) ∧ q32 = (Sp.stGR x.2.1 q20 y, q21) ∧ q25)) ∧
                            (q28 = false → ((True ∧ True) ∧ True ∧ True) ∧ q27 = Sp.gr x.1 x.2.1 x.2.2.1)) := by kernel_rfl
end Go.User
namespace Go.User
open Go.Proofs Go.Lf
set_option maxRecDepth 100000
theorem vc54 : funI C54 (stpP C54) S54 L54 Try.f54 = (
let q0 : Prop := True ∧ True ∧ True;
let q1 : Prop := q0 ∧ True;
let q2 : Prop := True ∧ q0;
let q3 : Prop := q2 ∧ True;
let q4 : Int := (0 : Int);
let q5 : Int × Unit := (q4, ());
let q6 : Int × (Int × Int × Int × Unit) × Int × Unit := (q4, (q4, q4, q5), q5);
let q7 : Prop := (True ∧ True) ∧ True;
∀ (x : (List (Int × (Int × Int × Int × Unit) × Int × Unit) × List Int × List (List Int) × List Int × Unit) × Int × Int × Unit),
  let q8 : Nat := x.1.1.length;
  let q9 : Nat := x.1.2.1.length;
  let q10 : Int := (Sp.ev x.1.1 x.2.1).2.1.2.1;
  let q11 : Nat := x.1.2.2.1.length;
  let q12 : Int := (Sp.ev x.1.1 x.2.2.1).2.1.2.1;
  let q13 : Nat := x.1.1.length;
  let q14 : Prop := inN x.2.1 q13;
  let q15 : Nat := x.1.2.1.length;
  let q16 : Nat := x.1.2.2.1.length;
  let q17 : Prop := inN x.2.2.1 q13;
  let q18 : Bool := Sp.writes (x.1.1.getD x.2.1.toNat q6).2.1;
  let q19 : Nat := x.2.2.1.toNat;
  let q20 : Int × Int × Int × Unit := (x.1.1.getD q19 q6).2.1;
  let q21 : Bool := Sp.reads q20;
  let q22 : Prop := (true && bif q21 then true else false) = true → True;
  let q23 : Prop := (True ∧ True ∧ True ∧ q22 ∧ q22 ∧ q22 ∧ q22 ∧ q0) ∧ True;
  let q24 : List Int := x.1.2.2.1.getD q12.toNat (([] : List Int));
  let q25 : Int := Sp.idx q24 (x.1.2.1.getD q19 q4);
  let q26 : List Int := x.1.2.2.1.getD q10.toNat (([] : List Int));
  let q27 : Int := Sp.idx q26 x.2.1;
  let q28 : Bool := bif q21 then decide (q25 < q27) else false;
  let q29 : Bool := Sp.coh x.1 x.2.1 x.2.2.1;
  let q30 : Prop := q7 ∧ false = q29;
  let q31 : Bool := Sp.writes q20;
  let q32 : Prop := (true && bif q31 then true else false) = true → True;
  let q33 : Prop := (True ∧ True ∧ True ∧ q32 ∧ q32 ∧ q32 ∧ q32 ∧ q0) ∧ True;
  let q34 : Int := Sp.idx q24 x.2.2.1;
  let q35 : Bool := bif q31 then decide (q34 ≤ q27) else false;
  let q36 : Prop := q7 ∧ true = q29;
  let q37 : Int := Sp.idx q26 (x.1.2.1.getD x.2.1.toNat q4);
  let q38 : Bool := bif q21 then decide (q25 < q37) else false;
  let q39 : Bool := bif q31 then decide (q34 ≤ q37) else false;
  (inN x.2.1 q8 ∧ inN x.2.1 q9 ∧ inN q10 q11) ∧ inN x.2.2.1 q8 ∧ inN x.2.2.1 q9 ∧ inN q12 q11 → dFact (((Ty.int IntKind.i64).prod (((Ty.int IntKind.i64).prod ((Ty.int IntKind.i64).prod ((Ty.int IntKind.i64).prod Ty.unit))).prod ((Ty.int IntKind.i64).prod Ty.unit))).slice.prod ((Ty.int IntKind.i64).slice.prod ((Ty.int IntKind.i64).slice.slice.prod ((Ty.int IntKind.i64).slice.prod Ty.unit)))) x.1 ∧ dFact (Ty.int IntKind.i64) x.2.1 ∧ dFact (Ty.int IntKind.i64) x.2.2.1 ∧ True → q1 ∧ ((True ∧ True ∧ (q14 ∧ inN x.2.1 q15 ∧ inN q10 q16) ∧ True ∧ True ∧ (q17 ∧ inN x.2.2.1 q15 ∧ inN q12 q16) ∧ q0) ∧ q0) ∧ (True ∧ True ∧ True ∧ q14 ∧ True ∧ True ∧ True ∧ True ∧ True ∧ q17 ∧ True ∧ q2) ∧ q3 ∧ q1 ∧ (q18 = true → q3 ∧ q23 ∧ (q28 = true → q30) ∧ (q28 = false → q33 ∧ (q35 = true → q30) ∧ (q35 = false → q36))) ∧ (q18 = false → q23 ∧ (q38 = true → q30) ∧ (q38 = false → q33 ∧ (q39 = true → q30) ∧ (q39 = false → q36)))) := by kernel_rfl
theorem vc16 : funI C16 (stpP C16) S16 L16 Try.f16 = (
let q0 : Int := (0 : Int);
let q1 : Nat := (1000 : Nat);
let q2 : Prop := True ∧ True ∧ True;
let q3 : Prop := True ∧ q2;
let q4 : Prop := q3 ∧ True;
let q5 : Int := (3 : Int);
let q6 : Prop := (True ∧ True) ∧ True;
let q7 : Prop := ([] : List Step) = ([] : List Step);
let q8 : Int × Unit := (q0, ());
let q9 : Int × (Int × Int × Int × Unit) × Int × Unit := (q0, (q0, q0, q8), q8);
let q10 : Int := (1 : Int);
let q11 : Prop := (True ∧ q3) ∧ True;
let q12 : Nat := (3 : Nat);
∀ (x : (List (List (Int × Int × Int × Unit)) × Unit) × (List (Int × (Int × Int × Int × Unit) × Int × Unit) × List Int × List (List Int) × List Int × Unit) × Unit),
  let q13 : List (Int × (Int × Int × Int × Unit) × Int × Unit) := Sp.evs q0 x.1.1;
  let q14 : Nat := q13.length;
  let q15 : Prop := q14 ≤ q1;
  let q16 : Bool := !Sp.valid x.1;
  let q17 : Prop := (true && bif q16 then false else true) = true → True;
  let q18 : Nat := x.2.1.1.length;
  let q19 : Int := (↑q18 : Int);
  let q20 : Nat := q13.length;
  let q21 : Int := (↑q20 : Int);
  let q22 : Bool := bif q16 then true else q19 != q21;
  let q23 : Prop := (true && bif q22 then false else true) = true → True;
  let q24 : Nat := x.2.1.2.1.length;
  let q25 : Bool := bif q22 then true else (↑q24 : Int) != q21;
  let q26 : Prop := (true && bif q25 then false else true) = true → True;
  let q27 : List (List Int) := x.2.1.2.2.1;
  let q28 : Nat := q27.length;
  let q29 : Bool := bif q25 then true else (↑q28 : Int) != q5;
  let q30 : Bool := Sp.right x.1 x.2.1;
  let q31 : Prop := q6 ∧ false = q30;
  let q32 : Prop := x.1 = x.1;
  let q33 : Prop := x.2.1 = x.2.1;
  let q34 : Prop := q13 = q13;
  let q35 : Prop := q32 ∧ q33 ∧ q34 ∧ q7 ∧ q21 = q21 ∧ True;
  let q36 : Prop := q32 ∧ q33 ∧ q34 ∧ x.2.1.1 = x.2.1.1 ∧ q19 = q19 ∧ True;
  let q37 : Prop := q32 ∧ q33 ∧ q34 ∧ True;
  let q38 : Prop := True ∧ (q20 ≤ q1 ∧ ∀ (o : Int × Int × Int × Unit), True) ∧ True ∧ True;
  q15 →
    dFact (((Ty.int IntKind.i64).prod ((Ty.int IntKind.i64).prod ((Ty.int IntKind.i64).prod Ty.unit))).slice.slice.prod Ty.unit) x.1 ∧ dFact (((Ty.int IntKind.i64).prod (((Ty.int IntKind.i64).prod ((Ty.int IntKind.i64).prod ((Ty.int IntKind.i64).prod Ty.unit))).prod ((Ty.int IntKind.i64).prod Ty.unit))).slice.prod ((Ty.int IntKind.i64).slice.prod ((Ty.int IntKind.i64).slice.slice.prod ((Ty.int IntKind.i64).slice.prod Ty.unit)))) x.2.1 ∧ True →
      q4 ∧
        ((True ∧ q15 ∧ True) ∧ True ∧ True) ∧
          ((True ∧ q15 ∧ True ∧ True ∧ q17 ∧ q17 ∧ q17 ∧ q17 ∧ q17 ∧ q17 ∧ True ∧ True ∧ q23 ∧ q23 ∧ q23 ∧ q23 ∧ q23 ∧ q23 ∧ True ∧ True ∧ q26 ∧ q26 ∧ q26 ∧ q26 ∧ True ∧ True) ∧ True) ∧
            (q29 = true → q31) ∧
              (q29 = false →
                q4 ∧
                  (∃ (x_1 : Nat), (x_1 ≤ q14 ∧ ∀ (n : Nat), n < x_1 → Sp.src q13 x.2.1 n) ∧ q0 = (↑x_1 : Int) ∧ q35) ∧
                    ∀ (x_1 : Nat),
                      let q39 : Bool := decide ((↑x_1 : Int) < q21);
                      let q40 : Nat := (↑x_1 : Int).toNat;
                      let q41 : Int × (Int × Int × Int × Unit) × Int × Unit := x.2.1.1.getD q40 q9;
                      let q42 : Int × (Int × Int × Int × Unit) × Int × Unit := q13.getD q40 q9;
                      let q43 : (Int × Int × Int × Unit) × Int × Unit := q41.2;
                      let q44 : Int × Int × Int × Unit := q43.1;
                      let q45 : Int × Int × Int × Unit := q42.2.1;
                      let q46 : Int × Int × Unit := q44.2;
                      let q47 : Int × Int × Unit := q45.2;
                      let q48 : Int := q47.1;
                      let q49 : Int := q43.2.1;
                      let q50 : Bool := !(decide (q41.1 = q42.1) && (decide (q44.1 = q45.1) && (decide (q46.1 = q48) && (decide (q46.2.1 = q47.2.1) && true)) && (decide (q49 = q49) && true)));
                      let q51 : Prop := (true && bif q50 then false else true) = true → True;
                      let q52 : Int := x.2.1.2.1.getD q40 q0;
                      let q53 : Bool := bif q50 then true else decide (q52 < -q10);
                      let q54 : Prop := (true && bif q53 then false else true) = true → True;
                      let q55 : Bool := bif q53 then true else decide (q52 ≥ q21);
                      let q56 : Bool := decide (q52 ≥ q0);
                      let q57 : Bool := true && bif q56 then true else false;
                      let q58 : Prop := q57 = true → True;
                      let q59 : Bool := !Sp.reads q45;
                      let q60 : Prop := (q57 && bif q59 then false else true) = true;
                      let q61 : Prop := q60 → True;
                      let q62 : Prop := inN q52 q20;
                      let q63 : Int × Int × Int × Unit := (q13.getD q52.toNat q9).2.1;
                      let q64 : Bool := bif q59 then true else !Sp.writes q63;
                      let q65 : Prop := (q57 && bif q64 then false else true) = true;
                      let q66 : Prop := q65 → True;
                      let q67 : Bool := bif q56 then bif q64 then true else q63.2.1 != q48 else false;
                      let q68 : Int := (↑x_1 : Int) + q10;
                      (x_1 ≤ q14 ∧ ∀ (n : Nat), n < x_1 → Sp.src q13 x.2.1 n) →
                        dFact (Ty.int IntKind.i64) (↑x_1 : Int) ∧ True →
                          q6 ∧
                            (q39 = true → ((True ∧ inN (↑x_1 : Int) q20 ∧ q3) ∧ True ∧ True) ∧ ((True ∧ True ∧ True ∧ inN (↑x_1 : Int) q18 ∧ q2) ∧ True ∧ True) ∧ ((True ∧ True ∧ True ∧ inN (↑x_1 : Int) q24 ∧ q2) ∧ True) ∧ (q3 ∧ True ∧ True) ∧ ((True ∧ True ∧ True ∧ True ∧ q51 ∧ q51 ∧ True ∧ True ∧ q54 ∧ q54 ∧ q54 ∧ q54 ∧ True ∧ True) ∧ True) ∧ (q55 = true → q31) ∧ (q55 = false → ((True ∧ True ∧ True ∧ q58 ∧ q58 ∧ q58 ∧ q58 ∧ q58 ∧ q61 ∧ q61 ∧ (q60 → q62) ∧ q61 ∧ q61 ∧ q61 ∧ q61 ∧ q58 ∧ q58 ∧ q66 ∧ q66 ∧ (q65 → q62) ∧ q66 ∧ q66 ∧ q66 ∧ q66 ∧ q66 ∧ q66 ∧ q66 ∧ q58 ∧ True ∧ True) ∧ True) ∧ (q67 = true → q31) ∧ (q67 = false → ((inK IntKind.i64 q68 ∧ True ∧ True) ∧ True) ∧ ∃ (y : Nat), (y ≤ q14 ∧ ∀ (n : Nat), n < y → Sp.src q13 x.2.1 n) ∧ q14 - y < q14 - x_1 ∧ q68 = (↑y : Int) ∧ q35))) ∧
                              (q39 = false →
                                q11 ∧
                                  (∃ (x_2 : Nat), (x_2 ≤ q18 ∧ ∀ (n : Nat), n < x_2 → Sp.got x.2.1 n) ∧ q0 = (↑x_2 : Int) ∧ q36) ∧
                                    ∀ (x_2 : Nat),
                                      let q69 : Bool := decide ((↑x_2 : Int) < q19);
                                      let q70 : Nat := (↑x_2 : Int).toNat;
                                      let q71 : (Int × Int × Int × Unit) × Int × Unit := (x.2.1.1.getD q70 q9).2;
                                      let q72 : Bool := Sp.reads q71.1;
                                      let q73 : Int := x.2.1.2.1.getD q70 q0;
                                      let q74 : Int := q71.2.1;
                                      let q75 : Bool := q74 != Sp.value x.2.1.1 q73;
                                      let q76 : Int := (↑x_2 : Int) + q10;
                                      let q77 : Prop := ((inK IntKind.i64 q76 ∧ True ∧ True) ∧ True) ∧ ∃ (y : Nat), (y ≤ q18 ∧ ∀ (n : Nat), n < y → Sp.got x.2.1 n) ∧ q18 - y < q18 - x_2 ∧ q76 = (↑y : Int) ∧ q36;
                                      let q78 : Bool := q74 != q0;
                                      (x_2 ≤ q18 ∧ ∀ (n : Nat), n < x_2 → Sp.got x.2.1 n) →
                                        dFact (Ty.int IntKind.i64) (↑x_2 : Int) ∧ True →
                                          q6 ∧
                                            (q69 = true → ((True ∧ inN (↑x_2 : Int) q18 ∧ q3) ∧ True ∧ True) ∧ q6 ∧ q4 ∧ (q72 = true → ((True ∧ True ∧ True ∧ True ∧ inN (↑x_2 : Int) q24 ∧ True ∧ q73 < q19 ∧ True ∧ True) ∧ True) ∧ q11 ∧ (q75 = true → q31) ∧ (q75 = false → q77)) ∧ (q72 = false → q11 ∧ (q78 = true → q31) ∧ (q78 = false → q77))) ∧
                                              (q69 = false →
                                                q6 ∧
                                                  (∃ (x : Nat), (x ≤ q12 ∧ ∀ (p : Nat), p < x → (Sp.isList (q27.getD p (([] : List Int))) q13 fun (o : Sp.LOp) => Sp.writes o && decide (o.2.1 = (↑p : Int))) = true) ∧ q0 = (↑x : Int) ∧ q37) ∧
                                                    ∀ (x_3 : Nat),
                                                      let q79 : Bool := decide ((↑x_3 : Int) < q5);
                                                      let q80 : Bool := !Sp.isList (q27.getD (↑x_3 : Int).toNat (([] : List tI.den))) q13 fun (o : Sp.LOp) => Sp.writes o && decide (o.2.1 = (↑x_3 : Int));
                                                      let q81 : Int := (↑x_3 : Int) + q10;
                                                      (x_3 ≤ q12 ∧ ∀ (p : Nat), p < x_3 → (Sp.isList (q27.getD p (([] : List Int))) q13 fun (o : Sp.LOp) => Sp.writes o && decide (o.2.1 = (↑p : Int))) = true) → dFact (Ty.int IntKind.i64) (↑x_3 : Int) ∧ True → q6 ∧ (q79 = true → (q2 ∧ True ∧ True) ∧ ((True ∧ True ∧ True ∧ inN (↑x_3 : Int) q28 ∧ q2) ∧ q38) ∧ (q80 = true → q31) ∧ (q80 = false → ((inK IntKind.i64 q81 ∧ True ∧ True) ∧ True) ∧ ∃ (y : Nat), (y ≤ q12 ∧ ∀ (p : Nat), p < y → (Sp.isList (q27.getD p (([] : List Int))) q13 fun (o : Sp.LOp) => Sp.writes o && decide (o.2.1 = (↑p : Int))) = true) ∧ q12 - y < q12 - x_3 ∧ q81 = (↑y : Int) ∧ q37)) ∧ (q79 = false → ((True ∧ True ∧ q38) ∧ True) ∧ (Sp.isList x.2.1.2.2.2.1 q13 fun (o : Sp.LOp) => decide (o.1 = (4 : tI.den))) = q30))))) := by kernel_rfl
theorem vc18 : funI C18 (stpP C18) S18 L18 Try.f18 = (
let q0 : Int := (0 : Int);
let q1 : Nat := (1000 : Nat);
let q2 : Prop := True ∧ True ∧ True;
let q3 : Prop := True ∧ q2;
let q4 : Prop := (True ∧ True) ∧ True;
let q5 : Nat := (6 : Nat);
let q6 : Prop := (True ∧ q3) ∧ True;
let q7 : Int := (1 : Int);
let q8 : List Bool := List.replicate q5 false;
let q9 : Int × Unit := (q0, ());
let q10 : Int × (Int × Int × Int × Unit) × Int × Unit := (q0, (q0, q0, q9), q9);
let q11 : Int := (4 : Int);
∀ (x : (List (List (Int × Int × Int × Unit)) × Unit) × (List (Int × (Int × Int × Int × Unit) × Int × Unit) × List Int × List (List Int) × List Int × Unit) × Unit),
  let q12 : Prop := (Sp.evs q0 x.1.1).length ≤ q1;
  let q13 : Bool := !Sp.right x.1 x.2.1;
  let q14 : Bool := Sp.allowed x.1 x.2.1;
  let q15 : Prop := q4 ∧ false = q14;
  let q16 : Nat := x.2.1.1.length;
  let q17 : Nat := x.2.1.2.1.length;
  let q18 : Prop := x.1 = x.1;
  let q19 : Prop := x.2.1 = x.2.1;
  let q20 : Int := (↑q17 : Int);
  let q21 : Prop := q18 ∧ q19 ∧ Sp.order x.2.1 = Sp.order x.2.1 ∧ x.2.1.2.1 = x.2.1.2.1 ∧ q20 = q20 ∧ True;
  let q22 : List (List Bool) := Sp.close (Sp.order x.2.1);
  let q23 : Prop := q22 = q22;
  let q24 : Prop := x.2.1.1 = x.2.1.1;
  let q25 : Int := (↑q16 : Int);
  let q26 : Prop := q25 = q25;
  let q27 : Prop := q24 ∧ q26 ∧ True;
  let q28 : Prop := q18 ∧ q19 ∧ q23 ∧ q27;
  let q29 : List (List Int) := x.2.1.2.2.1;
  let q30 : Nat := x.2.1.1.length;
  let q31 : Nat := x.2.1.2.1.length;
  let q32 : Nat := q29.length;
  q12 →
    dFact (((Ty.int IntKind.i64).prod ((Ty.int IntKind.i64).prod ((Ty.int IntKind.i64).prod Ty.unit))).slice.slice.prod Ty.unit) x.1 ∧ dFact (((Ty.int IntKind.i64).prod (((Ty.int IntKind.i64).prod ((Ty.int IntKind.i64).prod ((Ty.int IntKind.i64).prod Ty.unit))).prod ((Ty.int IntKind.i64).prod Ty.unit))).slice.prod ((Ty.int IntKind.i64).slice.prod ((Ty.int IntKind.i64).slice.slice.prod ((Ty.int IntKind.i64).slice.prod Ty.unit)))) x.2.1 ∧ True →
      (q3 ∧ True) ∧
        ((True ∧ True ∧ q12 ∧ True ∧ True) ∧ True) ∧
          (q13 = true → q15) ∧
            (q13 = false →
              ((True ∧ (q16 ≤ q5 ∧ ∀ (n : Int), n ∈ x.2.1.2.2.2.1 → inN n q5) ∧ True ∧ True) ∧ True ∧ True) ∧
                (q2 ∧ True ∧ True) ∧
                  q6 ∧
                    (∃ (x_1 : Nat), x_1 ≤ q17 ∧ q0 = (↑x_1 : Int) ∧ Sp.order x.2.1 = Sp.mat (Sp.flowN x.2.1 x_1) ∧ q21) ∧
                      ∀ (x_1 : Nat),
                        let q33 : List (List Bool) := Sp.mat (Sp.flowN x.2.1 x_1);
                        let q34 : Bool := decide ((↑x_1 : Int) < q20);
                        let q35 : Nat := (↑x_1 : Int).toNat;
                        let q36 : Int := x.2.1.2.1.getD q35 q0;
                        let q37 : Bool := decide (q36 ≥ q0);
                        let q38 : Int := (↑x_1 : Int) + q7;
                        let q39 : Prop := (inK IntKind.i64 q38 ∧ True ∧ True) ∧ True;
                        let q40 : Nat := q36.toNat;
                        let q41 : Bool := Sp.round (Sp.close q33);
                        x_1 ≤ q17 →
                          dFact (Ty.int IntKind.i64) (↑x_1 : Int) ∧ dFact (Ty.arr q5 (Ty.arr q5 Ty.bool)) q33 ∧ True →
                            q4 ∧
                              (q34 = true → ((True ∧ inN (↑x_1 : Int) q17 ∧ q3) ∧ True) ∧ (q2 ∧ True) ∧ (q37 = true → ((True ∧ True ∧ inN q36 q5 ∧ inN (↑x_1 : Int) q5 ∧ True) ∧ True ∧ True) ∧ q39 ∧ ∃ (y : Nat), y ≤ q17 ∧ q17 - y < q17 - x_1 ∧ q38 = (↑y : Int) ∧ q33.set q40 (List.set (q33.getD q40 q8) q35 true) = Sp.mat (Sp.flowN x.2.1 y) ∧ q21) ∧ (q37 = false → q39 ∧ ∃ (y : Nat), y ≤ q17 ∧ q17 - y < q17 - x_1 ∧ q38 = (↑y : Int) ∧ q33 = Sp.mat (Sp.flowN x.2.1 y) ∧ q21)) ∧
                                (q34 = false →
                                  q2 ∧
                                    q2 ∧
                                      q4 ∧
                                        (q41 = true → q15) ∧
                                          (q41 = false →
                                            q6 ∧
                                              (∃ (x_2 : Nat), (x_2 ≤ q16 ∧ ∀ (a : Nat), a < x_2 → Sp.okEv x.2.1 a) ∧ q0 = (↑x_2 : Int) ∧ q28) ∧
                                                ∀ (x_2 : Nat),
                                                  let q42 : Bool := decide ((↑x_2 : Int) < q25);
                                                  let q43 : Prop := inN (↑x_2 : Int) q16;
                                                  let q44 : Nat := (↑x_2 : Int).toNat;
                                                  let q45 : Int × (Int × Int × Int × Unit) × Int × Unit := x.2.1.1.getD q44 q10;
                                                  let q46 : Int × Int × Int × Unit := q45.2.1;
                                                  let q47 : Int := q46.1;
                                                  let q48 : Bool := q47 == q11;
                                                  let q49 : Int := (↑x_2 : Int) + q7;
                                                  let q50 : Prop := ((inK IntKind.i64 q49 ∧ True ∧ True) ∧ True) ∧ ∃ (y : Nat), (y ≤ q16 ∧ ∀ (a : Nat), a < y → Sp.okEv x.2.1 a) ∧ q16 - y < q16 - x_2 ∧ q49 = (↑y : Int) ∧ q28;
                                                  let q51 : Int := (Sp.ev x.2.1.1 (↑x_2 : Int)).2.1.2.1;
                                                  let q52 : Bool := q47 == (3 : Int);
                                                  let q53 : Prop := (true && bif q52 then true else false) = true;
                                                  let q54 : Prop := q53 → True;
                                                  let q55 : List Int := q29.getD q51.toNat (([] : List Int));
                                                  let q56 : Int := Sp.idx q55 (↑x_2 : Int) - q7;
                                                  let q57 : Bool := bif q52 then Sp.idx q55 (x.2.1.2.1.getD q44 q0) != q56 else false;
                                                  let q58 : Prop := (↑x_2 : Int) = (↑x_2 : Int);
                                                  let q59 : Prop := q18 ∧ q19 ∧ q23 ∧ q24 ∧ q26 ∧ q58 ∧ q58 ∧ q45 = q45 ∧ q27;
                                                  (x_2 ≤ q16 ∧ ∀ (a : Nat), a < x_2 → Sp.okEv x.2.1 a) →
                                                    dFact (Ty.int IntKind.i64) (↑x_2 : Int) ∧ True →
                                                      q4 ∧
                                                        (q42 = true →
                                                            ((True ∧ q43 ∧ q3) ∧ True ∧ True) ∧
                                                              q6 ∧
                                                                (q48 = true → q50) ∧
                                                                  (q48 = false →
                                                                    ((True ∧ True ∧ (q43 ∧ inN (↑x_2 : Int) q17 ∧ inN q51 q29.length) ∧ True ∧ True) ∧ True ∧ True) ∧
                                                                      ((True ∧ True ∧ True ∧ True ∧ True ∧ q54 ∧ q54 ∧ q54 ∧ q54 ∧ (q53 → inK IntKind.i64 q56) ∧ q54 ∧ True ∧ True) ∧ True) ∧
                                                                        (q57 = true → q15) ∧
                                                                          (q57 = false →
                                                                            q6 ∧
                                                                              (∃ (x_3 : Nat), (x_3 ≤ q16 ∧ ∀ (b : Nat), b < x_3 → Sp.badPair x.2.1 x_2 b = false) ∧ q0 = (↑x_3 : Int) ∧ q59) ∧
                                                                                ∀ (x_3 : Nat),
                                                                                  let q60 : Bool := decide ((↑x_3 : Int) < q25);
                                                                                  let q61 : Nat := (↑x_3 : Int).toNat;
                                                                                  let q62 : Bool := List.getD (q22.getD q44 q8) q61 false;
                                                                                  let q63 : Prop := (true && bif q62 then true else false) = true → True;
                                                                                  let q64 : Int × Int × Int × Unit := (x.2.1.1.getD q61 q10).2.1;
                                                                                  let q65 : Bool := bif q62 then q64.1 != q11 else false;
                                                                                  let q66 : Prop := (true && bif q65 then true else false) = true → True;
                                                                                  let q67 : Bool := bif q65 then q46.2.1 == q64.2.1 else false;
                                                                                  let q68 : Prop := (true && bif q67 then true else false) = true;
                                                                                  let q69 : Prop := q68 → True;
                                                                                  let q70 : Bool := bif q67 then !Sp.coh x.2.1 (↑x_2 : Int) (↑x_3 : Int) else false;
                                                                                  let q71 : Int := (↑x_3 : Int) + q7;
                                                                                  (x_3 ≤ q16 ∧ ∀ (b : Nat), b < x_3 → Sp.badPair x.2.1 x_2 b = false) → dFact (Ty.int IntKind.i64) (↑x_3 : Int) ∧ True → q4 ∧ (q60 = true → ((True ∧ inN (↑x_3 : Int) q16 ∧ q3) ∧ True ∧ True) ∧ ((True ∧ True ∧ inN (↑x_2 : Int) q5 ∧ inN (↑x_3 : Int) q5 ∧ True ∧ True ∧ q63 ∧ q63 ∧ q63 ∧ q63 ∧ True ∧ True ∧ q66 ∧ q66 ∧ q66 ∧ q66 ∧ q66 ∧ q66 ∧ q66 ∧ True ∧ True ∧ q69 ∧ q69 ∧ q69 ∧ (q68 → (inN (↑x_2 : Int) q30 ∧ inN (↑x_2 : Int) q31 ∧ inN q51 q32) ∧ inN (↑x_3 : Int) q30 ∧ inN (↑x_3 : Int) q31 ∧ inN (Sp.ev x.2.1.1 (↑x_3 : Int)).2.1.2.1 q32) ∧ q69 ∧ True ∧ True) ∧ True) ∧ (q70 = true → q15) ∧ (q70 = false → ((inK IntKind.i64 q71 ∧ True ∧ True) ∧ True) ∧ ∃ (y : Nat), (y ≤ q16 ∧ ∀ (b : Nat), b < y → Sp.badPair x.2.1 x_2 b = false) ∧ q16 - y < q16 - x_3 ∧ q71 = (↑y : Int) ∧ q59)) ∧ (q60 = false → q50)))) ∧
                                                          (q42 = false → q4 ∧ true = q14))))) := by kernel_rfl
theorem vc31 : funI C31 (stpP C31) S31 L31 Try.f31 = (
let q0 : Prop := (True ∧ True) ∧ True;
let q1 : Prop := True ∧ True ∧ True ∧ True ∧ True ∧ True ∧ True ∧ True ∧ True;
let q2 : Int := (2 : tI.den);
let q3 : Int := (0 : Int);
let q4 : Int := (1 : Int);
let q5 : Int × Unit := (q4, ());
let q6 : Int × Int × Int × Unit := (q2, q3, q5);
let q7 : Int := (0 : tI.den);
let q8 : Int × Unit := (q7, ());
let q9 : Int × Int × Int × Unit := ((4 : tI.den), q7, q8);
let q10 : Int := (1 : tI.den);
let q11 : List (Int × Int × Int × Unit) := (q10, q4, q8) :: ([] : List tLOp.den);
let q12 : Int × Int × Int × Unit := (q2, q4, q5);
let q13 : List (Int × Int × Int × Unit) := (q10, q3, q8) :: ([] : List tLOp.den);
let q14 : List (List (Int × Int × Int × Unit)) := ([] : List tLOp.slice.den);
let q15 : Int := (2 : Int);
let q16 : Int × Unit := (q4, ());
let q17 : Int × Int × Int × Unit := (q15, q3, q16);
let q18 : Int × Unit := (q3, ());
let q19 : Int × Int × Unit := (q3, q18);
let q20 : Int × Int × Int × Unit := ((4 : Int), q19);
let q21 : List (Int × Int × Int × Unit) := (q4, q4, q18) :: ([] : List tLOp.den);
let q22 : Int × Int × Int × Unit := (q15, q4, q16);
let q23 : List (Int × Int × Int × Unit) := (q4, q19) :: ([] : List tLOp.den);
∀ (x : Bool × Unit),
  let q24 : List (List (Int × Int × Int × Unit)) × Unit := bif x.1 then ((q17 :: q20 :: q21) :: (q22 :: q20 :: q23) :: q14, ()) else ((q17 :: q21) :: (q22 :: q23) :: q14, ());
  True → dFact Ty.bool x.1 ∧ True → q0 ∧ q0 ∧ (x.1 = true → ((True ∧ True ∧ q1) ∧ True ∧ True) ∧ ((q6 :: q9 :: q11) :: (q12 :: q9 :: q13) :: q14, ()) = q24) ∧ (x.1 = false → (q1 ∧ True ∧ True) ∧ ((q6 :: q11) :: (q12 :: q13) :: q14, ()) = q24)) := by kernel_rfl
end Go.User
