/- Written by gen.py: what is left to show of each function. Written by gen.py: what is left to show of each function. -/
import Derived.Test.YtmoonjcbljefaaaLfg
set_option linter.unusedVariables false
set_option linter.unusedSimpArgs false
namespace Go.User
open Go.Proofs Go.Lf
set_option maxRecDepth 100000
theorem vc54 : funI C54 (stpP C54) S54 L54 Try.f54 = (
let q0 : Prop := True ∧ True ∧ True;
let q1 : Prop := q0 ∧ True;
let q2 : Prop := True ∧ q0;
let q3 : Prop := q2 ∧ True;
let q4 : Int := (0 : Int);
let q5 : Int × Unit := (q4, ());
let q6 : Int × (Int × Int × Int × Unit) × Int × Unit := (q4, (q4, q4, q5), q5);
let q7 : Prop := (True ∧ True) ∧ True;
∀ (x : (List (Int × (Int × Int × Int × Unit) × Int × Unit) × List Int × List (List Int) × List Int × Unit) × Int × Int × Unit),
  let q8 : Nat := x.1.1.length;
  let q9 : Nat := x.1.2.1.length;
  let q10 : Int := (Sp.ev x.1.1 x.2.1).2.1.2.1;
  let q11 : Nat := x.1.2.2.1.length;
  let q12 : Int := (Sp.ev x.1.1 x.2.2.1).2.1.2.1;
  let q13 : Nat := x.1.1.length;
  let q14 : Prop := inN x.2.1 q13;
  let q15 : Nat := x.1.2.1.length;
  let q16 : Nat := x.1.2.2.1.length;
  let q17 : Prop := inN x.2.2.1 q13;
  let q18 : Bool := Sp.writes (x.1.1.getD x.2.1.toNat q6).2.1;
  let q19 : Nat := x.2.2.1.toNat;
  let q20 : Int × Int × Int × Unit := (x.1.1.getD q19 q6).2.1;
  let q21 : Bool := Sp.reads q20;
  let q22 : Prop := (true && bif q21 then true else false) = true → True;
  let q23 : Prop := (True ∧ True ∧ True ∧ q22 ∧ q22 ∧ q22 ∧ q22 ∧ q0) ∧ True;
  let q24 : List Int := x.1.2.2.1.getD q12.toNat (([] : List Int));
  let q25 : Int := Sp.idx q24 (x.1.2.1.getD q19 q4);
  let q26 : List Int := x.1.2.2.1.getD q10.toNat (([] : List Int));
  let q27 : Int := Sp.idx q26 x.2.1;
  let q28 : Bool := bif q21 then decide (q25 < q27) else false;
  let q29 : Bool := Sp.coh x.1 x.2.1 x.2.2.1;
  let q30 : Prop := q7 ∧ false = q29;
  let q31 : Bool := Sp.writes q20;
  let q32 : Prop := (true && bif q31 then true else false) = true → True;
  let q33 : Prop := (True ∧ True ∧ True ∧ q32 ∧ q32 ∧ q32 ∧ q32 ∧ q0) ∧ True;
  let q34 : Int := Sp.idx q24 x.2.2.1;
  let q35 : Bool := bif q31 then decide (q34 ≤ q27) else false;
  let q36 : Prop := q7 ∧ true = q29;
  let q37 : Int := Sp.idx q26 (x.1.2.1.getD x.2.1.toNat q4);
  let q38 : Bool := bif q21 then decide (q25 < q37) else false;
  let q39 : Bool := bif q31 then decide (q34 ≤ q37) else false;
  (inN x.2.1 q8 ∧ inN x.2.1 q9 ∧ inN q10 q11) ∧ inN x.2.2.1 q8 ∧ inN x.2.2.1 q9 ∧ inN q12 q11 → dFact (((Ty.int IntKind.i64).prod (((Ty.int IntKind.i64).prod ((Ty.int IntKind.i64).prod ((Ty.int IntKind.i64).prod Ty.unit))).prod ((Ty.int IntKind.i64).prod Ty.unit))).slice.prod ((Ty.int IntKind.i64).slice.prod ((Ty.int IntKind.i64).slice.slice.prod ((Ty.int IntKind.i64).slice.prod Ty.unit)))) x.1 ∧ dFact (Ty.int IntKind.i64) x.2.1 ∧ dFact (Ty.int IntKind.i64) x.2.2.1 ∧ True → q1 ∧ ((True ∧ True ∧ (q14 ∧ inN x.2.1 q15 ∧ inN q10 q16) ∧ True ∧ True ∧ (q17 ∧ inN x.2.2.1 q15 ∧ inN q12 q16) ∧ q0) ∧ q0) ∧ (True ∧ True ∧ True ∧ q14 ∧ True ∧ True ∧ True ∧ True ∧ True ∧ q17 ∧ True ∧ q2) ∧ q3 ∧ q1 ∧ (q18 = true → q3 ∧ q23 ∧ (q28 = true → q30) ∧ (q28 = false → q33 ∧ (q35 = true → q30) ∧ (q35 = false → q36))) ∧ (q18 = false → q23 ∧ (q38 = true → q30) ∧ (q38 = false → q33 ∧ (q39 = true → q30) ∧ (q39 = false → q36)))) := by kernel_rfl
theorem vc16 : funI C16 (stpP C16) S16 L16 Try.f16 = (
let q0 : Int := (0 : Int);
let q1 : Nat := (1000 : Nat);
let q2 : Prop := True ∧ True ∧ True;
let q3 : Prop := True ∧ q2;
let q4 : Prop := q3 ∧ True;
let q5 : Int := (3 : Int);
let q6 : Prop := (True ∧ True) ∧ True;
let q7 : Prop := ([] : List Step) = ([] : List Step);
let q8 : Int × Unit := (q0, ());
let q9 : Int × (Int × Int × Int × Unit) × Int × Unit := (q0, (q0, q0, q8), q8);
let q10 : Int := (1 : Int);
let q11 : Prop := (True ∧ q3) ∧ True;
let q12 : Nat := (3 : Nat);
∀ (x : (List (List (Int × Int × Int × Unit)) × Unit) × (List (Int × (Int × Int × Int × Unit) × Int × Unit) × List Int × List (List Int) × List Int × Unit) × Unit),
  let q13 : List (Int × (Int × Int × Int × Unit) × Int × Unit) := Sp.evs q0 x.1.1;
  let q14 : Nat := q13.length;
  let q15 : Prop := q14 ≤ q1;
  let q16 : Bool := !Sp.valid x.1;
  let q17 : Prop := (true && bif q16 then false else true) = true → True;
  let q18 : Nat := x.2.1.1.length;
  let q19 : Int := (↑q18 : Int);
  let q20 : Nat := q13.length;
  let q21 : Int := (↑q20 : Int);
  let q22 : Bool := bif q16 then true else q19 != q21;
  let q23 : Prop := (true && bif q22 then false else true) = true → True;
  let q24 : Nat := x.2.1.2.1.length;
  let q25 : Bool := bif q22 then true else (↑q24 : Int) != q21;
  let q26 : Prop := (true && bif q25 then false else true) = true → True;
  let q27 : List (List Int) := x.2.1.2.2.1;
  let q28 : Nat := q27.length;
  let q29 : Bool := bif q25 then true else (↑q28 : Int) != q5;
  let q30 : Bool := Sp.right x.1 x.2.1;
  let q31 : Prop := q6 ∧ false = q30;
  let q32 : Prop := x.1 = x.1;
  let q33 : Prop := x.2.1 = x.2.1;
  let q34 : Prop := q13 = q13;
  let q35 : Prop := q32 ∧ q33 ∧ q34 ∧ q7 ∧ q21 = q21 ∧ True;
  let q36 : Prop := q32 ∧ q33 ∧ q34 ∧ x.2.1.1 = x.2.1.1 ∧ q19 = q19 ∧ True;
  let q37 : Prop := q32 ∧ q33 ∧ q34 ∧ True;
  let q38 : Prop := True ∧ (q20 ≤ q1 ∧ ∀ (o : Int × Int × Int × Unit), True) ∧ True ∧ True;
  q15 →
    dFact (((Ty.int IntKind.i64).prod ((Ty.int IntKind.i64).prod ((Ty.int IntKind.i64).prod Ty.unit))).slice.slice.prod Ty.unit) x.1 ∧ dFact (((Ty.int IntKind.i64).prod (((Ty.int IntKind.i64).prod ((Ty.int IntKind.i64).prod ((Ty.int IntKind.i64).prod Ty.unit))).prod ((Ty.int IntKind.i64).prod Ty.unit))).slice.prod ((Ty.int IntKind.i64).slice.prod ((Ty.int IntKind.i64).slice.slice.prod ((Ty.int IntKind.i64).slice.prod Ty.unit)))) x.2.1 ∧ True →
      q4 ∧
        ((True ∧ q15 ∧ True) ∧ True ∧ True) ∧
          ((True ∧ q15 ∧ True ∧ True ∧ q17 ∧ q17 ∧ q17 ∧ q17 ∧ q17 ∧ q17 ∧ True ∧ True ∧ q23 ∧ q23 ∧ q23 ∧ q23 ∧ q23 ∧ q23 ∧ True ∧ True ∧ q26 ∧ q26 ∧ q26 ∧ q26 ∧ True ∧ True) ∧ True) ∧
            (q29 = true → q31) ∧
              (q29 = false →
                q4 ∧
                  (∃ (x_1 : Nat), (x_1 ≤ q14 ∧ ∀ (n : Nat), n < x_1 → Sp.src q13 x.2.1 n) ∧ q0 = (↑x_1 : Int) ∧ q35) ∧
                    ∀ (x_1 : Nat),
                      let q39 : Bool := decide ((↑x_1 : Int) < q21);
                      let q40 : Nat := (↑x_1 : Int).toNat;
                      let q41 : Int × (Int × Int × Int × Unit) × Int × Unit := x.2.1.1.getD q40 q9;
                      let q42 : Int × (Int × Int × Int × Unit) × Int × Unit := q13.getD q40 q9;
                      let q43 : (Int × Int × Int × Unit) × Int × Unit := q41.2;
                      let q44 : Int × Int × Int × Unit := q43.1;
                      let q45 : Int × Int × Int × Unit := q42.2.1;
                      let q46 : Int × Int × Unit := q44.2;
                      let q47 : Int × Int × Unit := q45.2;
                      let q48 : Int := q47.1;
                      let q49 : Int := q43.2.1;
                      let q50 : Bool := !(decide (q41.1 = q42.1) && (decide (q44.1 = q45.1) && (decide (q46.1 = q48) && (decide (q46.2.1 = q47.2.1) && true)) && (decide (q49 = q49) && true)));
                      let q51 : Prop := (true && bif q50 then false else true) = true → True;
                      let q52 : Int := x.2.1.2.1.getD q40 q0;
                      let q53 : Bool := bif q50 then true else decide (q52 < -q10);
                      let q54 : Prop := (true && bif q53 then false else true) = true → True;
                      let q55 : Bool := bif q53 then true else decide (q52 ≥ q21);
                      let q56 : Bool := decide (q52 ≥ q0);
                      let q57 : Bool := true && bif q56 then true else false;
                      let q58 : Prop := q57 = true → True;
                      let q59 : Bool := !Sp.reads q45;
                      let q60 : Prop := (q57 && bif q59 then false else true) = true;
                      let q61 : Prop := q60 → True;
                      let q62 : Prop := inN q52 q20;
                      let q63 : Int × Int × Int × Unit := (q13.getD q52.toNat q9).2.1;
                      let q64 : Bool := bif q59 then true else !Sp.writes q63;
                      let q65 : Prop := (q57 && bif q64 then false else true) = true;
                      let q66 : Prop := q65 → True;
                      let q67 : Bool := bif q56 then bif q64 then true else q63.2.1 != q48 else false;
                      let q68 : Int := (↑x_1 : Int) + q10;
                      (x_1 ≤ q14 ∧ ∀ (n : Nat), n < x_1 → Sp.src q13 x.2.1 n) →
                        dFact (Ty.int IntKind.i64) (↑x_1 : Int) ∧ True →
                          q6 ∧
                            (q39 = true → ((True ∧ inN (↑x_1 : Int) q20 ∧ q3) ∧ True ∧ True) ∧ ((True ∧ True ∧ True ∧ inN (↑x_1 : Int) q18 ∧ q2) ∧ True ∧ True) ∧ ((True ∧ True ∧ True ∧ inN (↑x_1 : Int) q24 ∧ q2) ∧ True) ∧ (q3 ∧ True ∧ True) ∧ ((True ∧ True ∧ True ∧ True ∧ q51 ∧ q51 ∧ True ∧ True ∧ q54 ∧ q54 ∧ q54 ∧ q54 ∧ True ∧ True) ∧ True) ∧ (q55 = true → q31) ∧ (q55 = false → ((True ∧ True ∧ True ∧ q58 ∧ q58 ∧ q58 ∧ q58 ∧ q58 ∧ q61 ∧ q61 ∧ (q60 → q62) ∧ q61 ∧ q61 ∧ q61 ∧ q61 ∧ q58 ∧ q58 ∧ q66 ∧ q66 ∧ (q65 → q62) ∧ q66 ∧ q66 ∧ q66 ∧ q66 ∧ q66 ∧ q66 ∧ q66 ∧ q58 ∧ True ∧ True) ∧ True) ∧ (q67 = true → q31) ∧ (q67 = false → ((inK IntKind.i64 q68 ∧ True ∧ True) ∧ True) ∧ ∃ (y : Nat), (y ≤ q14 ∧ ∀ (n : Nat), n < y → Sp.src q13 x.2.1 n) ∧ q14 - y < q14 - x_1 ∧ q68 = (↑y : Int) ∧ q35))) ∧
                              (q39 = false →
                                q11 ∧
                                  (∃ (x_2 : Nat), (x_2 ≤ q18 ∧ ∀ (n : Nat), n < x_2 → Sp.got x.2.1 n) ∧ q0 = (↑x_2 : Int) ∧ q36) ∧
                                    ∀ (x_2 : Nat),
                                      let q69 : Bool := decide ((↑x_2 : Int) < q19);
                                      let q70 : Nat := (↑x_2 : Int).toNat;
                                      let q71 : (Int × Int × Int × Unit) × Int × Unit := (x.2.1.1.getD q70 q9).2;
                                      let q72 : Bool := Sp.reads q71.1;
                                      let q73 : Int := x.2.1.2.1.getD q70 q0;
                                      let q74 : Int := q71.2.1;
                                      let q75 : Bool := q74 != Sp.value x.2.1.1 q73;
                                      let q76 : Int := (↑x_2 : Int) + q10;
                                      let q77 : Prop := ((inK IntKind.i64 q76 ∧ True ∧ True) ∧ True) ∧ ∃ (y : Nat), (y ≤ q18 ∧ ∀ (n : Nat), n < y → Sp.got x.2.1 n) ∧ q18 - y < q18 - x_2 ∧ q76 = (↑y : Int) ∧ q36;
                                      let q78 : Bool := q74 != q0;
                                      (x_2 ≤ q18 ∧ ∀ (n : Nat), n < x_2 → Sp.got x.2.1 n) →
                                        dFact (Ty.int IntKind.i64) (↑x_2 : Int) ∧ True →
                                          q6 ∧
                                            (q69 = true → ((True ∧ inN (↑x_2 : Int) q18 ∧ q3) ∧ True ∧ True) ∧ q6 ∧ q4 ∧ (q72 = true → ((True ∧ True ∧ True ∧ True ∧ inN (↑x_2 : Int) q24 ∧ True ∧ q73 < q19 ∧ True ∧ True) ∧ True) ∧ q11 ∧ (q75 = true → q31) ∧ (q75 = false → q77)) ∧ (q72 = false → q11 ∧ (q78 = true → q31) ∧ (q78 = false → q77))) ∧
                                              (q69 = false →
                                                q6 ∧
                                                  (∃ (x : Nat), (x ≤ q12 ∧ ∀ (p : Nat), p < x → (Sp.isList (q27.getD p (([] : List Int))) q13 fun (o : Sp.LOp) => Sp.writes o && decide (o.2.1 = (↑p : Int))) = true) ∧ q0 = (↑x : Int) ∧ q37) ∧
                                                    ∀ (x_3 : Nat),
                                                      let q79 : Bool := decide ((↑x_3 : Int) < q5);
                                                      let q80 : Bool := !Sp.isList (q27.getD (↑x_3 : Int).toNat (([] : List tI.den))) q13 fun (o : Sp.LOp) => Sp.writes o && decide (o.2.1 = (↑x_3 : Int));
                                                      let q81 : Int := (↑x_3 : Int) + q10;
                                                      (x_3 ≤ q12 ∧ ∀ (p : Nat), p < x_3 → (Sp.isList (q27.getD p (([] : List Int))) q13 fun (o : Sp.LOp) => Sp.writes o && decide (o.2.1 = (↑p : Int))) = true) → dFact (Ty.int IntKind.i64) (↑x_3 : Int) ∧ True → q6 ∧ (q79 = true → (q2 ∧ True ∧ True) ∧ ((True ∧ True ∧ True ∧ inN (↑x_3 : Int) q28 ∧ q2) ∧ q38) ∧ (q80 = true → q31) ∧ (q80 = false → ((inK IntKind.i64 q81 ∧ True ∧ True) ∧ True) ∧ ∃ (y : Nat), (y ≤ q12 ∧ ∀ (p : Nat), p < y → (Sp.isList (q27.getD p (([] : List Int))) q13 fun (o : Sp.LOp) => Sp.writes o && decide (o.2.1 = (↑p : Int))) = true) ∧ q12 - y < q12 - x_3 ∧ q81 = (↑y : Int) ∧ q37)) ∧ (q79 = false → ((True ∧ True ∧ q38) ∧ True) ∧ (Sp.isList x.2.1.2.2.2.1 q13 fun (o : Sp.LOp) => decide (o.1 = (4 : tI.den))) = q30))))) := by kernel_rfl
theorem vc18 : funI C18 (stpP C18) S18 L18 Try.f18 = (
let q0 : Int := (0 : Int);
let q1 : Nat := (1000 : Nat);
let q2 : Prop := True ∧ True ∧ True;
let q3 : Prop := True ∧ q2;
let q4 : Prop := (True ∧ True) ∧ True;
let q5 : Nat := (6 : Nat);
let q6 : Prop := (True ∧ q3) ∧ True;
let q7 : Int := (1 : Int);
let q8 : List Bool := List.replicate q5 false;
let q9 : Int × Unit := (q0, ());
let q10 : Int × (Int × Int × Int × Unit) × Int × Unit := (q0, (q0, q0, q9), q9);
let q11 : Int := (4 : Int);
∀ (x : (List (List (Int × Int × Int × Unit)) × Unit) × (List (Int × (Int × Int × Int × Unit) × Int × Unit) × List Int × List (List Int) × List Int × Unit) × Unit),
  let q12 : Prop := (Sp.evs q0 x.1.1).length ≤ q1;
  let q13 : Bool := !Sp.right x.1 x.2.1;
  let q14 : Bool := Sp.allowed x.1 x.2.1;
  let q15 : Prop := q4 ∧ false = q14;
  let q16 : Nat := x.2.1.1.length;
  let q17 : Nat := x.2.1.2.1.length;
  let q18 : Prop := x.1 = x.1;
  let q19 : Prop := x.2.1 = x.2.1;
  let q20 : Int := (↑q17 : Int);
  let q21 : Prop := q18 ∧ q19 ∧ Sp.order x.2.1 = Sp.order x.2.1 ∧ x.2.1.2.1 = x.2.1.2.1 ∧ q20 = q20 ∧ True;
  let q22 : List (List Bool) := Sp.close (Sp.order x.2.1);
  let q23 : Prop := q22 = q22;
  let q24 : Prop := x.2.1.1 = x.2.1.1;
  let q25 : Int := (↑q16 : Int);
  let q26 : Prop := q25 = q25;
  let q27 : Prop := q24 ∧ q26 ∧ True;
  let q28 : Prop := q18 ∧ q19 ∧ q23 ∧ q27;
  let q29 : List (List Int) := x.2.1.2.2.1;
  let q30 : Nat := x.2.1.1.length;
  let q31 : Nat := x.2.1.2.1.length;
  let q32 : Nat := q29.length;
  q12 →
    dFact (((Ty.int IntKind.i64).prod ((Ty.int IntKind.i64).prod ((Ty.int IntKind.i64).prod Ty.unit))).slice.slice.prod Ty.unit) x.1 ∧ dFact (((Ty.int IntKind.i64).prod (((Ty.int IntKind.i64).prod ((Ty.int IntKind.i64).prod ((Ty.int IntKind.i64).prod Ty.unit))).prod ((Ty.int IntKind.i64).prod Ty.unit))).slice.prod ((Ty.int IntKind.i64).slice.prod ((Ty.int IntKind.i64).slice.slice.prod ((Ty.int IntKind.i64).slice.prod Ty.unit)))) x.2.1 ∧ True →
      (q3 ∧ True) ∧
        ((True ∧ True ∧ q12 ∧ True ∧ True) ∧ True) ∧
          (q13 = true → q15) ∧
            (q13 = false →
              ((True ∧ (q16 ≤ q5 ∧ ∀ (n : Int), n ∈ x.2.1.2.2.2.1 → inN n q5) ∧ True ∧ True) ∧ True ∧ True) ∧
                (q2 ∧ True ∧ True) ∧
                  q6 ∧
                    (∃ (x_1 : Nat), x_1 ≤ q17 ∧ q0 = (↑x_1 : Int) ∧ Sp.order x.2.1 = Sp.mat (Sp.flowN x.2.1 x_1) ∧ q21) ∧
                      ∀ (x_1 : Nat),
                        let q33 : List (List Bool) := Sp.mat (Sp.flowN x.2.1 x_1);
                        let q34 : Bool := decide ((↑x_1 : Int) < q20);
                        let q35 : Nat := (↑x_1 : Int).toNat;
                        let q36 : Int := x.2.1.2.1.getD q35 q0;
                        let q37 : Bool := decide (q36 ≥ q0);
                        let q38 : Int := (↑x_1 : Int) + q7;
                        let q39 : Prop := (inK IntKind.i64 q38 ∧ True ∧ True) ∧ True;
                        let q40 : Nat := q36.toNat;
                        let q41 : Bool := Sp.round (Sp.close q33);
                        x_1 ≤ q17 →
                          dFact (Ty.int IntKind.i64) (↑x_1 : Int) ∧ dFact (Ty.arr q5 (Ty.arr q5 Ty.bool)) q33 ∧ True →
                            q4 ∧
                              (q34 = true → ((True ∧ inN (↑x_1 : Int) q17 ∧ q3) ∧ True) ∧ (q2 ∧ True) ∧ (q37 = true → ((True ∧ True ∧ inN q36 q5 ∧ inN (↑x_1 : Int) q5 ∧ True) ∧ True ∧ True) ∧ q39 ∧ ∃ (y : Nat), y ≤ q17 ∧ q17 - y < q17 - x_1 ∧ q38 = (↑y : Int) ∧ q33.set q40 (List.set (q33.getD q40 q8) q35 true) = Sp.mat (Sp.flowN x.2.1 y) ∧ q21) ∧ (q37 = false → q39 ∧ ∃ (y : Nat), y ≤ q17 ∧ q17 - y < q17 - x_1 ∧ q38 = (↑y : Int) ∧ q33 = Sp.mat (Sp.flowN x.2.1 y) ∧ q21)) ∧
                                (q34 = false →
                                  q2 ∧
                                    q2 ∧
                                      q4 ∧
                                        (q41 = true → q15) ∧
                                          (q41 = false →
                                            q6 ∧
                                              (∃ (x_2 : Nat), (x_2 ≤ q16 ∧ ∀ (a : Nat), a < x_2 → Sp.okEv x.2.1 a) ∧ q0 = (↑x_2 : Int) ∧ q28) ∧
                                                ∀ (x_2 : Nat),
                                                  let q42 : Bool := decide ((↑x_2 : Int) < q25);
                                                  let q43 : Prop := inN (↑x_2 : Int) q16;
                                                  let q44 : Nat := (↑x_2 : Int).toNat;
                                                  let q45 : Int × (Int × Int × Int × Unit) × Int × Unit := x.2.1.1.getD q44 q10;
                                                  let q46 : Int × Int × Int × Unit := q45.2.1;
                                                  let q47 : Int := q46.1;
                                                  let q48 : Bool := q47 == q11;
                                                  let q49 : Int := (↑x_2 : Int) + q7;
                                                  let q50 : Prop := ((inK IntKind.i64 q49 ∧ True ∧ True) ∧ True) ∧ ∃ (y : Nat), (y ≤ q16 ∧ ∀ (a : Nat), a < y → Sp.okEv x.2.1 a) ∧ q16 - y < q16 - x_2 ∧ q49 = (↑y : Int) ∧ q28;
                                                  let q51 : Int := (Sp.ev x.2.1.1 (↑x_2 : Int)).2.1.2.1;
                                                  let q52 : Bool := q47 == (3 : Int);
                                                  let q53 : Prop := (true && bif q52 then true else false) = true;
                                                  let q54 : Prop := q53 → True;
                                                  let q55 : List Int := q29.getD q51.toNat (([] : List Int));
                                                  let q56 : Int := Sp.idx q55 (↑x_2 : Int) - q7;
                                                  let q57 : Bool := bif q52 then Sp.idx q55 (x.2.1.2.1.getD q44 q0) != q56 else false;
                                                  let q58 : Prop := (↑x_2 : Int) = (↑x_2 : Int);
                                                  let q59 : Prop := q18 ∧ q19 ∧ q23 ∧ q24 ∧ q26 ∧ q58 ∧ q58 ∧ q45 = q45 ∧ q27;
                                                  (x_2 ≤ q16 ∧ ∀ (a : Nat), a < x_2 → Sp.okEv x.2.1 a) →
                                                    dFact (Ty.int IntKind.i64) (↑x_2 : Int) ∧ True →
                                                      q4 ∧
                                                        (q42 = true →
                                                            ((True ∧ q43 ∧ q3) ∧ True ∧ True) ∧
                                                              q6 ∧
                                                                (q48 = true → q50) ∧
                                                                  (q48 = false →
                                                                    ((True ∧ True ∧ (q43 ∧ inN (↑x_2 : Int) q17 ∧ inN q51 q29.length) ∧ True ∧ True) ∧ True ∧ True) ∧
                                                                      ((True ∧ True ∧ True ∧ True ∧ True ∧ q54 ∧ q54 ∧ q54 ∧ q54 ∧ (q53 → inK IntKind.i64 q56) ∧ q54 ∧ True ∧ True) ∧ True) ∧
                                                                        (q57 = true → q15) ∧
                                                                          (q57 = false →
                                                                            q6 ∧
                                                                              (∃ (x_3 : Nat), (x_3 ≤ q16 ∧ ∀ (b : Nat), b < x_3 → Sp.badPair x.2.1 x_2 b = false) ∧ q0 = (↑x_3 : Int) ∧ q59) ∧
                                                                                ∀ (x_3 : Nat),
                                                                                  let q60 : Bool := decide ((↑x_3 : Int) < q25);
                                                                                  let q61 : Nat := (↑x_3 : Int).toNat;
                                                                                  let q62 : Bool := List.getD (q22.getD q44 q8) q61 false;
                                                                                  let q63 : Prop := (true && bif q62 then true else false) = true → True;
                                                                                  let q64 : Int × Int × Int × Unit := (x.2.1.1.getD q61 q10).2.1;
                                                                                  let q65 : Bool := bif q62 then q64.1 != q11 else false;
                                                                                  let q66 : Prop := (true && bif q65 then true else false) = true → True;
                                                                                  let q67 : Bool := bif q65 then q46.2.1 == q64.2.1 else false;
                                                                                  let q68 : Prop := (true && bif q67 then true else false) = true;
                                                                                  let q69 : Prop := q68 → True;
                                                                                  let q70 : Bool := bif q67 then !Sp.coh x.2.1 (↑x_2 : Int) (↑x_3 : Int) else false;
                                                                                  let q71 : Int := (↑x_3 : Int) + q7;
                                                                                  (x_3 ≤ q16 ∧ ∀ (b : Nat), b < x_3 → Sp.badPair x.2.1 x_2 b = false) → dFact (Ty.int IntKind.i64) (↑x_3 : Int) ∧ True → q4 ∧ (q60 = true → ((True ∧ inN (↑x_3 : Int) q16 ∧ q3) ∧ True ∧ True) ∧ ((True ∧ True ∧ inN (↑x_2 : Int) q5 ∧ inN (↑x_3 : Int) q5 ∧ True ∧ True ∧ q63 ∧ q63 ∧ q63 ∧ q63 ∧ True ∧ True ∧ q66 ∧ q66 ∧ q66 ∧ q66 ∧ q66 ∧ q66 ∧ q66 ∧ True ∧ True ∧ q69 ∧ q69 ∧ q69 ∧ (q68 → (inN (↑x_2 : Int) q30 ∧ inN (↑x_2 : Int) q31 ∧ inN q51 q32) ∧ inN (↑x_3 : Int) q30 ∧ inN (↑x_3 : Int) q31 ∧ inN (Sp.ev x.2.1.1 (↑x_3 : Int)).2.1.2.1 q32) ∧ q69 ∧ True ∧ True) ∧ True) ∧ (q70 = true → q15) ∧ (q70 = false → ((inK IntKind.i64 q71 ∧ True ∧ True) ∧ True) ∧ ∃ (y : Nat), (y ≤ q16 ∧ ∀ (b : Nat), b < y → Sp.badPair x.2.1 x_2 b = false) ∧ q16 - y < q16 - x_3 ∧ q71 = (↑y : Int) ∧ q59)) ∧ (q60 = false → q50)))) ∧
                                                          (q42 = false → q4 ∧ true = q14))))) := by kernel_rfl
theorem vc31 : funI C31 (stpP C31) S31 L31 Try.f31 = (
let q0 : Prop := (True ∧ True) ∧ True;
let q1 : Prop := True ∧ True ∧ True ∧ True ∧ True ∧ True ∧ True ∧ True ∧ True;
let q2 : Int := (2 : tI.den);
let q3 : Int := (0 : Int);
let q4 : Int := (1 : Int);
let q5 : Int × Unit := (q4, ());
let q6 : Int × Int × Int × Unit := (q2, q3, q5);
let q7 : Int := (0 : tI.den);
let q8 : Int × Unit := (q7, ());
let q9 : Int × Int × Int × Unit := ((4 : tI.den), q7, q8);
let q10 : Int := (1 : tI.den);
let q11 : List (Int × Int × Int × Unit) := (q10, q4, q8) :: ([] : List tLOp.den);
let q12 : Int × Int × Int × Unit := (q2, q4, q5);
let q13 : List (Int × Int × Int × Unit) := (q10, q3, q8) :: ([] : List tLOp.den);
let q14 : List (List (Int × Int × Int × Unit)) := ([] : List tLOp.slice.den);
let q15 : Int := (2 : Int);
let q16 : Int × Unit := (q4, ());
let q17 : Int × Int × Int × Unit := (q15, q3, q16);
let q18 : Int × Unit := (q3, ());
let q19 : Int × Int × Unit := (q3, q18);
let q20 : Int × Int × Int × Unit := ((4 : Int), q19);
let q21 : List (Int × Int × Int × Unit) := (q4, q4, q18) :: ([] : List tLOp.den);
let q22 : Int × Int × Int × Unit := (q15, q4, q16);
let q23 : List (Int × Int × Int × Unit) := (q4, q19) :: ([] : List tLOp.den);
∀ (x : Bool × Unit),
  let q24 : List (List (Int × Int × Int × Unit)) × Unit := bif x.1 then ((q17 :: q20 :: q21) :: (q22 :: q20 :: q23) :: q14, ()) else ((q17 :: q21) :: (q22 :: q23) :: q14, ());
  True → dFact Ty.bool x.1 ∧ True → q0 ∧ q0 ∧ (x.1 = true → ((True ∧ True ∧ q1) ∧ True ∧ True) ∧ ((q6 :: q9 :: q11) :: (q12 :: q9 :: q13) :: q14, ()) = q24) ∧ (x.1 = false → (q1 ∧ True ∧ True) ∧ ((q6 :: q11) :: (q12 :: q13) :: q14, ()) = q24)) := by kernel_rfl
end Go.User
namespace Go.User
open Go.Proofs Go.Lf
set_option maxRecDepth 100000
theorem vc41 : funI C41 (stpP C41) S41 L41 Try.f41 = (
let q0 : Int := (0 : Int);
let q1 : Prop := True ∧ True ∧ True;
let q2 : Prop := q1 ∧ True;
let q3 : Prop := (True ∧ True) ∧ True;
let q4 : Prop := True ∧ q1;
let q5 : Prop := True ∧ q4;
let q6 : Int × Unit := (q0, ());
let q7 : Int × Int × Int × Unit := (q0, q0, q6);
let q8 : Int := (1 : Int);
∀ (x : (List (List (Int × Int × Int × Unit)) × Unit) × Unit),
  let q9 : List (Int × (Int × Int × Int × Unit) × Int × Unit) := Sp.evs q0 x.1.1;
  let q10 : Nat := x.1.1.length;
  let q11 : Prop := x.1 = x.1;
  let q12 : Prop := x.1.1 = x.1.1;
  let q13 : Int := (↑q10 : Int);
  let q14 : Prop := q13 = q13;
  let q15 : Prop := q11 ∧ q12 ∧ q14 ∧ True;
  q9.length ≤ (1000 : Nat) →
    dFact (((Ty.int IntKind.i64).prod ((Ty.int IntKind.i64).prod ((Ty.int IntKind.i64).prod Ty.unit))).slice.slice.prod Ty.unit) x.1 ∧ True →
      q2 ∧
        q3 ∧
          (q5 ∧ True) ∧
            (∃ (x_1 : Nat × List Sp.LEv), (x_1.1 ≤ q10 ∧ x_1.2 = Sp.evs q0 (List.take x_1.1 x.1.1)) ∧ q0 = (↑x_1.1 : Int) ∧ x_1.2 = ([] : List tLEv.den) ∧ q15) ∧
              ∀ (x_1 : Nat × List Sp.LEv),
                let q16 : List (Int × (Int × Int × Int × Unit) × Int × Unit) := Sp.evs q0 (List.take x_1.1 x.1.1);
                let q17 : Int := (↑x_1.1 : Int);
                let q18 : Bool := decide (q17 < q13);
                let q19 : List (Int × Int × Int × Unit) := x.1.1.getD x_1.1 (([] : List tLOp.den));
                let q20 : Nat := q19.length;
                let q21 : Prop := q17 = q17;
                let q22 : List (Int × Int × Int × Unit) := x.1.1.getD q17.toNat (([] : List tLOp.den));
                let q23 : Nat := q22.length;
                let q24 : Int := (↑q23 : Int);
                let q25 : Prop := q11 ∧ q12 ∧ q14 ∧ q21 ∧ q21 ∧ q22 = q22 ∧ q24 = q24 ∧ True;
                let q26 : Int := q17 + q8;
                x_1.1 ≤ q10 ∧ x_1.2 = q16 →
                  dFact (Ty.int IntKind.i64) q17 ∧ dFact ((Ty.int IntKind.i64).prod (((Ty.int IntKind.i64).prod ((Ty.int IntKind.i64).prod ((Ty.int IntKind.i64).prod Ty.unit))).prod ((Ty.int IntKind.i64).prod Ty.unit))).slice x_1.2 ∧ True →
                    q3 ∧
                      (q18 = true →
                          ((True ∧ inN q17 q10 ∧ q4) ∧ True) ∧
                            (q4 ∧ True) ∧
                              (∃ (x : Nat × List Sp.LEv), (x.1 ≤ q20 ∧ x.2 = q16 ++ List.map (Sp.mkEv q17) (List.take x.1 q19)) ∧ q0 = (↑x.1 : Int) ∧ x_1.2 = x.2 ∧ q25) ∧
                                ∀ (x_2 : Nat × List Sp.LEv),
                                  let q27 : Int := (↑x_2.1 : Int);
                                  let q28 : Bool := decide (q27 < q24);
                                  let q29 : List (Int × (Int × Int × Int × Unit) × Int × Unit) := (q17, q22.getD q27.toNat q7, q6) :: ([] : List tLEv.den);
                                  let q30 : Int := q27 + q8;
                                  x_2.1 ≤ q20 ∧ x_2.2 = q16 ++ List.map (Sp.mkEv q17) (List.take x_2.1 q19) → dFact (Ty.int IntKind.i64) q27 ∧ dFact ((Ty.int IntKind.i64).prod (((Ty.int IntKind.i64).prod ((Ty.int IntKind.i64).prod ((Ty.int IntKind.i64).prod Ty.unit))).prod ((Ty.int IntKind.i64).prod Ty.unit))).slice x_2.2 ∧ True → q3 ∧ (q28 = true → ((inN q27 q23 ∧ q1) ∧ True ∧ True) ∧ ((True ∧ q5) ∧ (↑(x_2.2.length + q29.length) : Int) ≤ maxNew ∧ True ∧ True) ∧ ((inK IntKind.i64 q30 ∧ True ∧ True) ∧ True) ∧ ∃ (y : Nat × List Sp.LEv), (y.1 ≤ q20 ∧ y.2 = q16 ++ List.map (Sp.mkEv q17) (List.take y.1 q19)) ∧ q20 - y.1 < q20 - x_2.1 ∧ q30 = (↑y.1 : Int) ∧ x_2.2 ++ q29 = y.2 ∧ q25) ∧ (q28 = false → ((inK IntKind.i64 q26 ∧ True ∧ True) ∧ True) ∧ ∃ (y : Nat × List Sp.LEv), (y.1 ≤ q10 ∧ y.2 = Sp.evs q0 (List.take y.1 x.1.1)) ∧ q10 - y.1 < q10 - x_1.1 ∧ q26 = (↑y.1 : Int) ∧ x_2.2 = y.2 ∧ q15)) ∧
                        (q18 = false → q2 ∧ x_1.2 = q9)) := by kernel_rfl
theorem vc33 : funI C33 (stpP C33) S33 L33 Try.f33 = (
let q0 : Int := (0 : Int);
let q1 : Prop := True ∧ True ∧ True;
let q2 : Prop := q1 ∧ True;
let q3 : Prop := (True ∧ True) ∧ True;
let q4 : Prop := True ∧ q1;
let q5 : Int × Unit := (q0, ());
let q6 : Int × Int × Int × Unit := (q0, q0, q5);
let q7 : Int := (1 : Int);
∀ (x : (List (List (Int × Int × Int × Unit)) × Unit) × Unit),
  let q8 : List (Int × (Int × Int × Int × Unit) × Int × Unit) := Sp.evs q0 x.1.1;
  let q9 : Nat := x.1.1.length;
  let q10 : Prop := x.1 = x.1;
  let q11 : Prop := q10 ∧ True;
  q8.length ≤ (1000 : Nat) →
    dFact (((Ty.int IntKind.i64).prod ((Ty.int IntKind.i64).prod ((Ty.int IntKind.i64).prod Ty.unit))).slice.slice.prod Ty.unit) x.1 ∧ True →
      q2 ∧
        ((True ∧ True) ∧ True ∧ True) ∧
          q3 ∧
            (∃ (x_1 : Nat × List Sp.LEv), (x_1.1 ≤ q9 ∧ x_1.2 = Sp.evs q0 (List.take x_1.1 x.1.1)) ∧ q0 = (↑x_1.1 : Int) ∧ ([] : List tLEv.den) = x_1.2 ∧ q11) ∧
              ∀ (x_1 : Nat × List Sp.LEv),
                let q12 : List (Int × (Int × Int × Int × Unit) × Int × Unit) := Sp.evs q0 (List.take x_1.1 x.1.1);
                let q13 : Int := (↑x_1.1 : Int);
                let q14 : Bool := decide (q13 < (↑q9 : Int));
                let q15 : List (Int × Int × Int × Unit) := x.1.1.getD x_1.1 (([] : List tLOp.den));
                let q16 : Nat := q15.length;
                let q17 : Prop := q10 ∧ q13 = q13 ∧ True;
                let q18 : Prop := inN q13 q9;
                let q19 : List (Int × Int × Int × Unit) := x.1.1.getD q13.toNat (([] : List tLOp.den));
                let q20 : Nat := q19.length;
                let q21 : Int := q13 + q7;
                x_1.1 ≤ q9 ∧ x_1.2 = q12 →
                  dFact (Ty.int IntKind.i64) q13 ∧ dFact ((Ty.int IntKind.i64).prod (((Ty.int IntKind.i64).prod ((Ty.int IntKind.i64).prod ((Ty.int IntKind.i64).prod Ty.unit))).prod ((Ty.int IntKind.i64).prod Ty.unit))).slice x_1.2 ∧ True →
                    ((True ∧ True ∧ q4) ∧ True) ∧
                      (q14 = true →
                          q3 ∧
                            (∃ (x : Nat × List Sp.LEv), (x.1 ≤ q16 ∧ x.2 = q12 ++ List.map (Sp.mkEv q13) (List.take x.1 q15)) ∧ q0 = (↑x.1 : Int) ∧ x_1.2 = x.2 ∧ q17) ∧
                              ∀ (x_2 : Nat × List Sp.LEv),
                                let q22 : Int := (↑x_2.1 : Int);
                                let q23 : Bool := decide (q22 < (↑q20 : Int));
                                let q24 : List (Int × (Int × Int × Int × Unit) × Int × Unit) := (q13, q19.getD q22.toNat q6, q5) :: ([] : List tLEv.den);
                                let q25 : Int := q22 + q7;
                                x_2.1 ≤ q16 ∧ x_2.2 = q12 ++ List.map (Sp.mkEv q13) (List.take x_2.1 q15) → dFact (Ty.int IntKind.i64) q22 ∧ dFact ((Ty.int IntKind.i64).prod (((Ty.int IntKind.i64).prod ((Ty.int IntKind.i64).prod ((Ty.int IntKind.i64).prod Ty.unit))).prod ((Ty.int IntKind.i64).prod Ty.unit))).slice x_2.2 ∧ True → ((True ∧ True ∧ True ∧ True ∧ q18 ∧ q4) ∧ True) ∧ (q23 = true → ((True ∧ True ∧ True ∧ True ∧ True ∧ q18 ∧ True ∧ True ∧ inN q22 q20 ∧ q4) ∧ (↑(x_2.2.length + q24.length) : Int) ≤ maxNew ∧ True ∧ True) ∧ ((True ∧ inK IntKind.i64 q25 ∧ True ∧ True) ∧ True) ∧ ∃ (y : Nat × List Sp.LEv), (y.1 ≤ q16 ∧ y.2 = q12 ++ List.map (Sp.mkEv q13) (List.take y.1 q15)) ∧ q16 - y.1 < q16 - x_2.1 ∧ q25 = (↑y.1 : Int) ∧ x_2.2 ++ q24 = y.2 ∧ q17) ∧ (q23 = false → ((True ∧ inK IntKind.i64 q21 ∧ True ∧ True) ∧ True) ∧ ∃ (y : Nat × List Sp.LEv), (y.1 ≤ q9 ∧ y.2 = Sp.evs q0 (List.take y.1 x.1.1)) ∧ q9 - y.1 < q9 - x_1.1 ∧ q21 = (↑y.1 : Int) ∧ x_2.2 = y.2 ∧ q11)) ∧
                        (q14 = false → q2 ∧ x_1.2 = q8)) := by kernel_rfl
theorem vc34 : funI C34 (stpP C34) S34 L34 Try.f34 = (
let q0 : Prop := (True ∧ True) ∧ True;
let q1 : Int := (0 : Int);
let q2 : Prop := True ∧ True ∧ True;
let q3 : Prop := True ∧ q2;
let q4 : Int × Unit := (q1, ());
let q5 : Int := (1 : Int);
∀ (x : List (Int × (Int × Int × Int × Unit) × Int × Unit) × Int × Unit),
  let q6 : Nat := x.1.length;
  let q7 : Prop := x.1 = x.1 ∧ x.2.1 = x.2.1 ∧ True;
  q6 ≤ (1000 : Nat) →
    dFact ((Ty.int IntKind.i64).prod (((Ty.int IntKind.i64).prod ((Ty.int IntKind.i64).prod ((Ty.int IntKind.i64).prod Ty.unit))).prod ((Ty.int IntKind.i64).prod Ty.unit))).slice x.1 ∧ dFact (Ty.int IntKind.i64) x.2.1 ∧ True →
      q0 ∧
        ((True ∧ True) ∧ True ∧ True) ∧
          q0 ∧
            (∃ (x_1 : Nat × List Int),
                (x_1.1 ≤ q6 ∧
                    x_1.2 =
                      Sp.sel
                        (fun (i : Nat) =>
                          let q8 : Int × Int × Int × Unit := (Sp.ev x.1 (↑i : Int)).2.1;
                          Sp.writes q8 && decide (q8.2.1 = x.2.1))
                        x_1.1) ∧
                  q1 = (↑x_1.1 : Int) ∧ ([] : List tI.den) = x_1.2 ∧ q7) ∧
              ∀ (x_1 : Nat × List Int),
                let q9 : Int := (↑x_1.1 : Int);
                let q10 : Bool := decide (q9 < (↑q6 : Int));
                let q11 : Prop := inN q9 q6;
                let q12 : Int × Int × Int × Unit := (x.1.getD q9.toNat (q1, (q1, q1, q4), q4)).2.1;
                let q13 : Bool := Sp.writes q12;
                let q14 : Prop := (true && bif q13 then true else false) = true;
                let q15 : Prop := q14 → True;
                let q16 : Bool := bif q13 then q12.2.1 == x.2.1 else false;
                let q17 : List Int := q9 :: ([] : List tI.den);
                let q18 : Int := q9 + q5;
                let q19 : Prop := (True ∧ inK IntKind.i64 q18 ∧ True ∧ True) ∧ True;
                x_1.1 ≤ q6 ∧
                    x_1.2 =
                      Sp.sel
                        (fun (i : Nat) =>
                          let q20 : Int × Int × Int × Unit := (Sp.ev x.1 (↑i : Int)).2.1;
                          Sp.writes q20 && decide (q20.2.1 = x.2.1))
                        x_1.1 →
                  dFact (Ty.int IntKind.i64) q9 ∧ dFact (Ty.int IntKind.i64).slice x_1.2 ∧ True →
                    ((True ∧ q3) ∧ True) ∧
                      (q10 = true →
                          ((True ∧ True ∧ q11 ∧ True ∧ True ∧ True ∧ True ∧ q15 ∧ q15 ∧ (q14 → q11) ∧ q15 ∧ q15 ∧ q15 ∧ q15 ∧ q15 ∧ True ∧ True) ∧ True) ∧
                            (q16 = true →
                                (q3 ∧ (↑(x_1.2.length + q17.length) : Int) ≤ maxNew ∧ True ∧ True) ∧
                                  q19 ∧
                                    ∃ (y : Nat × List Int),
                                      (y.1 ≤ q6 ∧
                                          y.2 =
                                            Sp.sel
                                              (fun (i : Nat) =>
                                                let q21 : Int × Int × Int × Unit := (Sp.ev x.1 (↑i : Int)).2.1;
                                                Sp.writes q21 && decide (q21.2.1 = x.2.1))
                                              y.1) ∧
                                        q6 - y.1 < q6 - x_1.1 ∧ q18 = (↑y.1 : Int) ∧ x_1.2 ++ q17 = y.2 ∧ q7) ∧
                              (q16 = false →
                                q19 ∧
                                  ∃ (y : Nat × List Int),
                                    (y.1 ≤ q6 ∧
                                        y.2 =
                                          Sp.sel
                                            (fun (i : Nat) =>
                                              let q22 : Int × Int × Int × Unit := (Sp.ev x.1 (↑i : Int)).2.1;
                                              Sp.writes q22 && decide (q22.2.1 = x.2.1))
                                            y.1) ∧
                                      q6 - y.1 < q6 - x_1.1 ∧ q18 = (↑y.1 : Int) ∧ x_1.2 = y.2 ∧ q7)) ∧
                        (q10 = false → (q2 ∧ True) ∧ x_1.2 = Sp.wr x.1 x.2.1)) := by kernel_rfl
theorem vc36 : funI C36 (stpP C36) S36 L36 Try.f36 = (
let q0 : Prop := (True ∧ True) ∧ True;
let q1 : Int := (4 : Int);
let q2 : Int := (0 : Int);
let q3 : Prop := True ∧ True ∧ True;
let q4 : Prop := True ∧ q3;
let q5 : Prop := True ∧ q4;
let q6 : Int × Unit := (q2, ());
let q7 : Int := (1 : Int);
∀ (x : List (Int × (Int × Int × Int × Unit) × Int × Unit) × Unit),
  let q8 : Nat := x.1.length;
  let q9 : Prop := x.1 = x.1 ∧ True;
  q8 ≤ (1000 : Nat) →
    dFact ((Ty.int IntKind.i64).prod (((Ty.int IntKind.i64).prod ((Ty.int IntKind.i64).prod ((Ty.int IntKind.i64).prod Ty.unit))).prod ((Ty.int IntKind.i64).prod Ty.unit))).slice x.1 ∧ True →
      q0 ∧
        ((True ∧ True) ∧ True ∧ True) ∧
          q0 ∧
            (∃ (x_1 : Nat × List Int), (x_1.1 ≤ q8 ∧ x_1.2 = Sp.sel (fun (i : Nat) => decide ((Sp.ev x.1 (↑i : Int)).2.1.1 = q1)) x_1.1) ∧ q2 = (↑x_1.1 : Int) ∧ ([] : List tI.den) = x_1.2 ∧ q9) ∧
              ∀ (x_1 : Nat × List Int),
                let q10 : Int := (↑x_1.1 : Int);
                let q11 : Bool := decide (q10 < (↑q8 : Int));
                let q12 : Bool := (x.1.getD q10.toNat (q2, (q2, q2, q6), q6)).2.1.1 == q1;
                let q13 : List Int := q10 :: ([] : List tI.den);
                let q14 : Int := q10 + q7;
                let q15 : Prop := (True ∧ inK IntKind.i64 q14 ∧ True ∧ True) ∧ True;
                x_1.1 ≤ q8 ∧ x_1.2 = Sp.sel (fun (i : Nat) => decide ((Sp.ev x.1 (↑i : Int)).2.1.1 = q1)) x_1.1 → dFact (Ty.int IntKind.i64) q10 ∧ dFact (Ty.int IntKind.i64).slice x_1.2 ∧ True → (q5 ∧ True) ∧ (q11 = true → ((True ∧ True ∧ inN q10 q8 ∧ q5) ∧ True) ∧ (q12 = true → (q4 ∧ (↑(x_1.2.length + q13.length) : Int) ≤ maxNew ∧ True ∧ True) ∧ q15 ∧ ∃ (y : Nat × List Int), (y.1 ≤ q8 ∧ y.2 = Sp.sel (fun (i : Nat) => decide ((Sp.ev x.1 (↑i : Int)).2.1.1 = q1)) y.1) ∧ q8 - y.1 < q8 - x_1.1 ∧ q14 = (↑y.1 : Int) ∧ x_1.2 ++ q13 = y.2 ∧ q9) ∧ (q12 = false → q15 ∧ ∃ (y : Nat × List Int), (y.1 ≤ q8 ∧ y.2 = Sp.sel (fun (i : Nat) => decide ((Sp.ev x.1 (↑i : Int)).2.1.1 = q1)) y.1) ∧ q8 - y.1 < q8 - x_1.1 ∧ q14 = (↑y.1 : Int) ∧ x_1.2 = y.2 ∧ q9)) ∧ (q11 = false → (q3 ∧ True) ∧ x_1.2 = Sp.fen x.1)) := by kernel_rfl
theorem vc35 : funI C35 (stpP C35) S35 L35 Try.f35 = (
let q0 : Int := (0 : Int);
let q1 : Nat := (0 : Nat);
let q2 : Prop := True ∧ True ∧ True;
let q3 : Int := (1 : Int);
∀ (x : List Int × List Int × Int × Unit),
  let q4 : Nat := x.1.length;
  let q5 : List Int := Sp.shuffled x.1 x.2.1 x.2.2.1;
  let q6 : Prop := x.1 = x.1 ∧ x.2.1 = x.2.1 ∧ True;
  q4 ≤ (1000 : Nat) ∧ q0 ≤ x.2.2.1 ∧ x.2.2.1 ≤ (1000 : (AK.val tI).den) →
    dFact (Ty.int IntKind.i64).slice x.1 ∧ dFact (Ty.int IntKind.u8).slice x.2.1 ∧ dFact (Ty.int IntKind.i64) x.2.2.1 ∧ True →
      ((True ∧ True) ∧ True) ∧
        ((True ∧ True) ∧ True ∧ True) ∧
          ((True ∧ True ∧ (↑(q1 + q4) : Int) ≤ maxNew ∧ True) ∧ True ∧ True) ∧
            (∃ (x_1 : List Int × List Int × Int),
                let q7 : Nat := x_1.2.1.length;
                (x_1.1.length + q7 = q4 ∧ q0 ≤ x_1.2.2 ∧ x_1.2.2 + (↑q7 : Int) = x.2.2.1 + (↑q4 : Int) ∧ x_1.1 ++ Sp.shuf q7 x_1.2.1 x.2.1 x_1.2.2 = q5) ∧ ([] : List tI.den) = x_1.1 ∧ x.1 = x_1.2.1 ∧ x.2.2.1 = x_1.2.2 ∧ q6) ∧
              ∀ (x_1 : List Int × List Int × Int),
                let q8 : Nat := x_1.2.1.length;
                let q9 : Nat := x_1.2.1.length;
                let q10 : Int := (↑q9 : Int);
                let q11 : Bool := decide (q10 > q0);
                let q12 : Int := x_1.2.2 + q3;
                let q13 : Int := (Sp.byteAt x.2.1 x_1.2.2).tmod q10;
                let q14 : List Int := x_1.2.1.getD q13.toNat q0 :: ([] : List tI.den);
                let q15 : List Int := win q0 q13 x_1.2.1;
                let q16 : Nat := q15.length;
                let q17 : Int := q13 + q3;
                let q18 : List Int := win q17 q10 x_1.2.1;
                x_1.1.length + q8 = q4 ∧ q0 ≤ x_1.2.2 ∧ x_1.2.2 + (↑q8 : Int) = x.2.2.1 + (↑q4 : Int) ∧ x_1.1 ++ Sp.shuf q8 x_1.2.1 x.2.1 x_1.2.2 = q5 →
                  dFact (Ty.int IntKind.i64).slice x_1.1 ∧ dFact (Ty.int IntKind.i64).slice x_1.2.1 ∧ dFact (Ty.int IntKind.i64) x_1.2.2 ∧ True →
                    ((True ∧ q2) ∧ True) ∧
                      (q11 = true →
                          ((True ∧ True ∧ (0 : (AK.val tI).den) ≤ x_1.2.2 ∧ True ∧ True ∧ q10 ≠ q0 ∧ True ∧ True) ∧ True) ∧
                            ((True ∧ inK IntKind.i64 q12 ∧ True ∧ True) ∧ True) ∧
                              ((True ∧ True ∧ True ∧ inN q13 q9 ∧ q2) ∧ (↑(x_1.1.length + q14.length) : Int) ≤ maxNew ∧ True ∧ True) ∧
                                ((True ∧ True ∧ True ∧ winI q0 q13 q9 ∧ (↑(q1 + q16) : Int) ≤ maxNew ∧ True ∧ True ∧ inK IntKind.i64 q17 ∧ winI q17 q10 q9 ∧ (↑(q16 + q18.length) : Int) ≤ maxNew ∧ True) ∧ True ∧ True) ∧
                                  ∃ (y : List Int × List Int × Int),
                                    let q19 : Nat := y.2.1.length;
                                    (y.1.length + q19 = q4 ∧ q0 ≤ y.2.2 ∧ y.2.2 + (↑q19 : Int) = x.2.2.1 + (↑q4 : Int) ∧ y.1 ++ Sp.shuf q19 y.2.1 x.2.1 y.2.2 = q5) ∧ q19 < q8 ∧ x_1.1 ++ q14 = y.1 ∧ q15 ++ q18 = y.2.1 ∧ q12 = y.2.2 ∧ q6) ∧
                        (q11 = false → (q2 ∧ True) ∧ x_1.1 = q5)) := by kernel_rfl
theorem vc53 : funI C53 (stpP C53) S53 L53 Try.f53 = (
let q0 : Prop := True ∧ True ∧ True;
let q1 : Int := (0 : Int);
let q2 : Int × Unit := (q1, ());
let q3 : Prop := True ∧ q0;
∀ (x : (List (Int × (Int × Int × Int × Unit) × Int × Unit) × List Int × List (List Int) × List Int × Unit) × Int × Unit),
  let q4 : Prop := inN x.2.1 x.1.1.length;
  let q5 : Prop := inN x.2.1 x.1.2.1.length;
  let q6 : Nat := x.1.2.2.1.length;
  let q7 : Int := (x.1.1.getD x.2.1.toNat (q1, (q1, q1, q2), q2)).2.1.2.1;
  let q8 : List Int := x.1.2.2.1.getD q7.toNat (([] : List tI.den));
  q4 ∧ q5 ∧ inN (Sp.ev x.1.1 x.2.1).2.1.2.1 q6 → dFact (((Ty.int IntKind.i64).prod (((Ty.int IntKind.i64).prod ((Ty.int IntKind.i64).prod ((Ty.int IntKind.i64).prod Ty.unit))).prod ((Ty.int IntKind.i64).prod Ty.unit))).slice.prod ((Ty.int IntKind.i64).slice.prod ((Ty.int IntKind.i64).slice.slice.prod ((Ty.int IntKind.i64).slice.prod Ty.unit)))) x.1 ∧ dFact (Ty.int IntKind.i64) x.2.1 ∧ True → (q0 ∧ True) ∧ ((True ∧ True ∧ True ∧ True ∧ True ∧ q4 ∧ True ∧ True ∧ True ∧ inN q7 q6 ∧ q0) ∧ True) ∧ ((True ∧ True ∧ q3) ∧ True ∧ True) ∧ ((True ∧ True ∧ True ∧ True ∧ q5 ∧ q3) ∧ True ∧ True) ∧ ((True ∧ True) ∧ True ∧ True) ∧ (Sp.idx q8 x.2.1, Sp.idx q8 (x.1.2.1.getD x.2.1.toNat q1), ()) = Sp.plc x.1 x.2.1) := by kernel_rfl
theorem vc51 : funP C51 (stpP C51) S51 L51 Try.f51 = (
let q0 : Nat := (6 : Nat);
let q1 : Prop := (True ∧ True) ∧ True;
let q2 : Prop := (True ∧ True ∧ True) ∧ True;
let q3 : List Bool := List.replicate q0 false;
let q4 : Int := (1 : Int);
∀ (x : List (List Bool)),
  True →
    dFact (Ty.arr q0 (Ty.arr q0 Ty.bool)) x →
      q1 ∧
        (∃ (x_1 : Nat × Sp.Rel), (x_1.1 ≤ q0 ∧ x_1.2 = Sp.closeN x x_1.1) ∧ (0 : Int) = (↑x_1.1 : Int) ∧ x = x_1.2 ∧ True) ∧
          ∀ (x_1 : Nat × Sp.Rel),
            let q5 : Int := (↑x_1.1 : Int);
            let q6 : Bool := decide (q5 < (6 : Int));
            let q7 : Prop := q5 = q5;
            let q8 : Prop := q7 ∧ q7 ∧ True;
            let q9 : Prop := inN q5 q0;
            let q10 : Nat := q5.toNat;
            let q11 : Int := q5 + q4;
            x_1.1 ≤ q0 ∧ x_1.2 = Sp.closeN x x_1.1 →
              dFact (Ty.int IntKind.i64) q5 ∧ dFact (Ty.arr q0 (Ty.arr q0 Ty.bool)) x_1.2 ∧ True →
                q1 ∧
                  (q6 = true →
                      q2 ∧
                        q1 ∧
                          (∃ (x_2 : Nat × Sp.Rel), (x_2.1 ≤ q0 ∧ x_2.2 = Sp.rowA x_1.1 (Sp.closeN x x_1.1) x_2.1) ∧ (0 : Int) = (↑x_2.1 : Int) ∧ x_1.2 = x_2.2 ∧ q8) ∧
                            ∀ (x_2 : Nat × Sp.Rel),
                              let q12 : List (List Bool) := Sp.rowA x_1.1 (Sp.closeN x x_1.1) x_2.1;
                              let q13 : Int := (↑x_2.1 : Int);
                              let q14 : Bool := decide (q13 < (6 : Int));
                              let q15 : Prop := q13 = q13;
                              let q16 : Prop := q7 ∧ q7 ∧ q15 ∧ q15 ∧ True;
                              let q17 : Prop := inN q13 q0;
                              let q18 : Nat := q13.toNat;
                              let q19 : Int := q13 + q4;
                              x_2.1 ≤ q0 ∧ x_2.2 = q12 →
                                dFact (Ty.int IntKind.i64) q13 ∧ dFact (Ty.arr q0 (Ty.arr q0 Ty.bool)) x_2.2 ∧ True →
                                  q1 ∧
                                    (q14 = true →
                                        q2 ∧
                                          q1 ∧
                                            (∃ (x : Nat × Sp.Rel), (x.1 ≤ q0 ∧ x.2 = Sp.rowB x_1.1 x_2.1 q12 x.1) ∧ (0 : Int) = (↑x.1 : Int) ∧ x_2.2 = x.2 ∧ q16) ∧
                                              ∀ (x_3 : Nat × Sp.Rel),
                                                let q20 : Int := (↑x_3.1 : Int);
                                                let q21 : Bool := decide (q20 < (6 : Int));
                                                let q22 : Prop := inN q20 q0;
                                                let q23 : List Bool := List.getD x_3.2 q18 q3;
                                                let q24 : Nat := q20.toNat;
                                                let q25 : Bool := q23.getD q24 false;
                                                let q26 : Bool := true && bif q25 then false else true;
                                                let q27 : Prop := q26 = true;
                                                let q28 : Prop := q27 → True;
                                                let q29 : Bool := q23.getD q10 false;
                                                let q30 : Prop := (q26 && bif q29 then true else false) = true;
                                                let q31 : Prop := q30 → True;
                                                let q32 : Int := q20 + q4;
                                                x_3.1 ≤ q0 ∧ x_3.2 = Sp.rowB x_1.1 x_2.1 q12 x_3.1 → dFact (Ty.int IntKind.i64) q20 ∧ dFact (Ty.arr q0 (Ty.arr q0 Ty.bool)) x_3.2 ∧ True → q1 ∧ (q21 = true → q2 ∧ ((True ∧ True ∧ True ∧ True ∧ True ∧ True ∧ True ∧ q17 ∧ q22 ∧ True ∧ True ∧ q28 ∧ q28 ∧ q28 ∧ q28 ∧ (q27 → q17) ∧ (q27 → q9) ∧ q28 ∧ q28 ∧ q31 ∧ q31 ∧ q31 ∧ q31 ∧ (q30 → q9) ∧ (q30 → q22) ∧ q31 ∧ q28 ∧ True ∧ True ∧ q17 ∧ q22 ∧ True) ∧ True ∧ True) ∧ ((inK IntKind.i64 q32 ∧ True ∧ True) ∧ True) ∧ ∃ (y : Nat × Sp.Rel), (y.1 ≤ q0 ∧ y.2 = Sp.rowB x_1.1 x_2.1 q12 y.1) ∧ q0 - y.1 < q0 - x_3.1 ∧ q32 = (↑y.1 : Int) ∧ List.set x_3.2 q18 (q23.set q24 (bif q25 then true else bif q29 then List.getD (List.getD x_3.2 q10 q3) q24 false else false)) = y.2 ∧ q16) ∧ (q21 = false → ((inK IntKind.i64 q19 ∧ True ∧ True) ∧ True) ∧ ∃ (y : Nat × Sp.Rel), (y.1 ≤ q0 ∧ y.2 = Sp.rowA x_1.1 (Sp.closeN x x_1.1) y.1) ∧ q0 - y.1 < q0 - x_2.1 ∧ q19 = (↑y.1 : Int) ∧ x_3.2 = y.2 ∧ q8)) ∧
                                      (q14 = false → ((inK IntKind.i64 q11 ∧ True ∧ True) ∧ True) ∧ ∃ (y : Nat × Sp.Rel), (y.1 ≤ q0 ∧ y.2 = Sp.closeN x y.1) ∧ q0 - y.1 < q0 - x_1.1 ∧ q11 = (↑y.1 : Int) ∧ x_2.2 = y.2 ∧ True)) ∧
                    (q6 = false → x_1.2 = Sp.close x)) := by kernel_rfl
theorem vc52 : funI C52 (stpP C52) S52 L52 Try.f52 = (
let q0 : Nat := (6 : Nat);
let q1 : Prop := (True ∧ True) ∧ True;
let q2 : Int := (1 : Int);
∀ (x : List (List Bool) × Unit),
  let q3 : Prop := x.1 = x.1 ∧ True;
  True →
    dFact (Ty.arr q0 (Ty.arr q0 Ty.bool)) x.1 ∧ True →
      q1 ∧
        q1 ∧
          (∃ (x_1 : Nat), (x_1 ≤ q0 ∧ ∀ (a : Nat), a < x_1 → Sp.get2 x.1 a a = false) ∧ (0 : Int) = (↑x_1 : Int) ∧ q3) ∧
            ∀ (x_1 : Nat),
              let q4 : Bool := decide ((↑x_1 : Int) < (6 : Int));
              let q5 : Prop := inN (↑x_1 : Int) q0;
              let q6 : Nat := (↑x_1 : Int).toNat;
              let q7 : Bool := List.getD (x.1.getD q6 (List.replicate q0 false)) q6 false;
              let q8 : Int := (↑x_1 : Int) + q2;
              (x_1 ≤ q0 ∧ ∀ (a : Nat), a < x_1 → Sp.get2 x.1 a a = false) → dFact (Ty.int IntKind.i64) (↑x_1 : Int) ∧ True → q1 ∧ (q4 = true → ((True ∧ True ∧ True) ∧ True) ∧ ((True ∧ True ∧ True ∧ True ∧ q5 ∧ q5 ∧ True ∧ True) ∧ True) ∧ (q7 = true → q1 ∧ true = Sp.round x.1) ∧ (q7 = false → ((inK IntKind.i64 q8 ∧ True ∧ True) ∧ True) ∧ ∃ (y : Nat), (y ≤ q0 ∧ ∀ (a : Nat), a < y → Sp.get2 x.1 a a = false) ∧ q0 - y < q0 - x_1 ∧ q8 = (↑y : Int) ∧ q3)) ∧ (q4 = false → q1 ∧ false = Sp.round x.1)) := by kernel_rfl
theorem vc50 : funI C50 (stpP C50) S50 L50 Try.f50 = (
let q0 : Nat := (6 : Nat);
let q1 : Prop := True ∧ True ∧ True;
let q2 : Prop := q1 ∧ True;
let q3 : Prop := (True ∧ True) ∧ True;
let q4 : Prop := True ∧ q1;
let q5 : Prop := True ∧ q4;
let q6 : Prop := q5 ∧ True;
let q7 : Int := (0 : Int);
let q8 : List Bool := List.replicate q0 false;
let q9 : List (List Bool) := List.replicate q0 q8;
let q10 : Prop := q9 = q9;
let q11 : Int := (1 : Int);
let q12 : Int × Unit := (q7, ());
let q13 : Int × (Int × Int × Int × Unit) × Int × Unit := (q7, (q7, q7, q12), q12);
let q14 : Nat := (1 : Nat);
∀ (x : (List (Int × (Int × Int × Int × Unit) × Int × Unit) × List Int × List (List Int) × List Int × Unit) × Unit),
  let q15 : Nat := x.1.1.length;
  let q16 : List Int := x.1.2.2.2.1;
  let q17 : Prop := x.1 = x.1;
  let q18 : Prop := x.1.1 = x.1.1;
  let q19 : Int := (↑q15 : Int);
  let q20 : Prop := q19 = q19;
  let q21 : Prop := q17 ∧ q10 ∧ q18 ∧ q20 ∧ True;
  let q22 : Nat := q16.length;
  let q23 : Prop := q16 = q16;
  let q24 : Int := (↑q22 : Int);
  let q25 : Prop := q24 = q24;
  let q26 : Prop := q17 ∧ q10 ∧ q23 ∧ q25 ∧ True;
  (q15 ≤ q0 ∧ ∀ (n : Int), n ∈ q16 → inN n q0) →
    dFact (((Ty.int IntKind.i64).prod (((Ty.int IntKind.i64).prod ((Ty.int IntKind.i64).prod ((Ty.int IntKind.i64).prod Ty.unit))).prod ((Ty.int IntKind.i64).prod Ty.unit))).slice.prod ((Ty.int IntKind.i64).slice.prod ((Ty.int IntKind.i64).slice.slice.prod ((Ty.int IntKind.i64).slice.prod Ty.unit)))) x.1 ∧ True →
      q2 ∧
        q3 ∧
          q6 ∧
            (∃ (x_1 : Nat), x_1 ≤ q15 ∧ q7 = (↑x_1 : Int) ∧ q9 = Sp.mat (Sp.oA x.1.1 x_1) ∧ q21) ∧
              ∀ (x_1 : Nat),
                let q27 : List (List Bool) := Sp.mat (Sp.oA x.1.1 x_1);
                let q28 : Bool := decide ((↑x_1 : Int) < q19);
                let q29 : Int := (↑x_1 : Int) + q11;
                let q30 : Prop := inK IntKind.i64 q29 ∧ True ∧ True;
                let q31 : Prop := (↑x_1 : Int) = (↑x_1 : Int);
                let q32 : Prop := q17 ∧ q10 ∧ q18 ∧ q20 ∧ q31 ∧ q31 ∧ True;
                let q33 : Nat := (↑x_1 : Int).toNat;
                x_1 ≤ q15 →
                  dFact (Ty.int IntKind.i64) (↑x_1 : Int) ∧ dFact (Ty.arr q0 (Ty.arr q0 Ty.bool)) q27 ∧ True →
                    q3 ∧
                      (q28 = true →
                          q2 ∧
                            ((True ∧ q30) ∧ True) ∧
                              (∃ (x_2 : Nat), (x_1 < x_2 ∧ x_2 ≤ q15) ∧ q29 = (↑x_2 : Int) ∧ q27 = Sp.mat (Sp.oB x.1.1 x_1 x_2) ∧ q32) ∧
                                ∀ (x_2 : Nat),
                                  let q34 : List (List Bool) := Sp.mat (Sp.oB x.1.1 x_1 x_2);
                                  let q35 : Bool := decide ((↑x_2 : Int) < q19);
                                  let q36 : Int := (↑x_2 : Int) + q11;
                                  let q37 : Nat := (↑x_2 : Int).toNat;
                                  x_1 < x_2 ∧ x_2 ≤ q15 → dFact (Ty.int IntKind.i64) (↑x_2 : Int) ∧ dFact (Ty.arr q0 (Ty.arr q0 Ty.bool)) q34 ∧ True → ((True ∧ q5) ∧ True) ∧ (q35 = true → ((True ∧ True ∧ True ∧ True ∧ True ∧ inN (↑x_1 : Int) q15 ∧ True ∧ True ∧ True ∧ True ∧ True ∧ inN (↑x_2 : Int) q15 ∧ True ∧ True ∧ True ∧ inN (↑x_1 : Int) q0 ∧ inN (↑x_2 : Int) q0 ∧ True) ∧ True ∧ True) ∧ ((True ∧ inK IntKind.i64 q36 ∧ True ∧ True) ∧ True) ∧ ∃ (y : Nat), (x_1 < y ∧ y ≤ q15) ∧ q15 - y < q15 - x_2 ∧ q36 = (↑y : Int) ∧ q34.set q33 (List.set (q34.getD q33 q8) q37 ((x.1.1.getD q33 q13).1 == (x.1.1.getD q37 q13).1)) = Sp.mat (Sp.oB x.1.1 x_1 y) ∧ q32) ∧ (q35 = false → (q30 ∧ True) ∧ ∃ (y : Nat), y ≤ q15 ∧ q15 - y < q15 - x_1 ∧ q29 = (↑y : Int) ∧ q34 = Sp.mat (Sp.oA x.1.1 y) ∧ q21)) ∧
                        (q28 = false →
                          q6 ∧
                            (∃ (x_2 : Nat), x_2 ≤ q22 ∧ q7 = (↑x_2 : Int) ∧ q27 = Sp.mat (Sp.oC x.1.1 q16 x_2) ∧ q26) ∧
                              ∀ (x_2 : Nat),
                                let q38 : List (List Bool) := Sp.mat (Sp.oC x.1.1 q16 x_2);
                                let q39 : Bool := decide ((↑x_2 : Int) < q24);
                                let q40 : Int := (↑x_2 : Int) + q11;
                                let q41 : Prop := inK IntKind.i64 q40;
                                let q42 : Prop := (↑x_2 : Int) = (↑x_2 : Int);
                                let q43 : Int := q16.getD (↑x_2 : Int).toNat q7;
                                let q44 : List Int := win q40 q24 q16;
                                let q45 : Nat := q44.length;
                                let q46 : Int := (↑q45 : Int);
                                let q47 : Prop := q17 ∧ q10 ∧ q23 ∧ q25 ∧ q42 ∧ q42 ∧ q43 = q43 ∧ q44 = q44 ∧ q46 = q46 ∧ True;
                                let q48 : Nat := q43.toNat;
                                x_2 ≤ q22 →
                                  dFact (Ty.int IntKind.i64) (↑x_2 : Int) ∧ dFact (Ty.arr q0 (Ty.arr q0 Ty.bool)) q38 ∧ True →
                                    q3 ∧
                                      (q39 = true →
                                          ((True ∧ inN (↑x_2 : Int) q22 ∧ q4) ∧ True) ∧
                                            ((True ∧ True ∧ True ∧ q41 ∧ winI q40 q24 q22 ∧ q1) ∧ True) ∧
                                              (∃ (x_3 : Nat), x_2 + q14 + x_3 ≤ q22 ∧ q7 = (↑x_3 : Int) ∧ q38 = Sp.mat (Sp.oD x.1.1 q16 x_2 x_3) ∧ q47) ∧
                                                ∀ (x_3 : Nat),
                                                  let q49 : List (List Bool) := Sp.mat (Sp.oD x.1.1 q16 x_2 x_3);
                                                  let q50 : Bool := decide ((↑x_3 : Int) < q46);
                                                  let q51 : Int := q44.getD (↑x_3 : Int).toNat q7;
                                                  let q52 : Int := (↑x_3 : Int) + q11;
                                                  x_2 + q14 + x_3 ≤ q22 → dFact (Ty.int IntKind.i64) (↑x_3 : Int) ∧ dFact (Ty.arr q0 (Ty.arr q0 Ty.bool)) q49 ∧ True → q3 ∧ (q50 = true → ((inN (↑x_3 : Int) q45 ∧ q1) ∧ True) ∧ ((True ∧ True ∧ inN q43 q0 ∧ inN q51 q0 ∧ True) ∧ True ∧ True) ∧ ((inK IntKind.i64 q52 ∧ True ∧ True) ∧ True) ∧ ∃ (y : Nat), x_2 + q14 + y ≤ q22 ∧ q22 - y < q22 - x_3 ∧ q52 = (↑y : Int) ∧ q49.set q48 (List.set (q49.getD q48 q8) q51.toNat true) = Sp.mat (Sp.oD x.1.1 q16 x_2 y) ∧ q47) ∧ (q50 = false → ((q41 ∧ True ∧ True) ∧ True) ∧ ∃ (y : Nat), y ≤ q22 ∧ q22 - y < q22 - x_2 ∧ q40 = (↑y : Int) ∧ q49 = Sp.mat (Sp.oC x.1.1 q16 y) ∧ q26)) ∧
                                        (q39 = false → ((True ∧ True) ∧ True ∧ True) ∧ q38 = Sp.order x.1))) := by kernel_rfl
theorem vc45 : funI C45 (stpP C45) S45 L45 Try.f45 = (
let q0 : List Ty := tLOp :: ([] : List Ty);
let q1 : Prop := (True ∧ True) ∧ True;
let q2 : Prop := True ∧ True ∧ True;
let q3 : Prop := (True ∧ q2) ∧ True;
let q4 : Int := (0 : Int);
let q5 : Prop := q0 = q0;
let q6 : Int × Unit := (q4, ());
let q7 : Int × (Int × Int × Int × Unit) × Int × Unit := (q4, (q4, q4, q6), q6);
let q8 : Int := (1 : Int);
∀ (x : List Int × List (Int × (Int × Int × Int × Unit) × Int × Unit) × Fun q0 Ty.bool × Unit),
  let q9 : Nat := x.2.1.length;
  let q10 : Int := (↑q9 : Int);
  let q11 : Nat := x.1.length;
  let q12 : Prop := x.1 = x.1;
  let q13 : Prop := x.2.1 = x.2.1;
  let q14 : Prop := ∃ (h1 : q5), ∃ (h2 : Ty.bool = Ty.bool), x.2.2.1 = x.2.2.1;
  let q15 : Int := (↑q11 : Int);
  let q16 : Prop := q12 ∧ q13 ∧ q14 ∧ q12 ∧ q15 = q15 ∧ True;
  let q17 : Bool := Sp.isList x.1 x.2.1 fun (o : Sp.LOp) => x.2.2.1.2 (o, ());
  let q18 : Prop := q1 ∧ false = q17;
  let q19 : Prop := q13 ∧ q10 = q10 ∧ True;
  (q9 ≤ (1000 : Nat) ∧ ∀ (o : Int × Int × Int × Unit), x.2.2.1.1 (o, ())) →
    dFact (Ty.int IntKind.i64).slice x.1 ∧ dFact ((Ty.int IntKind.i64).prod (((Ty.int IntKind.i64).prod ((Ty.int IntKind.i64).prod ((Ty.int IntKind.i64).prod Ty.unit))).prod ((Ty.int IntKind.i64).prod Ty.unit))).slice x.2.1 ∧ True →
      q1 ∧
        ((True ∧ True ∧ ((0 : (Ty.int IntKind.i64).den) ≤ q10 ∧ q10 ≤ q10 ∧ q10 ≤ maxNew) ∧ True) ∧ True ∧ True) ∧
          q3 ∧
            (∃ (x_1 : Nat × List Bool),
                let q20 : List Int := List.take x_1.1 x.1;
                (x_1.1 ≤ q11 ∧ x_1.2.length = q9 ∧ (List.take x_1.1 x.1).Nodup ∧ (∀ (n : Int), n ∈ q20 → q4 ≤ n ∧ n < q10 ∧ x.2.2.1.2 ((Sp.ev x.2.1 n).2.1, ()) = true) ∧ ∀ (n : Nat), n < q9 → (x_1.2.getD n false = true ↔ (↑n : Int) ∈ q20)) ∧ q4 = (↑x_1.1 : Int) ∧ List.replicate q10.toNat false = x_1.2 ∧ q16) ∧
              ∀ (x_1 : Nat × List Bool),
                let q21 : List Int := List.take x_1.1 x.1;
                let q22 : Int := (↑x_1.1 : Int);
                let q23 : Bool := decide (q22 < q15);
                let q24 : Int := x.1.getD q22.toNat q4;
                let q25 : Bool := decide (q24 < q4);
                let q26 : Prop := (true && bif q25 then false else true) = true → True;
                let q27 : Bool := bif q25 then true else decide (q24 ≥ q10);
                let q28 : Prop := (true && bif q27 then false else true) = true;
                let q29 : Prop := q28 → True;
                let q30 : Nat := x_1.2.length;
                let q31 : Prop := inN q24 q30;
                let q32 : Nat := q24.toNat;
                let q33 : Bool := bif q27 then true else x_1.2.getD q32 false;
                let q34 : Prop := (true && bif q33 then false else true) = true;
                let q35 : Prop := q34 → True;
                let q36 : (Int × Int × Int × Unit) × Unit := ((x.2.1.getD q32 q7).2.1, ());
                let q37 : Bool := bif q33 then true else !x.2.2.1.2 q36;
                let q38 : Int := q22 + q8;
                let q39 : Prop := q12 ∧ q13 ∧ q14 ∧ x_1.2 = x_1.2 ∧ q19;
                (x_1.1 ≤ q11 ∧ x_1.2.length = q9 ∧ (List.take x_1.1 x.1).Nodup ∧ (∀ (n : Int), n ∈ q21 → q4 ≤ n ∧ n < q10 ∧ x.2.2.1.2 ((Sp.ev x.2.1 n).2.1, ()) = true) ∧ ∀ (n : Nat), n < q9 → (x_1.2.getD n false = true ↔ (↑n : Int) ∈ q21)) →
                  dFact (Ty.int IntKind.i64) q22 ∧ dFact Ty.bool.slice x_1.2 ∧ True →
                    q1 ∧
                      (q23 = true →
                          ((inN q22 q11 ∧ q2) ∧ True) ∧
                            ((True ∧ True ∧ True ∧ q26 ∧ q26 ∧ q26 ∧ q26 ∧ True ∧ True ∧ q29 ∧ q29 ∧ (q28 → q31) ∧ q29 ∧ True ∧ True ∧ q35 ∧ q35 ∧ q35 ∧ (q34 → inN q24 q9) ∧ q35 ∧ q35 ∧ (q34 → x.2.2.1.1 q36) ∧ q35 ∧ True ∧ True) ∧ True) ∧
                              (q37 = true → q18) ∧
                                (q37 = false →
                                  ((True ∧ True ∧ q31 ∧ True) ∧ True ∧ True) ∧
                                    ((inK IntKind.i64 q38 ∧ True ∧ True) ∧ True) ∧
                                      ∃ (y : Nat × List Bool),
                                        let q40 : List Int := List.take y.1 x.1;
                                        (y.1 ≤ q11 ∧ y.2.length = q9 ∧ (List.take y.1 x.1).Nodup ∧ (∀ (n : Int), n ∈ q40 → q4 ≤ n ∧ n < q10 ∧ x.2.2.1.2 ((Sp.ev x.2.1 n).2.1, ()) = true) ∧ ∀ (n : Nat), n < q9 → (y.2.getD n false = true ↔ (↑n : Int) ∈ q40)) ∧ q11 - y.1 < q11 - x_1.1 ∧ q38 = (↑y.1 : Int) ∧ x_1.2.set q32 true = y.2 ∧ q16)) ∧
                        (q23 = false →
                          q3 ∧
                            (∃ (x_2 : Nat), (x_2 ≤ q9 ∧ ∀ (n : Nat), n < x_2 → x.2.2.1.2 ((Sp.ev x.2.1 (↑n : Int)).2.1, ()) = true → (↑n : Int) ∈ x.1) ∧ q4 = (↑x_2 : Int) ∧ q39) ∧
                              ∀ (x_2 : Nat),
                                let q41 : Bool := decide ((↑x_2 : Int) < q10);
                                let q42 : Nat := (↑x_2 : Int).toNat;
                                let q43 : (Int × Int × Int × Unit) × Unit := ((x.2.1.getD q42 q7).2.1, ());
                                let q44 : Bool := x.2.2.1.2 q43;
                                let q45 : Prop := (true && bif q44 then true else false) = true;
                                let q46 : Prop := q45 → True;
                                let q47 : Bool := bif q44 then !x_1.2.getD q42 false else false;
                                let q48 : Int := (↑x_2 : Int) + q8;
                                (x_2 ≤ q9 ∧ ∀ (n : Nat), n < x_2 → x.2.2.1.2 ((Sp.ev x.2.1 (↑n : Int)).2.1, ()) = true → (↑n : Int) ∈ x.1) → dFact (Ty.int IntKind.i64) (↑x_2 : Int) ∧ True → q1 ∧ (q41 = true → (q2 ∧ True) ∧ ((True ∧ True ∧ True ∧ inN (↑x_2 : Int) q9 ∧ True ∧ True ∧ x.2.2.1.1 q43 ∧ True ∧ q46 ∧ q46 ∧ (q45 → inN (↑x_2 : Int) q30) ∧ q46 ∧ q46 ∧ True ∧ True) ∧ True) ∧ (q47 = true → q18) ∧ (q47 = false → ((inK IntKind.i64 q48 ∧ True ∧ True) ∧ True) ∧ ∃ (y : Nat), (y ≤ q9 ∧ ∀ (n : Nat), n < y → x.2.2.1.2 ((Sp.ev x.2.1 (↑n : Int)).2.1, ()) = true → (↑n : Int) ∈ x.1) ∧ q9 - y < q9 - x_2 ∧ q48 = (↑y : Int) ∧ q39)) ∧ (q41 = false → q1 ∧ true = q17))) := by kernel_rfl
theorem vc21 : funI C21 (stpP C21) S21 L21 Try.f21 = (
let q0 : Int := (0 : Int);
let q1 : Nat := (1000 : Nat);
let q2 : Prop := True ∧ True ∧ True;
let q3 : Int := (1 : Int);
∀ (x : (List (List (Int × Int × Int × Unit)) × Unit) × Unit),
  let q4 : List (Int × (Int × Int × Int × Unit) × Int × Unit) := Sp.evs q0 x.1.1;
  let q5 : Prop := q4.length ≤ q1;
  let q6 : Int := (↑x.1.1.length : Int);
  let q7 : Bool := decide (q6 ≥ q3);
  let q8 : Prop := (true && bif q7 then true else false) = true → True;
  let q9 : Bool := bif q7 then decide (q6 ≤ (4 : Int)) else false;
  let q10 : Prop := (true && bif q9 then true else false) = true → True;
  let q11 : Int := (↑q4.length : Int);
  let q12 : Bool := bif q9 then decide (q11 ≥ q3) else false;
  let q13 : Prop := (true && bif q12 then true else false) = true → True;
  let q14 : Bool := bif q12 then decide (q11 ≤ (6 : Int)) else false;
  let q15 : Prop := (true && bif q14 then true else false) = true;
  let q16 : Prop := q15 → True;
  q5 → dFact (((Ty.int IntKind.i64).prod ((Ty.int IntKind.i64).prod ((Ty.int IntKind.i64).prod Ty.unit))).slice.slice.prod Ty.unit) x.1 ∧ True → (q2 ∧ True) ∧ ((True ∧ q5 ∧ True) ∧ True ∧ True) ∧ ((True ∧ True ∧ True ∧ True ∧ True ∧ q8 ∧ q8 ∧ q8 ∧ q8 ∧ True ∧ True ∧ q10 ∧ q10 ∧ q10 ∧ True ∧ True ∧ q13 ∧ q13 ∧ q13 ∧ True ∧ True ∧ q16 ∧ (q15 → ∀ (e : Int × (Int × Int × Int × Unit) × Int × Unit), True) ∧ q16 ∧ q2) ∧ True) ∧ (bif q14 then !q4.any fun (e : tLEv.den) => !Sp.usual e.2.1 else false) = Sp.valid x.1) := by kernel_rfl
end Go.User
