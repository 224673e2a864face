/- Codes and orders that are equal; registers: what they should. -/
import Derived.Test.YtdcbiadlojcaoaaLfl
set_option linter.unusedVariables false
set_option linter.unusedSimpArgs false
namespace Go.User
open Go.Proofs Go.Lf
set_option maxRecDepth 100000
theorem vc26 : (c9 C26 (cN C26) S26 L26 Try.f26) = (
let q0 : Prop := (True /\ True) /\ True;
let q1 : Prop := True /\ True /\ True;
let q2 : Prop := True /\ True /\ q1;
let q3 : Int := (0 : Int);
let q4 : Int := (1 : Int);
∀ (x : List Int × List Int × Unit),
 let q5 : Nat := x.1.length;
 let q6 : Int := (↑q5 : Int);
 let q7 : Nat := x.2.1.length;
 let q8 : Bool := q6 != (↑q7 : Int);
 let q9 : Bool := Sp.eqInt x.1 x.2.1;
 let q10 : Prop := q0 /\ false = q9;
 let q11 : Prop := x.1 = x.1 /\ x.2.1 = x.2.1 /\ True;
 True ->
 aB tI.slice x.1 /\ aB tI.slice x.2.1 /\ True ->
 q0 /\
 ((True /\ q2) /\ True) /\
 (q8 = true -> q10) /\
 (q8 = false ->
 q0 /\
 (∃ (x_1 : Nat), (x_1 <= x.1.length /\ x.1.length = x.2.1.length /\ List.take x_1 x.1 = List.take x_1 x.2.1) /\ q3 = (↑x_1 : Int) /\ q11) /\
 ∀ (x_1 : Nat),
 let q12 : Bool := decide ((↑x_1 : Int) < q6);
 let q13 : Nat := (↑x_1 : Int).toNat;
 let q14 : Bool := x.1.getD q13 q3 != x.2.1.getD q13 q3;
 let q15 : Int := (↑x_1 : Int) + q4;
 x_1 <= x.1.length /\ x.1.length = x.2.1.length /\ List.take x_1 x.1 = List.take x_1 x.2.1 -> aB tI (↑x_1 : Int) /\ True -> (q2 /\ True) /\ (q12 = true -> ((True /\ True /\ inN (↑x_1 : Int) q5 /\ True /\ True /\ True /\ inN (↑x_1 : Int) q7 /\ q1) /\ True) /\ (q14 = true -> q10) /\ (q14 = false -> ((True /\ inK IntKind.i64 q15 /\ True /\ True) /\ True) /\ ∃ (y : Nat), (y <= x.1.length /\ x.1.length = x.2.1.length /\ List.take y x.1 = List.take y x.2.1) /\ x.1.length - y < x.1.length - x_1 /\ q15 = (↑y : Int) /\ q11)) /\ (q12 = false -> q0 /\ true = q9))) := by kernel_rfl
theorem vc30 : (c9 C30 (cN C30) S30 L30 Try.f30) = (
let q0 : Prop := True /\ True /\ True;
let q1 : Prop := True /\ q0;
let q2 : Prop := (True /\ True) /\ True;
let q3 : Int := (0 : Int);
let q4 : Sp.Opd := (q3, q3, q3, ());
let q5 : Sp.Inst := (q3, q3, q3, q4, q4, q4, q4, ());
let q6 : Int := (1 : Int);
∀ (x : Sp.Block × Sp.Block × Unit),
 let q7 : Nat := x.1.1.length;
 let q8 : Int := (↑q7 : Int);
 let q9 : Nat := x.2.1.1.length;
 let q10 : Bool := q8 != (↑q9 : Int);
 let q11 : Prop := (true && bif q10 then false else true) = true -> True;
 let q12 : Int × Sp.Opd × Sp.Opd × Sp.Opd × List Int × Unit := x.2.1.2.1.2;
 let q13 : Sp.Opd × Sp.Opd × Sp.Opd × List Int × Unit := x.1.2.1.2.2;
 let q14 : Sp.Opd := q13.1;
 let q15 : Sp.Opd × Sp.Opd × Sp.Opd × List Int × Unit := q12.2;
 let q16 : Sp.Opd := q15.1;
 let q17 : Int × Int × Unit := q14.2;
 let q18 : Int × Int × Unit := q16.2;
 let q19 : Sp.Opd × Sp.Opd × List Int × Unit := q13.2;
 let q20 : Sp.Opd := q19.1;
 let q21 : Sp.Opd × Sp.Opd × List Int × Unit := q15.2;
 let q22 : Sp.Opd := q21.1;
 let q23 : Int × Int × Unit := q20.2;
 let q24 : Int × Int × Unit := q22.2;
 let q25 : Sp.Opd × List Int × Unit := q19.2;
 let q26 : Sp.Opd := q25.1;
 let q27 : Sp.Opd × List Int × Unit := q21.2;
 let q28 : Sp.Opd := q27.1;
 let q29 : Int × Int × Unit := q26.2;
 let q30 : Int × Int × Unit := q28.2;
 let q31 : Bool := bif q10 then true else !(decide (x.1.2.1.1 = x.2.1.2.1.1) && (decide (x.1.2.1.2.1 = q12.1) && (decide (q14.1 = q16.1) && (decide (q17.1 = q18.1) && (decide (q17.2.1 = q18.2.1) && true)) && (decide (q20.1 = q22.1) && (decide (q23.1 = q24.1) && (decide (q23.2.1 = q24.2.1) && true)) && (decide (q26.1 = q28.1) && (decide (q29.1 = q30.1) && (decide (q29.2.1 = q30.2.1) && true)) && (decide (q25.2.1 = q27.2.1) && true))))));
 let q32 : Bool := Sp.eqBlk x.1 x.2.1;
 let q33 : Prop := q2 /\ false = q32;
 let q34 : Nat := x.1.1.length;
 let q35 : Prop := x.1 = x.1 /\ x.2.1 = x.2.1 /\ True;
 True ->
 aB fY x.1 /\ aB fY x.2.1 /\ True ->
 (q1 /\ True) /\
 ((True /\ True /\ True /\ True /\ True /\ True /\ True /\ True /\ q11 /\ q11 /\ q11 /\ q11 /\ q11 /\ True /\ True) /\ True) /\
 (q31 = true -> q33) /\
 (q31 = false ->
 q2 /\
 (∃ (x_1 : Nat), (x_1 <= q34 /\ q34 = x.2.1.1.length /\ List.take x_1 x.1.1 = List.take x_1 x.2.1.1) /\ q3 = (↑x_1 : Int) /\ q35) /\
 ∀ (x_1 : Nat),
 let q36 : Bool := decide ((↑x_1 : Int) < q8);
 let q37 : Nat := (↑x_1 : Int).toNat;
 let q38 : Sp.Inst := x.1.1.getD q37 q5;
 let q39 : Sp.Inst := x.2.1.1.getD q37 q5;
 let q40 : Int × Int × Sp.Opd × Sp.Opd × Sp.Opd × Sp.Opd × Unit := q38.2;
 let q41 : Int × Int × Sp.Opd × Sp.Opd × Sp.Opd × Sp.Opd × Unit := q39.2;
 let q42 : Int × Sp.Opd × Sp.Opd × Sp.Opd × Sp.Opd × Unit := q40.2;
 let q43 : Int × Sp.Opd × Sp.Opd × Sp.Opd × Sp.Opd × Unit := q41.2;
 let q44 : Sp.Opd × Sp.Opd × Sp.Opd × Sp.Opd × Unit := q42.2;
 let q45 : Sp.Opd := q44.1;
 let q46 : Sp.Opd × Sp.Opd × Sp.Opd × Sp.Opd × Unit := q43.2;
 let q47 : Sp.Opd := q46.1;
 let q48 : Int × Int × Unit := q45.2;
 let q49 : Int × Int × Unit := q47.2;
 let q50 : Sp.Opd × Sp.Opd × Sp.Opd × Unit := q44.2;
 let q51 : Sp.Opd := q50.1;
 let q52 : Sp.Opd × Sp.Opd × Sp.Opd × Unit := q46.2;
 let q53 : Sp.Opd := q52.1;
 let q54 : Int × Int × Unit := q51.2;
 let q55 : Int × Int × Unit := q53.2;
 let q56 : Sp.Opd × Sp.Opd × Unit := q50.2;
 let q57 : Sp.Opd := q56.1;
 let q58 : Sp.Opd × Sp.Opd × Unit := q52.2;
 let q59 : Sp.Opd := q58.1;
 let q60 : Int × Int × Unit := q57.2;
 let q61 : Int × Int × Unit := q59.2;
 let q62 : Sp.Opd := q56.2.1;
 let q63 : Sp.Opd := q58.2.1;
 let q64 : Int × Int × Unit := q62.2;
 let q65 : Int × Int × Unit := q63.2;
 let q66 : Bool := !(decide (q38.1 = q39.1) && (decide (q40.1 = q41.1) && (decide (q42.1 = q43.1) && (decide (q45.1 = q47.1) && (decide (q48.1 = q49.1) && (decide (q48.2.1 = q49.2.1) && true)) && (decide (q51.1 = q53.1) && (decide (q54.1 = q55.1) && (decide (q54.2.1 = q55.2.1) && true)) && (decide (q57.1 = q59.1) && (decide (q60.1 = q61.1) && (decide (q60.2.1 = q61.2.1) && true)) && (decide (q62.1 = q63.1) && (decide (q64.1 = q65.1) && (decide (q64.2.1 = q65.2.1) && true)) && true)))))));
 let q67 : Int := (↑x_1 : Int) + q6;
 x_1 <= q34 /\ q34 = x.2.1.1.length /\ List.take x_1 x.1.1 = List.take x_1 x.2.1.1 -> aB tI (↑x_1 : Int) /\ True -> ((True /\ True /\ q1) /\ True) /\ (q36 = true -> ((True /\ True /\ True /\ inN (↑x_1 : Int) q7 /\ True /\ True /\ True /\ True /\ inN (↑x_1 : Int) q9 /\ q0) /\ True) /\ (q66 = true -> q33) /\ (q66 = false -> ((True /\ inK IntKind.i64 q67 /\ True /\ True) /\ True) /\ ∃ (y : Nat), (y <= q34 /\ q34 = x.2.1.1.length /\ List.take y x.1.1 = List.take y x.2.1.1) /\ q34 - y < q34 - x_1 /\ q67 = (↑y : Int) /\ q35)) /\ (q36 = false -> q2 /\ true = q32))) := by kernel_rfl
theorem vc24 : (c9 C24 (cN C24) S24 L24 Try.f24) = (
let q0 : Prop := True /\ True /\ True;
let q1 : Prop := True /\ q0;
let q2 : Prop := (True /\ True) /\ True;
let q3 : Int := (0 : Int);
let q4 : Prop := (True /\ True /\ q1) /\ True;
let q5 : Sp.Opd := (q3, q3, q3, ());
let q6 : Sp.Arr := (([] : List UInt8), q5);
let q7 : Int := (1 : Int);
∀ (x : Sp.Code × Sp.Code × Unit),
 let q8 : Bool := x.1.1 != x.2.1.1;
 let q9 : Prop := (true && bif q8 then false else true) = true -> True;
 let q10 : Bool := bif q8 then true else x.1.2.1 != x.2.1.2.1;
 let q11 : Prop := (true && bif q10 then false else true) = true -> True;
 let q12 : Bool := bif q10 then true else x.1.2.2.1 != x.2.1.2.2.1;
 let q13 : Prop := (true && bif q12 then false else true) = true -> True;
 let q14 : Int × Int × List Sp.Arr × List Sp.Opd × List Sp.Block × Unit := x.2.1.2.2.2;
 let q15 : Bool := bif q12 then true else x.1.2.2.2.1 != q14.1;
 let q16 : Prop := (true && bif q15 then false else true) = true -> True;
 let q17 : Int × List Sp.Arr × List Sp.Opd × List Sp.Block × Unit := x.1.2.2.2.2;
 let q18 : Int × List Sp.Arr × List Sp.Opd × List Sp.Block × Unit := q14.2;
 let q19 : Bool := bif q15 then true else q17.1 != q18.1;
 let q20 : Prop := (true && bif q19 then false else true) = true -> True;
 let q21 : List Sp.Arr × List Sp.Opd × List Sp.Block × Unit := q17.2;
 let q22 : List Sp.Arr := q21.1;
 let q23 : Nat := q22.length;
 let q24 : Int := (↑q23 : Int);
 let q25 : List Sp.Arr × List Sp.Opd × List Sp.Block × Unit := q18.2;
 let q26 : List Sp.Arr := q25.1;
 let q27 : Nat := q26.length;
 let q28 : Bool := bif q19 then true else q24 != (↑q27 : Int);
 let q29 : Prop := (true && bif q28 then false else true) = true -> True;
 let q30 : List Sp.Opd := q21.2.1;
 let q31 : Nat := q30.length;
 let q32 : Int := (↑q31 : Int);
 let q33 : List Sp.Opd := q25.2.1;
 let q34 : Nat := q33.length;
 let q35 : Bool := bif q28 then true else q32 != (↑q34 : Int);
 let q36 : Bool := Sp.headB x.1 x.2.1;
 let q37 : Prop := q2 /\ false = q36;
 let q38 : Nat := (Sp.cA x.1).length;
 let q39 : Prop := x.1 = x.1 /\ x.2.1 = x.2.1 /\ True;
 let q40 : Nat := (Sp.cL x.1).length;
 True ->
 aB bT x.1 /\ aB bT x.2.1 /\ True ->
 (q1 /\ True) /\
 ((True /\ True /\ True /\ True /\ True /\ True /\ q9 /\ q9 /\ q9 /\ q9 /\ q9 /\ True /\ True /\ q11 /\ q11 /\ q11 /\ q11 /\ q11 /\ True /\ True /\ q13 /\ q13 /\ q13 /\ q13 /\ q13 /\ True /\ True /\ q16 /\ q16 /\ q16 /\ q16 /\ q16 /\ True /\ True /\ q20 /\ q20 /\ q20 /\ q20 /\ q20 /\ q20 /\ q20 /\ True /\ True /\ q29 /\ q29 /\ q29 /\ q29 /\ q29 /\ q29 /\ q29 /\ True /\ True) /\ True) /\
 (q35 = true -> q37) /\
 (q35 = false ->
 q2 /\
 (∃ (x_1 : Nat), (x_1 <= q38 /\ q38 = (Sp.cA x.2.1).length /\ List.take x_1 (Sp.cA x.1) = List.take x_1 (Sp.cA x.2.1)) /\ q3 = (↑x_1 : Int) /\ q39) /\
 ∀ (x_1 : Nat),
 let q41 : Bool := decide ((↑x_1 : Int) < q24);
 let q42 : Nat := (↑x_1 : Int).toNat;
 let q43 : Sp.Arr := q22.getD q42 q6;
 let q44 : Sp.Arr := q26.getD q42 q6;
 let q45 : Sp.Opd := q43.2;
 let q46 : Sp.Opd := q44.2;
 let q47 : Int × Int × Unit := q45.2;
 let q48 : Int × Int × Unit := q46.2;
 let q49 : Bool := !(decide (q43.1 = q44.1) && (decide (q45.1 = q46.1) && (decide (q47.1 = q48.1) && (decide (q47.2.1 = q48.2.1) && true))));
 let q50 : Int := (↑x_1 : Int) + q7;
 x_1 <= q38 /\ q38 = (Sp.cA x.2.1).length /\ List.take x_1 (Sp.cA x.1) = List.take x_1 (Sp.cA x.2.1) ->
 aB tI (↑x_1 : Int) /\ True ->
 q4 /\
 (q41 = true -> ((True /\ True /\ True /\ inN (↑x_1 : Int) q23 /\ True /\ True /\ True /\ True /\ inN (↑x_1 : Int) q27 /\ q0) /\ True) /\ (q49 = true -> q37) /\ (q49 = false -> ((True /\ inK IntKind.i64 q50 /\ True /\ True) /\ True) /\ ∃ (y : Nat), (y <= q38 /\ q38 = (Sp.cA x.2.1).length /\ List.take y (Sp.cA x.1) = List.take y (Sp.cA x.2.1)) /\ q38 - y < q38 - x_1 /\ q50 = (↑y : Int) /\ q39)) /\
 (q41 = false ->
 q2 /\
 (∃ (x_2 : Nat), (x_2 <= q40 /\ q40 = (Sp.cL x.2.1).length /\ List.take x_2 (Sp.cL x.1) = List.take x_2 (Sp.cL x.2.1)) /\ q3 = (↑x_2 : Int) /\ q39) /\
 ∀ (x_2 : Nat),
 let q51 : Bool := decide ((↑x_2 : Int) < q32);
 let q52 : Nat := (↑x_2 : Int).toNat;
 let q53 : Sp.Opd := q30.getD q52 q5;
 let q54 : Sp.Opd := q33.getD q52 q5;
 let q55 : Int × Int × Unit := q53.2;
 let q56 : Int × Int × Unit := q54.2;
 let q57 : Bool := !(decide (q53.1 = q54.1) && (decide (q55.1 = q56.1) && (decide (q55.2.1 = q56.2.1) && true)));
 let q58 : Int := (↑x_2 : Int) + q7;
 x_2 <= q40 /\ q40 = (Sp.cL x.2.1).length /\ List.take x_2 (Sp.cL x.1) = List.take x_2 (Sp.cL x.2.1) -> aB tI (↑x_2 : Int) /\ True -> q4 /\ (q51 = true -> ((True /\ True /\ True /\ inN (↑x_2 : Int) q31 /\ True /\ True /\ True /\ True /\ inN (↑x_2 : Int) q34 /\ q0) /\ True) /\ (q57 = true -> q37) /\ (q57 = false -> ((True /\ inK IntKind.i64 q58 /\ True /\ True) /\ True) /\ ∃ (y : Nat), (y <= q40 /\ q40 = (Sp.cL x.2.1).length /\ List.take y (Sp.cL x.1) = List.take y (Sp.cL x.2.1)) /\ q40 - y < q40 - x_2 /\ q58 = (↑y : Int) /\ q39)) /\ (q51 = false -> q2 /\ true = q36)))) := by kernel_rfl
theorem vc13 : (c9 C13 (cN C13) S13 L13 Try.f13) = (
let q0 : Nat := (2 : Nat);
let q1 : Prop := True /\ True /\ True /\ True;
let q2 : Prop := (True /\ True) /\ True;
let q3 : Int := (0 : Int);
let q4 : Sp.Opd := (q3, q3, q3, ());
let q5 : Sp.Block := (([] : List aL.den), (q3, q3, q4, q4, q4, List.replicate q0 q3, ()), ());
let q6 : Int := (1 : Int);
∀ (x : Sp.Code × Sp.Code × Unit),
 let q7 : Bool := !Sp.headB x.1 x.2.1;
 let q8 : Prop := (true && bif q7 then false else true) = true -> True;
 let q9 : List Sp.Block := x.1.2.2.2.2.2.2.2.1;
 let q10 : Nat := q9.length;
 let q11 : Int := (↑q10 : Int);
 let q12 : List Sp.Block := x.2.1.2.2.2.2.2.2.2.1;
 let q13 : Nat := q12.length;
 let q14 : Bool := bif q7 then true else q11 != (↑q13 : Int);
 let q15 : Bool := Sp.gC x.1 x.2.1;
 let q16 : Prop := q2 /\ false = q15;
 let q17 : Nat := (Sp.cB x.1).length;
 let q18 : Prop := x.1 = x.1 /\ x.2.1 = x.2.1 /\ True;
 True ->
 aB (tI.prod (tI.prod (tI.prod (tI.prod (tI.prod (cG.slice.prod (bF.slice.prod ((aL.slice.prod ((tI.prod (tI.prod (aQ.prod (aQ.prod (aQ.prod ((Ty.arr q0 tI).prod Ty.unit)))))).prod Ty.unit)).slice.prod Ty.unit)))))))) x.1 /\ aB (tI.prod (tI.prod (tI.prod (tI.prod (tI.prod (cG.slice.prod (bF.slice.prod ((aL.slice.prod ((tI.prod (tI.prod (aQ.prod (aQ.prod (aQ.prod ((Ty.arr q0 tI).prod Ty.unit)))))).prod Ty.unit)).slice.prod Ty.unit)))))))) x.2.1 /\ True ->
 (q1 /\ True) /\
 ((True /\ True /\ True /\ True /\ True /\ q8 /\ q8 /\ q8 /\ q8 /\ q8 /\ q8 /\ q8 /\ True /\ True) /\ True) /\
 (q14 = true -> q16) /\
 (q14 = false ->
 q2 /\
 (∃ (x_1 : Nat), (x_1 <= q17 /\ q17 = (Sp.cB x.2.1).length /\ List.take x_1 (Sp.cB x.1) = List.take x_1 (Sp.cB x.2.1)) /\ q3 = (↑x_1 : Int) /\ q18) /\
 ∀ (x_1 : Nat),
 let q19 : Bool := decide ((↑x_1 : Int) < q11);
 let q20 : Nat := (↑x_1 : Int).toNat;
 let q21 : Bool := !Sp.eqBlk (q9.getD q20 q5) (q12.getD q20 q5);
 let q22 : Int := (↑x_1 : Int) + q6;
 x_1 <= q17 /\ q17 = (Sp.cB x.2.1).length /\ List.take x_1 (Sp.cB x.1) = List.take x_1 (Sp.cB x.2.1) -> aB tI (↑x_1 : Int) /\ True -> ((True /\ True /\ q1) /\ True) /\ (q19 = true -> ((True /\ True /\ True /\ inN (↑x_1 : Int) q10 /\ True /\ True /\ True /\ True /\ inN (↑x_1 : Int) q13 /\ q1) /\ True) /\ (q21 = true -> q16) /\ (q21 = false -> ((True /\ inK IntKind.i64 q22 /\ True /\ True) /\ True) /\ ∃ (y : Nat), (y <= q17 /\ q17 = (Sp.cB x.2.1).length /\ List.take y (Sp.cB x.1) = List.take y (Sp.cB x.2.1)) /\ q17 - y < q17 - x_1 /\ q22 = (↑y : Int) /\ q18)) /\ (q19 = false -> q2 /\ true = q15))) := by kernel_rfl
theorem vc12 : (c9 C12 (cN C12) S12 L12 Try.f12) = (
let q0 : Prop := True /\ True /\ True /\ True;
let q1 : Prop := True /\ True /\ q0;
let q2 : Prop := (True /\ True) /\ True;
let q3 : Int := (1 : Int);
∀ (x : Sp.Ord × Sp.Ord × Unit),
 let q4 : Nat := x.1.1.length;
 let q5 : Int := (↑q4 : Int);
 let q6 : Nat := x.2.1.1.length;
 let q7 : Bool := q5 != (↑q6 : Int);
 let q8 : Bool := Sp.eqOrd x.1 x.2.1;
 let q9 : Prop := q2 /\ false = q8;
 let q10 : Nat := x.1.1.length;
 let q11 : Prop := x.1 = x.1 /\ x.2.1 = x.2.1 /\ True;
 True ->
 aB fW x.1 /\ aB fW x.2.1 /\ True ->
 (q0 /\ True) /\
 ((True /\ True /\ q1) /\ True) /\
 (q7 = true -> q9) /\
 (q7 = false ->
 q2 /\
 (∃ (x_1 : Nat), (x_1 <= q10 /\ q10 = x.2.1.1.length /\ List.take x_1 x.1.1 = List.take x_1 x.2.1.1) /\ (0 : Int) = (↑x_1 : Int) /\ q11) /\
 ∀ (x_1 : Nat),
 let q12 : Bool := decide ((↑x_1 : Int) < q5);
 let q13 : Nat := (↑x_1 : Int).toNat;
 let q14 : Bool := !Sp.eqInt (x.1.1.getD q13 (([] : List tI.den))) (x.2.1.1.getD q13 (([] : List tI.den)));
 let q15 : Int := (↑x_1 : Int) + q3;
 x_1 <= q10 /\ q10 = x.2.1.1.length /\ List.take x_1 x.1.1 = List.take x_1 x.2.1.1 -> aB tI (↑x_1 : Int) /\ True -> (q1 /\ True) /\ (q12 = true -> ((True /\ True /\ True /\ inN (↑x_1 : Int) q4 /\ True /\ True /\ True /\ True /\ inN (↑x_1 : Int) q6 /\ q0) /\ True) /\ (q14 = true -> q9) /\ (q14 = false -> ((True /\ inK IntKind.i64 q15 /\ True /\ True) /\ True) /\ ∃ (y : Nat), (y <= q10 /\ q10 = x.2.1.1.length /\ List.take y x.1.1 = List.take y x.2.1.1) /\ q10 - y < q10 - x_1 /\ q15 = (↑y : Int) /\ q11)) /\ (q12 = false -> q2 /\ true = q8))) := by kernel_rfl
theorem vc38 : (c9 C38 (cN C38) S38 L38 Try.f38) = (
let q0 : Prop := (True /\ True) /\ True;
let q1 : Int := (0 : Int);
let q2 : Prop := True /\ True /\ True /\ True;
let q3 : Int := (1 : Int);
∀ (x : List Int × Int × Unit),
 let q4 : Nat := x.1.length;
 let q5 : Prop := x.1 = x.1 /\ x.2.1 = x.2.1 /\ True;
 let q6 : Bool := Sp.mem x.1 x.2.1;
 True ->
 aB tI.slice x.1 /\ aB tI x.2.1 /\ True ->
 q0 /\
 q0 /\
 (∃ (x_1 : Nat), (x_1 <= q4 /\ ¬x.2.1 ∈ List.take x_1 x.1) /\ q1 = (↑x_1 : Int) /\ q5) /\
 ∀ (x_1 : Nat),
 let q7 : Bool := decide ((↑x_1 : Int) < (↑q4 : Int));
 let q8 : Bool := x.1.getD (↑x_1 : Int).toNat q1 == x.2.1;
 let q9 : Int := (↑x_1 : Int) + q3;
 x_1 <= q4 /\ ¬x.2.1 ∈ List.take x_1 x.1 -> aB tI (↑x_1 : Int) /\ True -> ((True /\ q2) /\ True) /\ (q7 = true -> ((True /\ True /\ inN (↑x_1 : Int) q4 /\ q2) /\ True) /\ (q8 = true -> q0 /\ true = q6) /\ (q8 = false -> ((True /\ inK IntKind.i64 q9 /\ True /\ True) /\ True) /\ ∃ (y : Nat), (y <= q4 /\ ¬x.2.1 ∈ List.take y x.1) /\ q4 - y < q4 - x_1 /\ q9 = (↑y : Int) /\ q5)) /\ (q7 = false -> q0 /\ false = q6)) := by kernel_rfl
theorem vc69 : (c9 C69 (cN C69) S69 L69 Try.f69) = (
let q0 : Prop := (True /\ True) /\ True;
let q1 : Prop := True /\ True /\ True;
let q2 : Int := (0 : Int);
let q3 : Prop := q1 /\ True;
let q4 : Int := (1 : Int);
∀ (x : List Int × Int × Unit),
 let q5 : Nat := x.1.length;
 let q6 : Int := (↑q5 : Int);
 let q7 : Prop := q6 = q6 /\ x.1 = x.1 /\ x.2.1 = x.2.1 /\ True;
 let q8 : Int := Sp.idxL x.1 x.2.1;
 True ->
 aB tI.slice x.1 /\ aB tI x.2.1 /\ True ->
 q0 /\
 ((True /\ q1) /\ True) /\
 (∃ (x_1 : Nat), (x_1 <= q5 /\ ¬x.2.1 ∈ List.take x_1 x.1) /\ q2 = (↑x_1 : Int) /\ q7) /\
 ∀ (x_1 : Nat),
 let q9 : Bool := decide ((↑x_1 : Int) < q6);
 let q10 : Bool := x.2.1 == x.1.getD (↑x_1 : Int).toNat q2;
 let q11 : Int := (↑x_1 : Int) + q4;
 x_1 <= q5 /\ ¬x.2.1 ∈ List.take x_1 x.1 -> aB tI (↑x_1 : Int) /\ aB tI q6 /\ True -> q0 /\ (q9 = true -> q3 /\ ((True /\ True /\ True /\ inN (↑x_1 : Int) q5 /\ q1) /\ True) /\ (q10 = true -> q3 /\ (↑x_1 : Int) = q8) /\ (q10 = false -> ((inK IntKind.i64 q11 /\ True /\ True) /\ True) /\ ∃ (y : Nat), (y <= q5 /\ ¬x.2.1 ∈ List.take y x.1) /\ q5 - y < q5 - x_1 /\ q11 = (↑y : Int) /\ q7)) /\ (q9 = false -> q0 /\ -q4 = q8)) := by kernel_rfl
theorem vc61 : (c9 C61 (cN C61) S61 L61 Try.f61) = (
∀ (x : List Int × Int × Unit), True -> aB tI.slice x.1 /\ aB tI x.2.1 /\ True -> ((True /\ True) /\ True) /\ ((True /\ True /\ True /\ True /\ True /\ True) /\ True) /\ decide (Sp.idxL x.1 x.2.1 ≥ (0 : Int)) = Sp.mem x.1 x.2.1) := by kernel_rfl
theorem vc39 : (c9 C39 (cN C39) S39 L39 Try.f39) = (
let q0 : Prop := (True /\ True) /\ True;
let q1 : Prop := True /\ True /\ True;
let q2 : Prop := True /\ q1;
let q3 : Int := (0 : Int);
let q4 : Sp.Arr := (([] : List UInt8), q3, q3, q3, ());
let q5 : Int := (1 : Int);
∀ (x : List Sp.Arr × List Sp.Arr × Unit),
 let q6 : Nat := x.1.length;
 let q7 : Int := (↑q6 : Int);
 let q8 : Nat := x.2.1.length;
 let q9 : Bool := q7 != (↑q8 : Int);
 let q10 : Bool := Sp.eqArrs x.1 x.2.1;
 let q11 : Prop := q0 /\ false = q10;
 let q12 : Int := (↑x.1.length : Int);
 let q13 : Prop := x.1 = x.1 /\ x.2.1 = x.2.1 /\ True;
 True ->
 aB cG.slice x.1 /\ aB cG.slice x.2.1 /\ True ->
 q0 /\
 ((True /\ True /\ q2) /\ True) /\
 (q9 = true -> q11) /\
 (q9 = false ->
 (q2 /\ True) /\
 (∃ (x_1 : Nat), (x_1 <= x.1.length /\ x.1.length = x.2.1.length /\ List.take x_1 x.1 = List.take x_1 x.2.1) /\ q3 = (↑x_1 : Int) /\ q7 = q12 /\ q13) /\
 ∀ (x_1 : Nat),
 let q14 : Bool := decide ((↑x_1 : Int) < q12);
 let q15 : Nat := (↑x_1 : Int).toNat;
 let q16 : Sp.Arr := x.1.getD q15 q4;
 let q17 : Sp.Arr := x.2.1.getD q15 q4;
 let q18 : Sp.Opd := q16.2;
 let q19 : Sp.Opd := q17.2;
 let q20 : Int × Int × Unit := q18.2;
 let q21 : Int × Int × Unit := q19.2;
 let q22 : Bool := !(decide (q16.1 = q17.1) && (decide (q18.1 = q19.1) && (decide (q20.1 = q21.1) && (decide (q20.2.1 = q21.2.1) && true))));
 let q23 : Int := (↑x_1 : Int) + q5;
 x_1 <= x.1.length /\ x.1.length = x.2.1.length /\ List.take x_1 x.1 = List.take x_1 x.2.1 -> aB tI (↑x_1 : Int) /\ aB tI q12 /\ True -> q0 /\ (q14 = true -> (q1 /\ True) /\ ((True /\ True /\ inN (↑x_1 : Int) q6 /\ True /\ True /\ True /\ inN (↑x_1 : Int) q8 /\ q1) /\ True) /\ (q22 = true -> q11) /\ (q22 = false -> ((inK IntKind.i64 q23 /\ True /\ True) /\ True) /\ ∃ (y : Nat), (y <= x.1.length /\ x.1.length = x.2.1.length /\ List.take y x.1 = List.take y x.2.1) /\ x.1.length - y < x.1.length - x_1 /\ q23 = (↑y : Int) /\ q12 = q12 /\ q13)) /\ (q14 = false -> q0 /\ true = q10))) := by kernel_rfl
theorem vc40 : (c9 C40 (cN C40) S40 L40 Try.f40) = (
let q0 : Prop := (True /\ True) /\ True;
let q1 : Prop := True /\ True /\ True;
let q2 : Prop := True /\ q1;
let q3 : Int := (0 : Int);
let q4 : Sp.Opd := (q3, q3, q3, ());
let q5 : Int := (1 : Int);
∀ (x : List Sp.Opd × List Sp.Opd × Unit),
 let q6 : Nat := x.1.length;
 let q7 : Int := (↑q6 : Int);
 let q8 : Nat := x.2.1.length;
 let q9 : Bool := q7 != (↑q8 : Int);
 let q10 : Bool := Sp.eqLps x.1 x.2.1;
 let q11 : Prop := q0 /\ false = q10;
 let q12 : Int := (↑x.1.length : Int);
 let q13 : Prop := x.1 = x.1 /\ x.2.1 = x.2.1 /\ True;
 True ->
 aB bF.slice x.1 /\ aB bF.slice x.2.1 /\ True ->
 q0 /\
 ((True /\ True /\ q2) /\ True) /\
 (q9 = true -> q11) /\
 (q9 = false ->
 (q2 /\ True) /\
 (∃ (x_1 : Nat), (x_1 <= x.1.length /\ x.1.length = x.2.1.length /\ List.take x_1 x.1 = List.take x_1 x.2.1) /\ q3 = (↑x_1 : Int) /\ q7 = q12 /\ q13) /\
 ∀ (x_1 : Nat),
 let q14 : Bool := decide ((↑x_1 : Int) < q12);
 let q15 : Nat := (↑x_1 : Int).toNat;
 let q16 : Sp.Opd := x.1.getD q15 q4;
 let q17 : Sp.Opd := x.2.1.getD q15 q4;
 let q18 : Int × Int × Unit := q16.2;
 let q19 : Int × Int × Unit := q17.2;
 let q20 : Bool := !(decide (q16.1 = q17.1) && (decide (q18.1 = q19.1) && (decide (q18.2.1 = q19.2.1) && true)));
 let q21 : Int := (↑x_1 : Int) + q5;
 x_1 <= x.1.length /\ x.1.length = x.2.1.length /\ List.take x_1 x.1 = List.take x_1 x.2.1 -> aB tI (↑x_1 : Int) /\ aB tI q12 /\ True -> q0 /\ (q14 = true -> (q1 /\ True) /\ ((True /\ True /\ inN (↑x_1 : Int) q6 /\ True /\ True /\ True /\ inN (↑x_1 : Int) q8 /\ q1) /\ True) /\ (q20 = true -> q11) /\ (q20 = false -> ((inK IntKind.i64 q21 /\ True /\ True) /\ True) /\ ∃ (y : Nat), (y <= x.1.length /\ x.1.length = x.2.1.length /\ List.take y x.1 = List.take y x.2.1) /\ x.1.length - y < x.1.length - x_1 /\ q21 = (↑y : Int) /\ q12 = q12 /\ q13)) /\ (q14 = false -> q0 /\ true = q10))) := by kernel_rfl
theorem vc42 : (c9 C42 (cN C42) S42 L42 Try.f42) = (
let q0 : Prop := (True /\ True) /\ True;
let q1 : Prop := True /\ True /\ True;
let q2 : Prop := True /\ q1;
let q3 : Int := (0 : Int);
let q4 : Sp.Opd := (q3, q3, q3, ());
let q5 : Sp.Inst := (q3, q3, q3, q4, q4, q4, q4, ());
let q6 : Int := (1 : Int);
∀ (x : List Sp.Inst × List Sp.Inst × Unit),
 let q7 : Nat := x.1.length;
 let q8 : Int := (↑q7 : Int);
 let q9 : Nat := x.2.1.length;
 let q10 : Bool := q8 != (↑q9 : Int);
 let q11 : Bool := Sp.eqIns x.1 x.2.1;
 let q12 : Prop := q0 /\ false = q11;
 let q13 : Int := (↑x.1.length : Int);
 let q14 : Prop := x.1 = x.1 /\ x.2.1 = x.2.1 /\ True;
 True ->
 aB aL.slice x.1 /\ aB aL.slice x.2.1 /\ True ->
 q0 /\
 ((True /\ True /\ q2) /\ True) /\
 (q10 = true -> q12) /\
 (q10 = false ->
 (q2 /\ True) /\
 (∃ (x_1 : Nat), (x_1 <= x.1.length /\ x.1.length = x.2.1.length /\ List.take x_1 x.1 = List.take x_1 x.2.1) /\ q3 = (↑x_1 : Int) /\ q8 = q13 /\ q14) /\
 ∀ (x_1 : Nat),
 let q15 : Bool := decide ((↑x_1 : Int) < q13);
 let q16 : Nat := (↑x_1 : Int).toNat;
 let q17 : Sp.Inst := x.1.getD q16 q5;
 let q18 : Sp.Inst := x.2.1.getD q16 q5;
 let q19 : Int × Int × Sp.Opd × Sp.Opd × Sp.Opd × Sp.Opd × Unit := q17.2;
 let q20 : Int × Int × Sp.Opd × Sp.Opd × Sp.Opd × Sp.Opd × Unit := q18.2;
 let q21 : Int × Sp.Opd × Sp.Opd × Sp.Opd × Sp.Opd × Unit := q19.2;
 let q22 : Int × Sp.Opd × Sp.Opd × Sp.Opd × Sp.Opd × Unit := q20.2;
 let q23 : Sp.Opd × Sp.Opd × Sp.Opd × Sp.Opd × Unit := q21.2;
 let q24 : Sp.Opd := q23.1;
 let q25 : Sp.Opd × Sp.Opd × Sp.Opd × Sp.Opd × Unit := q22.2;
 let q26 : Sp.Opd := q25.1;
 let q27 : Int × Int × Unit := q24.2;
 let q28 : Int × Int × Unit := q26.2;
 let q29 : Sp.Opd × Sp.Opd × Sp.Opd × Unit := q23.2;
 let q30 : Sp.Opd := q29.1;
 let q31 : Sp.Opd × Sp.Opd × Sp.Opd × Unit := q25.2;
 let q32 : Sp.Opd := q31.1;
 let q33 : Int × Int × Unit := q30.2;
 let q34 : Int × Int × Unit := q32.2;
 let q35 : Sp.Opd × Sp.Opd × Unit := q29.2;
 let q36 : Sp.Opd := q35.1;
 let q37 : Sp.Opd × Sp.Opd × Unit := q31.2;
 let q38 : Sp.Opd := q37.1;
 let q39 : Int × Int × Unit := q36.2;
 let q40 : Int × Int × Unit := q38.2;
 let q41 : Sp.Opd := q35.2.1;
 let q42 : Sp.Opd := q37.2.1;
 let q43 : Int × Int × Unit := q41.2;
 let q44 : Int × Int × Unit := q42.2;
 let q45 : Bool := !(decide (q17.1 = q18.1) && (decide (q19.1 = q20.1) && (decide (q21.1 = q22.1) && (decide (q24.1 = q26.1) && (decide (q27.1 = q28.1) && (decide (q27.2.1 = q28.2.1) && true)) && (decide (q30.1 = q32.1) && (decide (q33.1 = q34.1) && (decide (q33.2.1 = q34.2.1) && true)) && (decide (q36.1 = q38.1) && (decide (q39.1 = q40.1) && (decide (q39.2.1 = q40.2.1) && true)) && (decide (q41.1 = q42.1) && (decide (q43.1 = q44.1) && (decide (q43.2.1 = q44.2.1) && true)) && true)))))));
 let q46 : Int := (↑x_1 : Int) + q6;
 x_1 <= x.1.length /\ x.1.length = x.2.1.length /\ List.take x_1 x.1 = List.take x_1 x.2.1 -> aB tI (↑x_1 : Int) /\ aB tI q13 /\ True -> q0 /\ (q15 = true -> (q1 /\ True) /\ ((True /\ True /\ inN (↑x_1 : Int) q7 /\ True /\ True /\ True /\ inN (↑x_1 : Int) q9 /\ q1) /\ True) /\ (q45 = true -> q12) /\ (q45 = false -> ((inK IntKind.i64 q46 /\ True /\ True) /\ True) /\ ∃ (y : Nat), (y <= x.1.length /\ x.1.length = x.2.1.length /\ List.take y x.1 = List.take y x.2.1) /\ x.1.length - y < x.1.length - x_1 /\ q46 = (↑y : Int) /\ q13 = q13 /\ q14)) /\ (q15 = false -> q0 /\ true = q11))) := by kernel_rfl
theorem vc56 : (c9 C56 (cN C56) S56 L56 Try.f56) = (
let q0 : Prop := (True /\ True) /\ True;
∀ (x : List Sp.Arr × Unit),
 let q1 : Nat := x.1.length;
 q1 <= (5000 : Nat) -> aB cG.slice x.1 /\ True -> q0 /\ ((True /\ True /\ True) /\ True) /\ (x.1 = ([] : List cG.den) -> q0 /\ ([] : List cG.den) = x.1) /\ (True -> ((True /\ True /\ (↑((0 : Nat) + q1) : Int) <= maxNew /\ True) /\ True /\ True) /\ x.1 = x.1)) := by kernel_rfl
theorem vc57 : (c9 C57 (cN C57) S57 L57 Try.f57) = (
let q0 : Prop := (True /\ True) /\ True;
∀ (x : List Sp.Opd × Unit),
 let q1 : Nat := x.1.length;
 q1 <= (5000 : Nat) -> aB bF.slice x.1 /\ True -> q0 /\ ((True /\ True /\ True) /\ True) /\ (x.1 = ([] : List bF.den) -> q0 /\ ([] : List bF.den) = x.1) /\ (True -> ((True /\ True /\ (↑((0 : Nat) + q1) : Int) <= maxNew /\ True) /\ True /\ True) /\ x.1 = x.1)) := by kernel_rfl
theorem vc58 : (c9 C58 (cN C58) S58 L58 Try.f58) = (
let q0 : Prop := (True /\ True) /\ True;
∀ (x : List Sp.Block × Unit),
 let q1 : Nat := x.1.length;
 q1 <= (5000 : Nat) -> aB fY.slice x.1 /\ True -> q0 /\ ((True /\ True /\ True) /\ True) /\ (x.1 = ([] : List fY.den) -> q0 /\ ([] : List fY.den) = x.1) /\ (True -> ((True /\ True /\ (↑((0 : Nat) + q1) : Int) <= maxNew /\ True) /\ True /\ True) /\ x.1 = x.1)) := by kernel_rfl
theorem vc68 : (c9 C68 (cN C68) S68 L68 Try.f68) = (
let q0 : Prop := True /\ True /\ True;
let q1 : Prop := (True /\ q0) /\ True;
∀ (x : Sp.Opd × Unit),
 let q2 : Bool := x.1.1 != (2 : Int);
 True -> aB aQ x.1 /\ True -> (q0 /\ True) /\ q1 /\ (q2 = true -> ((True /\ True) /\ True) /\ (-1 : Int) = Sp.def0 x.1) /\ (q2 = false -> q1 /\ x.1.2.1 = Sp.def0 x.1)) := by kernel_rfl
theorem vc60 : (c9 C60 (cN C60) S60 L60 Try.f60) = (
let q0 : Prop := True /\ True /\ True;
∀ (x : Sp.Inst × Unit), True -> aB aL x.1 /\ True -> (q0 /\ True) /\ ((True /\ True /\ q0) /\ True) /\ Sp.def0 x.1.2.2.2.1 = Sp.defI x.1) := by kernel_rfl
theorem vc63 : (c9 C63 (cN C63) S63 L63 Try.f63) = (
let q0 : Prop := True /\ True /\ True;
let q1 : Prop := (True /\ True /\ q0) /\ True;
∀ (x : Sp.Inst × Unit),
 let q2 : Sp.Opd := x.1.2.2.2.1;
 let q3 : Bool := q2.1 == (2 : Int);
 True -> aB aL x.1 /\ True -> (q0 /\ True) /\ q1 /\ (q3 = true -> q1 /\ q2.2.1 = Sp.defI x.1) /\ (q3 = false -> ((True /\ True) /\ True) /\ (-1 : Int) = Sp.defI x.1)) := by kernel_rfl
theorem vc34 : (c9 C34 (cN C34) S34 L34 Try.f34) = (
let q0 : Prop := True /\ True /\ True;
∀ (x : Sp.Inst × Unit),
 let q1 : Bool := x.1.1 == (7 : Int);
 let q2 : Prop := (true && bif q1 then false else true) = true -> True;
 let q3 : Bool := bif q1 then true else x.1.1 == (8 : Int);
 let q4 : Prop := (true && bif q3 then false else true) = true -> True;
 True -> aB aL x.1 /\ True -> (q0 /\ True) /\ ((True /\ True /\ True /\ True /\ q2 /\ q2 /\ q2 /\ True /\ True /\ q4 /\ q4 /\ q4 /\ q0) /\ True) /\ (bif q3 then true else x.1.1 == (9 : Int)) = Sp.arrB x.1) := by kernel_rfl
theorem vc36 : (c9 C36 (cN C36) S36 L36 Try.f36) = (
let q0 : Prop := True /\ True /\ True;
∀ (x : Sp.Inst × Unit),
 let q1 : Bool := x.1.1 == (11 : Int);
 let q2 : Prop := (true && bif q1 then false else true) = true -> True;
 True -> aB aL x.1 /\ True -> (q0 /\ True) /\ ((True /\ True /\ True /\ True /\ q2 /\ q2 /\ q2 /\ q0) /\ True) /\ (bif q1 then true else x.1.1 == (12 : Int)) = Sp.sltB x.1) := by kernel_rfl
theorem vc37 : (c9 C37 (cN C37) S37 L37 Try.f37) = (
let q0 : Prop := True /\ True /\ True;
∀ (x : Sp.Inst × Unit),
 let q1 : Bool := x.1.1 == (10 : Int);
 let q2 : Prop := (true && bif q1 then false else true) = true -> True;
 True -> aB aL x.1 /\ True -> (q0 /\ True) /\ ((True /\ True /\ True /\ True /\ q2 /\ q2 /\ q2 /\ q0) /\ True) /\ (bif q1 then true else x.1.1 == (9 : Int)) = Sp.strB x.1) := by kernel_rfl
theorem vc35 : (c9 C35 (cN C35) S35 L35 Try.f35) = (
let q0 : Int := (0 : Int);
let q1 : Prop := True /\ True /\ True;
∀ (x : Sp.Code × Sp.Inst × Unit),
 let q2 : Bool := true && bif Sp.strB x.2.1 then false else true;
 let q3 : Prop := q2 = true -> True;
 let q4 : Prop := (q2 && bif Sp.arrB x.2.1 then true else false) = true;
 let q5 : Prop := q4 -> True;
 let q6 : Int := x.2.1.2.2.1;
 let q7 : List Sp.Arr := x.1.2.2.2.2.2.1;
 (Sp.opI x.2.1 = (7 : Int) ∨ Sp.opI x.2.1 = (8 : Int) ∨ Sp.opI x.2.1 = (9 : Int) -> q0 <= Sp.nI x.2.1 /\ Sp.nI x.2.1 < (↑(Sp.cA x.1).length : Int)) -> aB bT x.1 /\ aB aL x.2.1 /\ True -> ((True /\ q1) /\ True) /\ ((True /\ True /\ True /\ q3 /\ q3 /\ q3 /\ q5 /\ q5 /\ q5 /\ q5 /\ (q4 -> inN q6 q7.length) /\ q5 /\ q5 /\ q5 /\ q3 /\ q1) /\ True) /\ (bif Sp.strB x.2.1 then true else bif Sp.arrB x.2.1 then (q7.getD q6.toNat (([] : List UInt8), q0, q0, q0, ())).2.1 != (3 : Int) else false) = Sp.visB x.1 x.2.1) := by kernel_rfl
theorem vc75 : (c9 C75 (cN C75) S75 L75 Try.f75) = (
let q0 : Prop := (True /\ True) /\ True;
let q1 : Prop := True /\ True /\ True;
let q2 : Int := (0 : Int);
let q3 : Int := (1 : Int);
∀ (x : List Int × Int × Unit),
 let q4 : Nat := x.1.length;
 let q5 : Bool := Sp.mem x.1 x.2.1;
 let q6 : List Int := Sp.addN x.1 x.2.1;
 let q7 : Prop := x.1 = x.1 /\ x.2.1 = x.2.1 /\ True;
 let q8 : Int := (↑q4 : Int);
 let q9 : List Int := x.2.1 :: ([] : List tI.den);
 q4 <= (5000 : Nat) ->
 aB tI.slice x.1 /\ aB tI x.2.1 /\ True ->
 q0 /\
 ((True /\ q1) /\ True) /\
 (q5 = true -> (q1 /\ True) /\ x.1 = q6) /\
 (q5 = false ->
 q0 /\
 (∃ (x_1 : Nat), x_1 <= (List.takeWhile (fun (v : (AK.val tI).den) => decide (v < x.2.1)) x.1).length /\ q2 = (↑x_1 : Int) /\ q7) /\
 ∀ (x_1 : Nat),
 let q10 : Bool := decide ((↑x_1 : Int) < q8);
 let q11 : Prop := (true && bif q10 then true else false) = true;
 let q12 : Prop := q11 -> True;
 let q13 : Bool := bif q10 then decide (x.1.getD (↑x_1 : Int).toNat q2 < x.2.1) else false;
 let q14 : Int := (↑x_1 : Int) + q3;
 let q15 : List Int := win q2 (↑x_1 : Int) x.1;
 let q16 : Nat := q15.length;
 let q17 : List Int := q15 ++ q9;
 let q18 : List Int := win (↑x_1 : Int) q8 x.1;
 x_1 <= (List.takeWhile (fun (v : (AK.val tI).den) => decide (v < x.2.1)) x.1).length -> aB tI (↑x_1 : Int) /\ True -> ((True /\ True /\ True /\ True /\ True /\ q12 /\ q12 /\ (q11 -> inN (↑x_1 : Int) q4) /\ q12 /\ q12 /\ q12 /\ True /\ True) /\ True) /\ (q13 = true -> ((True /\ inK IntKind.i64 q14 /\ True /\ True) /\ True) /\ ∃ (y : Nat), y <= (List.takeWhile (fun (v : (AK.val tI).den) => decide (v < x.2.1)) x.1).length /\ q4 - y < q4 - x_1 /\ q14 = (↑y : Int) /\ q7) /\ (q13 = false -> ((True /\ True /\ True /\ winI q2 (↑x_1 : Int) q4 /\ (↑((0 : Nat) + q16) : Int) <= maxNew /\ True /\ True /\ (↑(q16 + q9.length) : Int) <= maxNew /\ True /\ True /\ winI (↑x_1 : Int) q8 q4 /\ (↑(q17.length + q18.length) : Int) <= maxNew /\ True) /\ True /\ True) /\ q17 ++ q18 = q6))) := by kernel_rfl
theorem vc71 : (c9 C71 (cN C71) S71 L71 Try.f71) = (
let q0 : Prop := (True /\ True) /\ True;
let q1 : Prop := True /\ True /\ True;
let q2 : Prop := q1 /\ True;
let q3 : Int := (0 : Int);
let q4 : Prop := True /\ q1;
let q5 : Sp.Opd := (q3, q3, q3, ());
let q6 : Int := (1 : Int);
∀ (x : List Sp.Opd × Unit),
 let q7 : Nat := x.1.length;
 let q8 : List Int := Sp.regL x.1 (([] : List Int));
 let q9 : Prop := x.1 = x.1 /\ True;
 q7 <= (1000 : Nat) ->
 aB aQ.slice x.1 /\ True ->
 q0 /\
 q2 /\
 q0 /\
 (∃ (x_1 : Nat × List Int), (x_1.1 <= q7 /\ x_1.2.length <= x_1.1 /\ Sp.regL (List.drop x_1.1 x.1) x_1.2 = q8) /\ ([] : List tI.den) = x_1.2 /\ q3 = (↑x_1.1 : Int) /\ q9) /\
 ∀ (x_1 : Nat × List Int),
 let q10 : Int := (↑x_1.1 : Int);
 let q11 : Bool := decide (q10 < (↑q7 : Int));
 let q12 : Prop := inN q10 q7;
 let q13 : Sp.Opd := x.1.getD q10.toNat q5;
 let q14 : Bool := q13.1 == (2 : Int);
 let q15 : Int := q10 + q6;
 let q16 : Prop := (True /\ inK IntKind.i64 q15 /\ True /\ True) /\ True;
 x_1.1 <= q7 /\ x_1.2.length <= x_1.1 /\ Sp.regL (List.drop x_1.1 x.1) x_1.2 = q8 -> aB tI.slice x_1.2 /\ aB tI q10 /\ True -> ((True /\ q4) /\ True) /\ (q11 = true -> ((True /\ True /\ q12 /\ q4) /\ True) /\ (q14 = true -> ((True /\ True /\ True /\ q12 /\ True /\ True /\ x_1.2.length <= (5000 : Nat) /\ True /\ True) /\ True) /\ q16 /\ ∃ (y : Nat × List Int), (y.1 <= q7 /\ y.2.length <= y.1 /\ Sp.regL (List.drop y.1 x.1) y.2 = q8) /\ q7 - y.1 < q7 - x_1.1 /\ Sp.addN x_1.2 q13.2.1 = y.2 /\ q15 = (↑y.1 : Int) /\ q9) /\ (q14 = false -> q16 /\ ∃ (y : Nat × List Int), (y.1 <= q7 /\ y.2.length <= y.1 /\ Sp.regL (List.drop y.1 x.1) y.2 = q8) /\ q7 - y.1 < q7 - x_1.1 /\ x_1.2 = y.2 /\ q15 = (↑y.1 : Int) /\ q9)) /\ (q11 = false -> q2 /\ x_1.2 = q8)) := by kernel_rfl
theorem vc64 : (c9 C64 (cN C64) S64 L64 Try.f64) = (
∀ (x : Sp.Inst × Unit),
 let q0 : Sp.Opd × Sp.Opd × Sp.Opd × Unit := x.1.2.2.2.2;
 let q1 : Sp.Opd × Sp.Opd × Unit := q0.2;
 let q2 : List Sp.Opd := q0.1 :: q1.1 :: q1.2.1 :: ([] : List aQ.den);
 True -> aB aL x.1 /\ True -> ((True /\ True /\ True) /\ True) /\ ((True /\ True /\ True /\ True /\ True /\ True /\ True /\ q2.length <= (1000 : Nat) /\ True /\ True) /\ True) /\ Sp.regL q2 (([] : List Int)) = Sp.useI x.1) := by kernel_rfl
theorem vc33 : (c9 C33 (cN C33) S33 L33 Try.f33) = (
let q0 : Prop := True /\ True /\ True;
let q1 : Prop := (True /\ q0) /\ True;
∀ (x : Sp.Inst × Sp.Inst × Unit),
 let q2 : Bool := decide (Sp.defI x.1 ≥ (0 : Int));
 let q3 : Bool := true && bif q2 then true else false;
 let q4 : Prop := q3 = true -> True;
 let q5 : Bool := Sp.defI x.2.1 == Sp.defI x.1;
 let q6 : Prop := (q3 && bif q5 then false else true) = true -> True;
 True -> aB aL x.1 /\ aB aL x.2.1 /\ True -> q1 /\ q1 /\ ((True /\ True /\ True /\ q4 /\ q4 /\ q4 /\ q4 /\ q4 /\ q6 /\ q6 /\ q6 /\ q6 /\ q4 /\ q0) /\ True) /\ (bif q2 then bif q5 then true else Sp.mem (Sp.useI x.2.1) (Sp.defI x.1) else false) = Sp.hitB x.1 x.2.1) := by kernel_rfl
theorem vc15 : (c9 C15 (cN C15) S15 L15 Try.f15) = (
let q0 : Int := (7 : Int);
let q1 : Int := (8 : Int);
let q2 : Int := (9 : Int);
let q3 : Int := (0 : Int);
let q4 : Prop := True /\ True /\ True;
let q5 : Prop := (True /\ True) /\ True;
let q6 : Int := (11 : Int);
∀ (x : Sp.Code × Sp.Inst × Sp.Inst × Unit),
 let q7 : Int := (↑(Sp.cA x.1).length : Int);
 let q8 : Prop := Sp.opI x.2.1 = q0 ∨ Sp.opI x.2.1 = q1 ∨ Sp.opI x.2.1 = q2 -> q3 <= Sp.nI x.2.1 /\ Sp.nI x.2.1 < q7;
 let q9 : Int := Sp.opI x.2.2.1;
 let q10 : Int := Sp.nI x.2.2.1;
 let q11 : Prop := q9 = q0 ∨ q9 = q1 ∨ q9 = q2 -> q3 <= q10 /\ q10 < q7;
 let q12 : Bool := Sp.hitB x.2.1 x.2.2.1;
 let q13 : Prop := (true && bif q12 then false else true) = true -> True;
 let q14 : Bool := bif q12 then true else Sp.hitB x.2.2.1 x.2.1;
 let q15 : Bool := Sp.bM x.1 x.2.1 x.2.2.1;
 let q16 : Prop := q5 /\ true = q15;
 let q17 : Prop := (true && bif Sp.arrB x.2.1 then true else false) = true -> True;
 let q18 : Bool := bif Sp.arrB x.2.1 then Sp.arrB x.2.2.1 else false;
 let q19 : Prop := (true && bif q18 then true else false) = true -> True;
 let q20 : Bool := x.2.1.2.2.1 == x.2.2.1.2.2.1;
 let q21 : Bool := bif q18 then q20 else false;
 let q22 : Bool := true && bif q21 then true else false;
 let q23 : Prop := q22 = true -> True;
 let q24 : Bool := x.2.1.1 != q0;
 let q25 : Prop := (q22 && bif q24 then false else true) = true -> True;
 let q26 : Bool := bif q24 then true else x.2.2.1.1 != q0;
 let q27 : Prop := (q22 && bif q26 then false else true) = true;
 let q28 : Prop := q27 -> True;
 let q29 : Bool := Sp.visB x.1 x.2.1;
 let q30 : Bool := bif q21 then bif q26 then true else q29 else false;
 let q31 : Prop := (true && bif Sp.sltB x.2.1 then true else false) = true -> True;
 let q32 : Bool := bif Sp.sltB x.2.1 then Sp.sltB x.2.2.1 else false;
 let q33 : Prop := (true && bif q32 then true else false) = true -> True;
 let q34 : Bool := bif q32 then q20 else false;
 let q35 : Bool := true && bif q34 then true else false;
 let q36 : Prop := q35 = true -> True;
 let q37 : Bool := x.2.1.1 != q6;
 let q38 : Prop := (q35 && bif q37 then false else true) = true -> True;
 let q39 : Bool := bif q34 then bif q37 then true else x.2.2.1.1 != q6 else false;
 let q40 : Prop := (true && bif Sp.strB x.2.1 then true else false) = true;
 let q41 : Prop := q40 -> True;
 let q42 : Bool := bif Sp.strB x.2.1 then Sp.visB x.1 x.2.2.1 else false;
 let q43 : Bool := true && bif q42 then false else true;
 let q44 : Prop := q43 = true -> True;
 let q45 : Bool := Sp.strB x.2.2.1;
 let q46 : Prop := (q43 && bif q45 then true else false) = true;
 let q47 : Prop := q46 -> True;
 q8 /\ q11 -> aB bT x.1 /\ aB aL x.2.1 /\ aB aL x.2.2.1 /\ True -> ((True /\ True /\ q4) /\ True) /\ ((True /\ True /\ True /\ True /\ q13 /\ q13 /\ q13 /\ True /\ True) /\ True) /\ (q14 = true -> q16) /\ (q14 = false -> ((True /\ True /\ True /\ q17 /\ q17 /\ True /\ True /\ q19 /\ q19 /\ q19 /\ q19 /\ q19 /\ True /\ True /\ q23 /\ q23 /\ q23 /\ q23 /\ q25 /\ q25 /\ q25 /\ q23 /\ q23 /\ q28 /\ q28 /\ (q27 -> q8) /\ q23 /\ True /\ True) /\ True) /\ (q30 = true -> q16) /\ (q30 = false -> ((True /\ True /\ True /\ q31 /\ q31 /\ True /\ True /\ q33 /\ q33 /\ q33 /\ q33 /\ q33 /\ True /\ True /\ q36 /\ q36 /\ q36 /\ q36 /\ q38 /\ q38 /\ q38 /\ q36 /\ True /\ True) /\ True) /\ (q39 = true -> q16) /\ (q39 = false -> ((True /\ True /\ True /\ q41 /\ q41 /\ (q40 -> q11) /\ True /\ True /\ q44 /\ q44 /\ q44 /\ q47 /\ q47 /\ (q46 -> q8) /\ q44 /\ q4) /\ True) /\ (bif q42 then true else bif q45 then q29 else false) = q15)))) := by kernel_rfl
theorem vc62 : (c9 C62 (cN C62) S62 L62 Try.f62) = (
∀ (x : Sp.Inst × Unit),
 let q0 : Sp.Opd × Sp.Opd × Sp.Opd × Unit := x.1.2.2.2.2;
 let q1 : Sp.Opd × Sp.Opd × Unit := q0.2;
 let q2 : List Sp.Opd := q0.1 :: q1.1 :: q1.2.1 :: ([] : List aQ.den);
 True -> aB aL x.1 /\ True -> ((True /\ True /\ True) /\ True) /\ ((True /\ True /\ True /\ True /\ True /\ True /\ True /\ q2.length <= (3 : Nat) /\ True /\ True) /\ True) /\ Sp.regL q2 (([] : List Int)) = Sp.useI x.1) := by kernel_rfl
theorem vc32 : (c9 C32 (cN C32) S32 L32 Try.f32) = (
let q0 : Prop := True /\ True /\ True;
let q1 : Prop := (True /\ q0) /\ True;
∀ (x : Sp.Inst × Sp.Inst × Unit),
 let q2 : Bool := decide (Sp.defI x.1 ≥ (0 : Int));
 let q3 : Bool := true && bif q2 then true else false;
 let q4 : Prop := q3 = true -> True;
 let q5 : Bool := Sp.defI x.2.1 == Sp.defI x.1;
 let q6 : Prop := (q3 && bif q5 then false else true) = true -> True;
 True -> aB aL x.1 /\ aB aL x.2.1 /\ True -> q1 /\ q1 /\ ((True /\ True /\ True /\ q4 /\ q4 /\ q4 /\ q4 /\ q4 /\ q6 /\ q6 /\ q6 /\ q6 /\ q4 /\ q0) /\ True) /\ (bif q2 then bif q5 then true else Sp.mem (Sp.useI x.2.1) (Sp.defI x.1) else false) = Sp.hitB x.1 x.2.1) := by kernel_rfl
theorem vc31 : (c9 C31 (cN C31) S31 L31 Try.f31) = (
let q0 : Int := (7 : Int);
let q1 : Int := (8 : Int);
let q2 : Int := (9 : Int);
let q3 : Int := (0 : Int);
let q4 : Prop := True /\ True /\ True;
let q5 : Prop := True /\ q4;
let q6 : Prop := q4 /\ True;
let q7 : Prop := True /\ q5;
let q8 : Prop := True /\ True /\ q7;
let q9 : Prop := True /\ True /\ True /\ q8;
let q10 : Nat := (3 : Nat);
let q11 : Prop := q10 = q10;
let q12 : List Step := Step.fst :: ([] : List Step);
let q13 : List Step := Step.snd :: q12;
let q14 : List Step := Step.snd :: q13;
let q15 : Prop := q14 = q14;
let q16 : Prop := q11 /\ q15;
let q17 : Prop := True /\ q16;
let q18 : Prop := q12 = q12;
let q19 : Prop := q11 /\ q18;
let q20 : Prop := True /\ q19;
let q21 : Nat := (5 : Nat);
let q22 : Prop := q21 = q21;
let q23 : Prop := (True /\ q22 /\ q18) /\ True;
let q24 : Prop := (True /\ q22 /\ q15) /\ True;
let q25 : List Step := Step.snd :: q14;
let q26 : Prop := (True /\ q22 /\ q25 = q25) /\ True;
let q27 : Prop := (True /\ True) /\ True /\ True;
let q28 : Int := (-1 : Int);
let q29 : Sp.Arr := (([] : List UInt8), q3, q3, q3, ());
let q30 : Int := (3 : Int);
let q31 : Int := (11 : Int);
let q32 : Prop := (q22 /\ q13 = q13) /\ True;
let q33 : Bool × Bool × Unit := (false, false, ());
let q34 : Int := (10 : Int);
let q35 : Prop := (True /\ True) /\ q5;
let q36 : Int × Int × Bool × Bool × Bool × Unit := (q28, q28, false, true, true, ());
let q37 : Int × Int × Bool × Bool × Bool × Unit := (q28, q28, false, q33);
let q38 : Int := (12 : Int);
∀ (x : Sp.Code × Sp.Inst × Unit),
 let q39 : Bool := x.2.1.1 == q0;
 let q40 : Prop := q39 = true;
 let q41 : Int := x.2.1.2.2.1;
 let q42 : Prop := q41 = q41;
 let q43 : Prop := x.2.1.1 = x.2.1.1;
 let q44 : Prop := True /\ q43;
 let q45 : Prop := True /\ q39 = q39;
 let q46 : Bool := x.2.1.1 == q2;
 let q47 : Prop := True /\ q46 = q46;
 let q48 : List Sp.Arr := x.1.2.2.2.2.2.1;
 let q49 : Int × Int × Bool × Bool × Bool × Unit := Sp.accI x.1 x.2.1;
 let q50 : Prop := q9 /\ (q17 /\ (True /\ q42) /\ q20 /\ q44 /\ q45 /\ q20 /\ q44 /\ q47 /\ q23) /\ (True /\ (True /\ True) /\ (q20 /\ q44 /\ q45 /\ q20 /\ q44 /\ q47 /\ q24) /\ (True /\ (True /\ True) /\ (q20 /\ q44 /\ q47 /\ q26) /\ (True /\ True /\ True /\ ((True /\ True /\ True /\ True /\ inN q41 q48.length /\ q7) /\ True /\ True) /\ q27 /\ (q41, q28, q39, q46, (q48.getD q41.toNat q29).2.1 != q30, ()) = q49) /\ True) /\ True /\ True) /\ q4;
 let q51 : Prop := q39 = false;
 let q52 : Bool := x.2.1.1 == q31;
 let q53 : Prop := q52 = true;
 let q54 : Prop := ((q8 /\ q8 /\ q16 /\ q42 /\ q19 /\ q43 /\ q52 = q52 /\ q32) /\ q4) /\ q27 /\ (q28, q41, q52, q33) = q49;
 let q55 : Prop := q52 = false;
 let q56 : Bool := x.2.1.1 == q34;
 let q57 : Prop := q6 /\ (q56 = true -> q35 /\ q27 /\ q36 = q49) /\ (q56 = false -> q27 /\ q37 = q49);
 let q58 : Bool := x.2.1.1 == q38;
 let q59 : Prop := q6 /\ (q53 -> (q53 -> q54) /\ (q55 -> q57)) /\ (q55 -> q6 /\ (q58 = true -> q54) /\ (q58 = false -> q57));
 let q60 : Bool := x.2.1.1 == q1;
 let q61 : Prop := q60 = true;
 let q62 : Prop := q60 = false;
 (Sp.opI x.2.1 = q0 ∨ Sp.opI x.2.1 = q1 ∨ Sp.opI x.2.1 = q2 -> q3 <= Sp.nI x.2.1 /\ Sp.nI x.2.1 < (↑(Sp.cA x.1).length : Int)) -> aB bT x.1 /\ aB aL x.2.1 /\ True -> (q5 /\ True) /\ (q4 /\ True /\ True) /\ q6 /\ q6 /\ (q40 -> (q40 -> q50) /\ (q51 -> q59)) /\ (q51 -> q6 /\ (q61 -> (q61 -> q50) /\ (q62 -> q59)) /\ (q62 -> q6 /\ (q46 = true -> q50) /\ (q46 = false -> q59)))) := by kernel_rfl
theorem vc14 : (c9 C14 (cN C14) S14 L14 Try.f14) = (
let q0 : Int := (7 : Int);
let q1 : Int := (8 : Int);
let q2 : Int := (9 : Int);
let q3 : Int := (0 : Int);
let q4 : Prop := True /\ True /\ True;
∀ (x : Sp.Code × Sp.Inst × Sp.Inst × Unit),
 let q5 : Int := (↑(Sp.cA x.1).length : Int);
 let q6 : Prop := Sp.opI x.2.1 = q0 ∨ Sp.opI x.2.1 = q1 ∨ Sp.opI x.2.1 = q2 -> q3 <= Sp.nI x.2.1 /\ Sp.nI x.2.1 < q5;
 let q7 : Int := Sp.opI x.2.2.1;
 let q8 : Int := Sp.nI x.2.2.1;
 let q9 : Prop := q7 = q0 ∨ q7 = q1 ∨ q7 = q2 -> q3 <= q8 /\ q8 < q5;
 let q10 : Int × Int × Bool × Bool × Bool × Unit := Sp.accI x.1 x.2.1;
 let q11 : Int := q10.1;
 let q12 : Bool := decide (q11 ≥ q3);
 let q13 : Prop := (true && bif q12 then true else false) = true -> True;
 let q14 : Int × Int × Bool × Bool × Bool × Unit := Sp.accI x.1 x.2.2.1;
 let q15 : Bool := bif q12 then q11 == q14.1 else false;
 let q16 : Bool := true && bif q15 then false else true;
 let q17 : Prop := q16 = true -> True;
 let q18 : Int × Bool × Bool × Bool × Unit := q10.2;
 let q19 : Int := q18.1;
 let q20 : Bool := decide (q19 ≥ q3);
 let q21 : Prop := (q16 && bif q20 then true else false) = true -> True;
 let q22 : Bool := Sp.hitB x.2.1 x.2.2.1;
 let q23 : Prop := (true && bif q22 then false else true) = true -> True;
 let q24 : Bool := bif q22 then true else Sp.hitB x.2.2.1 x.2.1;
 let q25 : Bool := true && bif q24 then false else true;
 let q26 : Prop := q25 = true -> True;
 let q27 : Int × Bool × Bool × Bool × Unit := q14.2;
 let q28 : Bool := bif q15 then true else bif q20 then q19 == q27.1 else false;
 let q29 : Bool := q25 && bif q28 then true else false;
 let q30 : Prop := q29 = true -> True;
 let q31 : Bool × Bool × Bool × Unit := q18.2;
 let q32 : Bool × Bool × Unit := q31.2;
 let q33 : Bool := q32.2.1;
 let q34 : Prop := (q29 && bif q33 then false else true) = true -> True;
 let q35 : Bool := bif q33 then true else !q31.1;
 let q36 : Prop := (q29 && bif q35 then false else true) = true -> True;
 let q37 : Bool × Bool × Bool × Unit := q27.2;
 let q38 : Bool := bif q24 then true else bif q28 then bif q35 then true else !q37.1 else false;
 let q39 : Bool := true && bif q38 then false else true;
 let q40 : Prop := q39 = true -> True;
 let q41 : Bool := q32.1;
 let q42 : Prop := (q39 && bif q41 then true else false) = true -> True;
 let q43 : Bool × Bool × Unit := q37.2;
 let q44 : Bool := bif q38 then true else bif q41 then q43.2.1 else false;
 let q45 : Bool := true && bif q44 then false else true;
 let q46 : Prop := q45 = true -> True;
 let q47 : Bool := q43.1;
 let q48 : Prop := (q45 && bif q47 then true else false) = true -> True;
 q6 /\ q9 -> aB bT x.1 /\ aB aL x.2.1 /\ aB aL x.2.2.1 /\ True -> ((True /\ True /\ q4) /\ True) /\ ((True /\ True /\ q6 /\ True /\ True /\ q9 /\ q4) /\ q4) /\ ((True /\ True /\ True /\ True /\ q13 /\ q13 /\ q13 /\ q13 /\ q13 /\ True /\ True /\ q17 /\ q17 /\ q17 /\ q17 /\ q21 /\ q21 /\ q21 /\ q21 /\ q21 /\ q17 /\ q4) /\ True) /\ ((True /\ True /\ True /\ True /\ q23 /\ q23 /\ q23 /\ True /\ True /\ q26 /\ q26 /\ q30 /\ q30 /\ q30 /\ q34 /\ q34 /\ q34 /\ q30 /\ q30 /\ q36 /\ q36 /\ q36 /\ q30 /\ q26 /\ True /\ True /\ q40 /\ q40 /\ q40 /\ q42 /\ q42 /\ q40 /\ True /\ True /\ q46 /\ q46 /\ q46 /\ q48 /\ q48 /\ q46 /\ q4) /\ True) /\ (bif q44 then true else bif q47 then q33 else false) = Sp.aY x.1 x.2.1 x.2.2.1) := by kernel_rfl
end Go.User
namespace Sp
theorem gB {α : Type} {a b : List α} {i : Nat} {d : α} (hi : (i : Int) < (a.length : Int)) (hl : a.length = b.length) (h : a.take i = b.take i) (e : a.getD i d = b.getD i d) : a.take (i + 1) = b.take (i + 1) := by
 have h1 : i < a.length := by omega
 have h2 : i < b.length := by omega
 rw [List.take_add_one, List.take_add_one, h]
 rw [List.getD_eq_getElem?_getD, List.getD_eq_getElem?_getD, List.getElem?_eq_getElem h1, List.getElem?_eq_getElem h2] at e
 rw [List.getElem?_eq_getElem h1, List.getElem?_eq_getElem h2]
 simp only [Option.getD_some] at e
 rw [e]
theorem eqL_end {α : Type} {a b : List α} {i : Nat} (hi : (a.length : Int) <= (i : Int)) (hl : a.length = b.length) (h : a.take i = b.take i) : a = b := by
 rwa [List.take_of_length_le (by omega), List.take_of_length_le (by omega)] at h
theorem eF {a b : Opd} (h1 : a.1 = b.1) (h2 : a.2.1 = b.2.1) (h3 : a.2.2.1 = b.2.2.1) : a = b := by
 obtain ⟨a1, a2, a3, _⟩ := a
 obtain ⟨b1, b2, b3, _⟩ := b
 dsimp only at h1 h2 h3
 rw [h1, h2, h3]
theorem inst_ext {a b : Inst} (h1 : a.1 = b.1) (h2 : a.2.1 = b.2.1) (h3 : a.2.2.1 = b.2.2.1) (h4 : a.2.2.2.1 = b.2.2.2.1) (h5 : a.2.2.2.2.1 = b.2.2.2.2.1) (h6 : a.2.2.2.2.2.1 = b.2.2.2.2.2.1) (h7 : a.2.2.2.2.2.2.1 = b.2.2.2.2.2.2.1) : a = b := by
 obtain ⟨a1, a2, a3, a4, a5, a6, a7, _⟩ := a
 obtain ⟨b1, b2, b3, b4, b5, b6, b7, _⟩ := b
 dsimp only at h1 h2 h3 h4 h5 h6 h7
 rw [h1, h2, h3, h4, h5, h6, h7]
theorem term_ext {a b : Term} (h1 : a.1 = b.1) (h2 : a.2.1 = b.2.1) (h3 : a.2.2.1 = b.2.2.1) (h4 : a.2.2.2.1 = b.2.2.2.1) (h5 : a.2.2.2.2.1 = b.2.2.2.2.1) (h6 : a.2.2.2.2.2.1 = b.2.2.2.2.2.1) : a = b := by
 obtain ⟨a1, a2, a3, a4, a5, a6, _⟩ := a
 obtain ⟨b1, b2, b3, b4, b5, b6, _⟩ := b
 dsimp only at h1 h2 h3 h4 h5 h6
 rw [h1, h2, h3, h4, h5, h6]
theorem arr_ext {a b : Arr} (h1 : a.1 = b.1) (h2 : a.2.1 = b.2.1) (h3 : a.2.2.1 = b.2.2.1) (h4 : a.2.2.2.1 = b.2.2.2.1) : a = b := by
 obtain ⟨a1, a2, a3, a4, _⟩ := a
 obtain ⟨b1, b2, b3, b4, _⟩ := b
 dsimp only at h1 h2 h3 h4
 rw [h1, h2, h3, h4]
theorem loop_ext {a b : Loop} (h1 : a.1 = b.1) (h2 : a.2.1 = b.2.1) (h3 : a.2.2.1 = b.2.2.1) : a = b := eF h1 h2 h3
theorem eqBlk_iff (a b : Block) : eqBlk a b = true ↔ a = b := by unfold eqBlk; exact @decide_eq_true_iff _ (Classical.propDecidable _)
theorem eqCode_iff (a b : Code) : gC a b = true ↔ a = b := by unfold gC; exact @decide_eq_true_iff _ (Classical.propDecidable _)
theorem eqIns_iff (a b : List Inst) : eqIns a b = true ↔ a = b := by unfold eqIns; exact @decide_eq_true_iff _ (Classical.propDecidable _)
theorem eqOrd_iff (a b : List (List Int) × Unit) : eqOrd a b = true ↔ a = b := decide_eq_true_iff
theorem eqArrs_iff (a b : List Arr) : eqArrs a b = true ↔ a = b := decide_eq_true_iff
theorem eqLps_iff (a b : List Loop) : eqLps a b = true ↔ a = b := decide_eq_true_iff
theorem eqInt_iff (a b : List Int) : eqInt a b = true ↔ a = b := decide_eq_true_iff
theorem mem_iff (l : List Int) (n : Int) : mem l n = true ↔ n ∈ l := decide_eq_true_iff
theorem fR (a b : Code) : headB a b = true ↔ a.1 = b.1 /\ a.2.1 = b.2.1 /\ a.2.2.1 = b.2.2.1 /\ a.2.2.2.1 = b.2.2.2.1 /\ a.2.2.2.2.1 = b.2.2.2.2.1 /\ cA a = cA b /\ cL a = cL b := by
 unfold headB
 simp only [Bool.and_eq_true, decide_eq_true_iff, and_assoc]
theorem code_ext {a b : Code} (h : headB a b = true) (hB : cB a = cB b) : a = b := by
 obtain ⟨h1, h2, h3, h4, h5, h6, h7⟩ := (fR a b).1 h
 obtain ⟨a1, a2, a3, a4, a5, a6, a7, a8, _⟩ := a
 obtain ⟨b1, b2, b3, b4, b5, b6, b7, b8, _⟩ := b
 unfold cA at h6; unfold cL at h7; unfold cB at hB
 dsimp only at h1 h2 h3 h4 h5 h6 h7 hB
 rw [h1, h2, h3, h4, h5, h6, h7, hB]
theorem eX {b : Bool} (h : ¬ b = true) : false = b := by cases b <;> simp at h ⊢
theorem tr_of {b : Bool} (h : b = true) : true = b := h.symm
end Sp
namespace Go.User
open Go.Lf Go.Proofs
theorem ok26 : FOk Try.prog 26 S26 := by
 have hC : aF Try.prog C26 := okA aO
 refine FOk.intro hC (aR hC) Try.call26 Try.func26 (by kernel_rfl) (by kernel_rfl) L26 ?_
 rw [vc26]
 simp only [zz, zy]
 rintro ⟨a, b, u⟩ ⟨ha, hb⟩
 dsimp only
 refine ⟨fun h => Sp.eX fun e => h (by rw [(Sp.eqInt_iff a b).1 e]), fun h => ⟨⟨0, ⟨Nat.zero_le _, by have : (List.length a : Int) = (List.length b : Int) := h; omega, rfl⟩, rfl⟩, ?_⟩⟩
 intro i hi _
 obtain ⟨h1, h2, h3⟩ := hi
 refine ⟨fun hlt => ⟨⟨bB hlt, bB (by rw [<- h2]; exact hlt)⟩, fun c => Sp.eX fun e => c (by rw [(Sp.eqInt_iff a b).1 e]), fun c => ⟨d9 hlt ha.1, i + 1, ⟨by have : (i : Int) < (List.length a : Int) := hlt; omega, h2, Sp.gB hlt h2 h3 c⟩, by have : (i : Int) < (List.length a : Int) := hlt; omega, rfl⟩⟩, fun hge => Sp.tr_of ((Sp.eqInt_iff a b).2 (Sp.eqL_end hge h2 h3))⟩
theorem ok39 : FOk Try.prog 39 S39 := by
 have hC : aF Try.prog C39 := okA aO
 refine FOk.intro hC (aR hC) Try.call39 Try.func39 (by kernel_rfl) (by kernel_rfl) L39 ?_
 rw [vc39]
 simp only [zz, zy]
 rintro ⟨a, b, u⟩ ⟨ha, hb⟩
 dsimp only
 refine ⟨fun h => Sp.eX fun e => h (by rw [(Sp.eqArrs_iff a b).1 e]), fun h => ⟨⟨0, ⟨Nat.zero_le _, by have : (List.length a : Int) = (List.length b : Int) := h; omega, rfl⟩, rfl⟩, ?_⟩⟩
 intro i hi _
 obtain ⟨h1, h2, h3⟩ := hi
 refine ⟨fun hlt => ⟨⟨bB hlt, bB (by rw [<- h2]; exact hlt)⟩, fun c => Sp.eX fun e => ?_, fun c => ⟨d9 hlt ha.1, i + 1, ⟨by have : (i : Int) < (List.length a : Int) := hlt; omega, h2, Sp.gB hlt h2 h3 (Sp.arr_ext c.1 c.2.1 c.2.2.1 c.2.2.2)⟩, by have : (i : Int) < (List.length a : Int) := hlt; omega, rfl⟩⟩, fun hge => Sp.tr_of ((Sp.eqArrs_iff a b).2 (Sp.eqL_end hge h2 h3))⟩
 have e := (Sp.eqArrs_iff a b).1 e
 subst e
 simp at c
theorem ok40 : FOk Try.prog 40 S40 := by
 have hC : aF Try.prog C40 := okA aO
 refine FOk.intro hC (aR hC) Try.call40 Try.func40 (by kernel_rfl) (by kernel_rfl) L40 ?_
 rw [vc40]
 simp only [zz, zy]
 rintro ⟨a, b, u⟩ ⟨ha, hb⟩
 dsimp only
 refine ⟨fun h => Sp.eX fun e => h (by rw [(Sp.eqLps_iff a b).1 e]), fun h => ⟨⟨0, ⟨Nat.zero_le _, by have : (List.length a : Int) = (List.length b : Int) := h; omega, rfl⟩, rfl⟩, ?_⟩⟩
 intro i hi _
 obtain ⟨h1, h2, h3⟩ := hi
 refine ⟨fun hlt => ⟨⟨bB hlt, bB (by rw [<- h2]; exact hlt)⟩, fun c => Sp.eX fun e => ?_, fun c => ⟨d9 hlt ha.1, i + 1, ⟨by have : (i : Int) < (List.length a : Int) := hlt; omega, h2, Sp.gB hlt h2 h3 (Sp.loop_ext c.1 c.2.1 c.2.2)⟩, by have : (i : Int) < (List.length a : Int) := hlt; omega, rfl⟩⟩, fun hge => Sp.tr_of ((Sp.eqLps_iff a b).2 (Sp.eqL_end hge h2 h3))⟩
 have e := (Sp.eqLps_iff a b).1 e
 subst e
 simp at c
theorem ok42 : FOk Try.prog 42 S42 := by
 have hC : aF Try.prog C42 := okA aO
 refine FOk.intro hC (aR hC) Try.call42 Try.func42 (by kernel_rfl) (by kernel_rfl) L42 ?_
 rw [vc42]
 simp only [zz, zy]
 rintro ⟨a, b, u⟩ ⟨ha, hb⟩
 dsimp only
 refine ⟨fun h => Sp.eX fun e => h (by rw [(Sp.eqIns_iff a b).1 e]), fun h => ⟨⟨0, ⟨Nat.zero_le _, by have : (List.length a : Int) = (List.length b : Int) := h; omega, rfl⟩, rfl⟩, ?_⟩⟩
 intro i hi _
 obtain ⟨h1, h2, h3⟩ := hi
 refine ⟨fun hlt => ⟨⟨bB hlt, bB (by rw [<- h2]; exact hlt)⟩, fun c => Sp.eX fun e => ?_, fun c => ⟨d9 hlt ha.1, i + 1, ⟨by have : (i : Int) < (List.length a : Int) := hlt; omega, h2, Sp.gB hlt h2 h3 (Sp.inst_ext c.1 c.2.1 c.2.2.1 (Sp.eF c.2.2.2.1.1 c.2.2.2.1.2.1 c.2.2.2.1.2.2) (Sp.eF c.2.2.2.2.1.1 c.2.2.2.2.1.2.1 c.2.2.2.2.1.2.2) (Sp.eF c.2.2.2.2.2.1.1 c.2.2.2.2.2.1.2.1 c.2.2.2.2.2.1.2.2) (Sp.eF c.2.2.2.2.2.2.1 c.2.2.2.2.2.2.2.1 c.2.2.2.2.2.2.2.2))⟩, by have : (i : Int) < (List.length a : Int) := hlt; omega, rfl⟩⟩, fun hge => Sp.tr_of ((Sp.eqIns_iff a b).2 (Sp.eqL_end hge h2 h3))⟩
 have e := (Sp.eqIns_iff a b).1 e
 subst e
 simp at c
theorem ok30 : FOk Try.prog 30 S30 := by
 have hC : aF Try.prog C30 := okA aO
 refine FOk.intro hC (aR hC) Try.call30 Try.func30 (by kernel_rfl) (by kernel_rfl) L30 ?_
 rw [vc30]
 simp only [zz, zy]
 rintro ⟨a, b, u⟩ ⟨ha, hb⟩
 dsimp only
 refine ⟨fun h => Sp.eX fun e => ?_, fun h => ⟨⟨0, ⟨Nat.zero_le _, by have : (List.length a.1 : Int) = (List.length b.1 : Int) := h.1; omega, rfl⟩, rfl⟩, ?_⟩⟩
 ·have e := (Sp.eqBlk_iff a b).1 e
  subst e;simp at h
 intro i hi _
 obtain ⟨h1, h2, h3⟩ := hi
 refine ⟨fun hlt => ⟨⟨bB hlt, bB (by rw [<- h2]; exact hlt)⟩, fun c => Sp.eX fun e => ?_, fun c => ⟨d9 hlt ha.1.1, i + 1, ⟨by have : (i : Int) < (List.length a.1 : Int) := hlt; omega, h2, Sp.gB hlt h2 h3 (Sp.inst_ext c.1 c.2.1 c.2.2.1 (Sp.eF c.2.2.2.1.1 c.2.2.2.1.2.1 c.2.2.2.1.2.2) (Sp.eF c.2.2.2.2.1.1 c.2.2.2.2.1.2.1 c.2.2.2.2.1.2.2) (Sp.eF c.2.2.2.2.2.1.1 c.2.2.2.2.2.1.2.1 c.2.2.2.2.2.1.2.2) (Sp.eF c.2.2.2.2.2.2.1 c.2.2.2.2.2.2.2.1 c.2.2.2.2.2.2.2.2))⟩, by have : (i : Int) < (List.length a.1 : Int) := hlt; omega, rfl⟩⟩, fun hge => Sp.tr_of ((Sp.eqBlk_iff a b).2 ?_)⟩
 ·have e := (Sp.eqBlk_iff a b).1 e
  subst e;simp at c
 ·have e1 := Sp.eqL_end hge h2 h3
  have e2 : a.2.1 = b.2.1 := Sp.term_ext h.2.1 h.2.2.1 (Sp.eF h.2.2.2.1.1 h.2.2.2.1.2.1 h.2.2.2.1.2.2) (Sp.eF h.2.2.2.2.1.1 h.2.2.2.2.1.2.1 h.2.2.2.2.1.2.2) (Sp.eF h.2.2.2.2.2.1.1 h.2.2.2.2.2.1.2.1 h.2.2.2.2.2.1.2.2) h.2.2.2.2.2.2
  obtain ⟨a1, a2, _⟩ := a;obtain ⟨b1, b2, _⟩ := b
  dsimp only at e1 e2
  rw [e1, e2]
theorem ok24 : FOk Try.prog 24 S24 := by
 have hC : aF Try.prog C24 := okA aO
 refine FOk.intro hC (aR hC) Try.call24 Try.func24 (by kernel_rfl) (by kernel_rfl) L24 ?_
 rw [vc24]
 simp only [zz, zy]
 rintro ⟨a, b, u⟩ ⟨ha, hb⟩
 dsimp only
 refine ⟨fun h => Sp.eX fun e => ?_, fun h => ⟨⟨0, ⟨Nat.zero_le _, ?_, rfl⟩, rfl⟩, ?_⟩⟩
 ·obtain ⟨e1, e2, e3, e4, e5, e6, e7⟩ := (Sp.fR a b).1 e
  unfold Sp.cA at e6;unfold Sp.cL at e7;rw [e1, e2, e3, e4, e5, e6, e7] at h;simp at h
 ·have := h.1.2
  show (Sp.cA a).length = (Sp.cA b).length
  exact Int.ofNat.inj this
 intro i hi _
 obtain ⟨h1, h2, h3⟩ := hi
 refine ⟨fun hlt => ⟨⟨bB hlt, bB (by have h2 : a.2.2.2.2.2.1.length = b.2.2.2.2.2.1.length := h2; rw [<- h2]; exact hlt)⟩, fun c => Sp.eX fun e => ?_, fun c => ⟨d9 hlt ha.2.2.2.2.2.1.1, i + 1, ⟨?_, h2, Sp.gB hlt h2 h3 (Sp.arr_ext c.1 c.2.1 c.2.2.1 c.2.2.2)⟩, ?_, rfl⟩⟩, fun hge => ⟨⟨0, ⟨Nat.zero_le _, Int.ofNat.inj h.2, rfl⟩, rfl⟩, ?_⟩⟩
 ·have e6 := ((Sp.fR a b).1 e).2.2.2.2.2.1
  unfold Sp.cA at e6;rw [e6] at c;simp at c
 ·show i + 1 <= (Sp.cA a).length
  have : (i : Int) < ((Sp.cA a).length : Int) := hlt
  omega
 ·have : (i : Int) < ((Sp.cA a).length : Int) := hlt
  omega
 intro j hj _
 obtain ⟨g1, g2, g3⟩ := hj
 refine ⟨fun hlt => ⟨⟨bB hlt, bB (by have g2 : a.2.2.2.2.2.2.1.length = b.2.2.2.2.2.2.1.length := g2; rw [<- g2]; exact hlt)⟩, fun c => Sp.eX fun e => ?_, fun c => ⟨d9 hlt ha.2.2.2.2.2.2.1.1, j + 1, ⟨?_, g2, Sp.gB hlt g2 g3 (Sp.loop_ext c.1 c.2.1 c.2.2)⟩, ?_, rfl⟩⟩, fun hge2 => Sp.tr_of ((Sp.fR a b).2 ⟨h.1.1.1.1.1.1, h.1.1.1.1.1.2, h.1.1.1.1.2, h.1.1.1.2, h.1.1.2, Sp.eqL_end hge h2 h3, Sp.eqL_end hge2 g2 g3⟩)⟩
 ·have e7 := ((Sp.fR a b).1 e).2.2.2.2.2.2
  unfold Sp.cL at e7;rw [e7] at c;simp at c
 ·show j + 1 <= (Sp.cL a).length
  have : (j : Int) < ((Sp.cL a).length : Int) := hlt
  omega
 ·have : (j : Int) < ((Sp.cL a).length : Int) := hlt
  omega
theorem ok13 : FOk Try.prog 13 S13 := by
 have hC : aF Try.prog C13 := okA (aE ok24 (aE ok30 aO))
 refine FOk.intro hC (aR hC) Try.call13 Try.func13 (by kernel_rfl) (by kernel_rfl) L13 ?_
 rw [vc13]
 simp only [zz, zy]
 rintro ⟨a, b, u⟩ ⟨ha, hb⟩
 dsimp only
 refine ⟨fun h => Sp.eX fun e => ?_, fun h => ⟨⟨0, ⟨Nat.zero_le _, Int.ofNat.inj h.2, rfl⟩, rfl⟩, ?_⟩⟩
 ·have e := (Sp.eqCode_iff a b).1 e
  subst e;rw [(Sp.fR a a).2 ⟨rfl, rfl, rfl, rfl, rfl, rfl, rfl⟩] at h;simp at h
 intro i hi _
 obtain ⟨h1, h2, h3⟩ := hi
 refine ⟨fun hlt => ⟨⟨bB hlt, bB (by have h2 : a.2.2.2.2.2.2.2.1.length = b.2.2.2.2.2.2.2.1.length := h2; rw [<- h2]; exact hlt)⟩, fun c => Sp.eX fun e => ?_, fun c => ⟨d9 hlt ha.2.2.2.2.2.2.2.1.1, i + 1, ⟨?_, h2, Sp.gB hlt h2 h3 ((Sp.eqBlk_iff _ _).1 c)⟩, ?_, rfl⟩⟩, fun hge => Sp.tr_of ((Sp.eqCode_iff a b).2 (Sp.code_ext h.1 (Sp.eqL_end hge h2 h3)))⟩
 ·have e := (Sp.eqCode_iff a b).1 e
  subst e;rw [(Sp.eqBlk_iff _ _).2 rfl] at c;cases c
 ·show i + 1 <= (Sp.cB a).length
  have : (i : Int) < ((Sp.cB a).length : Int) := hlt
  omega
 ·have : (i : Int) < ((Sp.cB a).length : Int) := hlt
  omega
theorem ok12 : FOk Try.prog 12 S12 := by
 have hC : aF Try.prog C12 := okA (aE ok26 aO)
 refine FOk.intro hC (aR hC) Try.call12 Try.func12 (by kernel_rfl) (by kernel_rfl) L12 ?_
 rw [vc12]
 simp only [zz, zy]
 rintro ⟨a, b, u⟩ ⟨ha, hb⟩
 dsimp only
 refine ⟨fun h => Sp.eX fun e => h (by rw [(Sp.eqOrd_iff a b).1 e]), fun h => ⟨⟨0, ⟨Nat.zero_le _, Int.ofNat.inj h, rfl⟩, rfl⟩, ?_⟩⟩
 intro i hi _
 obtain ⟨h1, h2, h3⟩ := hi
 refine ⟨fun hlt => ⟨⟨bB hlt, bB (by rw [<- h2]; exact hlt)⟩, fun c => Sp.eX fun e => ?_, fun c => ⟨d9 hlt ha.1.1, i + 1, ⟨?_, h2, Sp.gB hlt h2 h3 ((Sp.eqInt_iff _ _).1 c)⟩, ?_, rfl⟩⟩, fun hge => Sp.tr_of ((Sp.eqOrd_iff a b).2 ?_)⟩
 ·have e := (Sp.eqOrd_iff a b).1 e
  subst e;rw [(Sp.eqInt_iff _ _).2 rfl] at c;cases c
 ·have : (i : Int) < (List.length a.1 : Int) := hlt
  omega
 ·have : (i : Int) < (List.length a.1 : Int) := hlt
  omega
 ·have e1 := Sp.eqL_end hge h2 h3
  obtain ⟨a1, _⟩ := a;obtain ⟨b1, _⟩ := b
  dsimp only at e1
  rw [e1]
end Go.User
