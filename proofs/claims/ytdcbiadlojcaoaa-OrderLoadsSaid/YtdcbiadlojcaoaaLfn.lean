/- Written by gen.py: what is left to show of each function. Orders: what they should. Orders: masks and places. Schedules and their check: what they should. Orders that are chosen; codes with slots. Run, Check, orders that are chosen, codes with slots: what they should. The registers that an instruction reads: what they should. -/
import Derived.Test.YtdcbiadlojcaoaaLfm
set_option linter.unusedVariables false
set_option linter.unusedSimpArgs false
namespace Go.User
open Go.Proofs Go.Lf
set_option maxRecDepth 100000
theorem vc43 : (funI C43 (stpS C43) S43 L43 Try.f43) = (
let q0 : Prop := (True /\ True) /\ True;
let q1 : Prop := True /\ True /\ True;
let q2 : Prop := True /\ q1;
let q3 : Int := (0 : Int);
let q4 : Sp.Opd := (q3, q3, q3, ());
let q5 : Sp.Inst := (q3, q3, q3, q4, q4, q4, q4, ());
let q6 : Int := (1 : Int);
∀ (x : List Sp.Inst × List Int × Unit),
 let q7 : Nat := x.2.1.length;
 let q8 : Nat := x.1.length;
 let q9 : Int := (↑q7 : Int);
 let q10 : Prop := q9 = q9;
 let q11 : Prop := x.2.1 = x.2.1;
 let q12 : Prop := q11 /\ x.1 = x.1 /\ q11 /\ True;
 (q7 <= (5000 : Nat) /\ ∀ (k : Int), k ∈ x.2.1 -> (0 : tI.den) <= k /\ k < (↑q8 : Int)) ->
 dFact tInst.slice x.1 /\ dFact tI.slice x.2.1 /\ True ->
 q0 /\
 ((True /\ True /\ ((0 : tI.den) <= q9 /\ q9 <= q9 /\ q9 <= maxNew) /\ True) /\ True /\ True) /\
 (q2 /\ True) /\
 (∃ (x_1 : Nat), x_1 <= q7 /\ q3 = (↑x_1 : Int) /\ q10 /\ List.replicate q9.toNat q5 = Sp.reoL x.1 (List.take x_1 x.2.1) ++ List.replicate (q7 - x_1) Sp.inst0 /\ q12) /\
 ∀ (x_1 : Nat),
 let q13 : Nat := q7 - x_1;
 let q14 : List Sp.Inst := Sp.reoL x.1 (List.take x_1 x.2.1) ++ List.replicate q13 Sp.inst0;
 let q15 : Bool := decide ((↑x_1 : Int) < q9);
 let q16 : Nat := (↑x_1 : Int).toNat;
 let q17 : Int := x.2.1.getD q16 q3;
 let q18 : Int := (↑x_1 : Int) + q6;
 x_1 <= q7 ->
 dFact tI (↑x_1 : Int) /\ dFact tI q9 /\ dFact tInst.slice q14 /\ True ->
 q0 /\
 (q15 = true ->
 ((True /\ inN (↑x_1 : Int) q7 /\ q2) /\ True) /\
 ((True /\ True /\ True /\ True /\ inN q17 q8 /\ True /\ inN (↑x_1 : Int) q14.length /\ True) /\ True /\ True) /\
 ((inK IntKind.i64 q18 /\ True /\ True) /\ True) /\
 ∃ (y : Nat),
 let q19 : Nat := q7 - y;
 y <= q7 /\ q19 < q13 /\ q18 = (↑y : Int) /\ q10 /\ q14.set q16 (x.1.getD q17.toNat q5) = Sp.reoL x.1 (List.take y x.2.1) ++ List.replicate q19 Sp.inst0 /\ q12) /\
 (q15 = false -> (q1 /\ True) /\ q14 = Sp.reoL x.1 x.2.1)) := by kernel_rfl
theorem vc59 : (funIT C59 (stpS C59) S59 T59 Try.f59) = (
let q0 : Nat := (3000 : Nat);
let q1 : Int := (7 : Int);
let q2 : Int := (0 : Int);
let q3 : Prop := True /\ True /\ True;
let q4 : Prop := q3 /\ True;
let q5 : Prop := (True /\ True) /\ True;
let q6 : Prop := True /\ q3;
let q7 : Int := (1 : Int);
let q8 : Sp.Opd := (q2, q2, q2, ());
∀ (x : Sp.Code × List Sp.Inst × Unit),
 let q9 : Prop := x.2.1.length <= q0 /\ ∀ (i : Sp.Inst), i ∈ x.2.1 -> Sp.opI i = q1 ∨ Sp.opI i = (8 : Int) ∨ Sp.opI i = (9 : Int) -> q2 <= Sp.nI i /\ Sp.nI i < (↑(Sp.cA x.1).length : Int);
 let q10 : Nat := x.2.1.length;
 let q11 : Int := (↑q10 : Int);
 let q12 : Prop := x.2.1 = x.2.1;
 let q13 : List (List Bool) := Sp.mskL (Sp.depP x.1) x.2.1;
 let q14 : Prop := q13 = q13;
 let q15 : Prop := x.1 = x.1;
 let q16 : Prop := q12 /\ q14 /\ q15 /\ True;
 let q17 : Prop := q11 = q11;
 q9 ->
 dFact tCode x.1 /\ dFact tInst.slice x.2.1 /\ True ->
 q4 /\
 ((True /\ True /\ q9 /\ True /\ True) /\ True) /\
 ((True /\ True /\ ((0 : tI.den) <= q11 /\ q11 <= q11 /\ q11 <= maxNew) /\ True) /\ True /\ True) /\
 q5 /\
 (∃ (x_1 : Nat),
 let q18 : List Int := Sp.ordN (Sp.stpO (Sp.depP x.1) x.2.1) x_1;
 x_1 <= q10 /\ q18 = ([] : List tI.den) /\ List.replicate q11.toNat false = Sp.doneL q18 q10 /\ q16) /\
 ∀ (x_1 : Nat),
 let q19 : List Int := Sp.ordN (Sp.stpO (Sp.depP x.1) x.2.1) x_1;
 let q20 : List Bool := Sp.doneL q19 q10;
 let q21 : Nat := q19.length;
 let q22 : Bool := decide ((↑q21 : Int) < q11);
 let q23 : Prop := q20 = q20;
 let q24 : Prop := q19 = q19;
 let q25 : Prop := q12 /\ q15 /\ q14 /\ q23 /\ q24 /\ True;
 let q26 : Nat := q20.length;
 let q27 : Int := Sp.stpO (Sp.depP x.1) x.2.1 q19;
 let q28 : List Int := q27 :: ([] : List tI.den);
 x_1 <= q10 ->
 dFact tI.slice q19 /\ dFact Ty.bool.slice q20 /\ True ->
 ((True /\ True /\ q6) /\ True) /\
 (q22 = true ->
 q5 /\
 ((q6 /\ True) /\
 (∃ (x_2 : Nat), (x_2 <= q10 /\ ∀ (k : Nat), k < x_2 -> ¬(Sp.rdyB (Sp.depP x.1) x.2.1 q19 k = true /\ Sp.ldB x.2.1 k = true)) /\ q2 = (↑x_2 : Int) /\ q17 /\ -q7 = Sp.nxS (Sp.rdyB (Sp.depP x.1) x.2.1 q19) (Sp.ldB x.2.1) x_2 /\ q25) /\
 ∀ (x_2 : Nat),
 let q29 : Prop := dFact tI (↑x_2 : Int);
 let q30 : Int := Sp.nxS (Sp.rdyB (Sp.depP x.1) x.2.1 q19) (Sp.ldB x.2.1) x_2;
 let q31 : Bool := decide ((↑x_2 : Int) < q11);
 let q32 : Nat := (↑x_2 : Int).toNat;
 let q33 : Bool := q20.getD q32 false;
 let q34 : Int := (↑x_2 : Int) + q7;
 let q35 : Prop := (inK IntKind.i64 q34 /\ True /\ True) /\ True;
 let q36 : Prop := q35 /\ ∃ (y : Nat), (y <= q10 /\ ∀ (k : Nat), k < y -> ¬(Sp.rdyB (Sp.depP x.1) x.2.1 q19 k = true /\ Sp.ldB x.2.1 k = true)) /\ q10 - y < q10 - x_2 /\ q34 = (↑y : Int) /\ q17 /\ q30 = Sp.nxS (Sp.rdyB (Sp.depP x.1) x.2.1 q19) (Sp.ldB x.2.1) y /\ q25;
 let q37 : List Bool := q13.getD q32 (([] : List Ty.bool.den));
 let q38 : Nat := q37.length;
 let q39 : Prop := (↑x_2 : Int) = (↑x_2 : Int);
 let q40 : Prop := q12 /\ q15 /\ q14 /\ q23 /\ q24 /\ q30 = q30 /\ q39 /\ q17 /\ q39 /\ q37 = q37 /\ True;
 let q41 : Bool := (x.2.1.getD q32 (q2, q2, q2, q8, q8, q8, q8, ())).1 == q1;
 let q42 : Bool := decide (q30 < q2);
 (x_2 <= q10 /\ ∀ (k : Nat), k < x_2 -> ¬(Sp.rdyB (Sp.depP x.1) x.2.1 q19 k = true /\ Sp.ldB x.2.1 k = true)) ->
 q29 /\ dFact tI q11 /\ dFact tI q30 /\ True ->
 q5 /\
 (q31 = true ->
 q4 /\
 ((True /\ True /\ inN (↑x_2 : Int) q26 /\ True /\ True) /\ True) /\
 (q33 = true -> q36) /\
 (q33 = false ->
 ((True /\ True /\ inN (↑x_2 : Int) q13.length /\ q6) /\ True) /\
 (∃ (x_3 : Nat), (x_3 <= x_2 /\ ((List.range x_3).all fun (j : Nat) => Sp.mem q19 (↑j : Int) || !Sp.depP x.1 (Sp.insAt x.2.1 j) (Sp.insAt x.2.1 x_2)) = true) /\ q2 = (↑x_3 : Int) /\ (↑q38 : Int) = (↑x_2 : Int) /\ q40) /\
 ∀ (x_3 : Nat),
 let q43 : Bool := decide ((↑x_3 : Int) < (↑x_2 : Int));
 let q44 : Nat := (↑x_3 : Int).toNat;
 let q45 : Bool := q37.getD q44 false;
 let q46 : Prop := (true && bif q45 then true else false) = true;
 let q47 : Prop := q46 -> True;
 let q48 : Bool := bif q45 then !q20.getD q44 false else false;
 let q49 : Int := (↑x_3 : Int) + q7;
 x_3 <= x_2 /\ ((List.range x_3).all fun (j : Nat) => Sp.mem q19 (↑j : Int) || !Sp.depP x.1 (Sp.insAt x.2.1 j) (Sp.insAt x.2.1 x_2)) = true -> dFact tI (↑x_3 : Int) /\ q29 /\ True -> q5 /\ (q43 = true -> ((True /\ inN (↑x_3 : Int) q38 /\ q6) /\ True) /\ ((True /\ True /\ q47 /\ q47 /\ (q46 -> inN (↑x_3 : Int) q26) /\ q47 /\ q47 /\ True /\ True) /\ True) /\ (q48 = true -> q36) /\ (q48 = false -> ((inK IntKind.i64 q49 /\ True /\ True) /\ True) /\ ∃ (y : Nat), (y <= x_2 /\ ((List.range y).all fun (j : Nat) => Sp.mem q19 (↑j : Int) || !Sp.depP x.1 (Sp.insAt x.2.1 j) (Sp.insAt x.2.1 x_2)) = true) /\ x_2 - y < x_2 - x_3 /\ q49 = (↑y : Int) /\ q39 /\ q40)) /\ (q43 = false -> ((True /\ True /\ inN (↑x_2 : Int) q10 /\ q6) /\ True) /\ (q41 = true -> q4 /\ ∃ (x : Unit), True /\ (↑x_2 : Int) = q27 /\ q25) /\ (q41 = false -> q4 /\ (q42 = true -> q4 /\ q35 /\ ∃ (y : Nat), (y <= q10 /\ ∀ (k : Nat), k < y -> ¬(Sp.rdyB (Sp.depP x.1) x.2.1 q19 k = true /\ Sp.ldB x.2.1 k = true)) /\ q10 - y < q10 - x_2 /\ q34 = (↑y : Int) /\ q17 /\ (↑x_2 : Int) = Sp.nxS (Sp.rdyB (Sp.depP x.1) x.2.1 q19) (Sp.ldB x.2.1) y /\ q25) /\ (q42 = false -> q36))))) /\
 (q31 = false -> ∃ (x : Unit), True /\ q30 = q27 /\ q25)) /\
 ∀ (x_2 : Unit),
 True ->
 dFact tI q27 /\ True ->
 ((True /\ True /\ inN q27 q26 /\ True) /\ True /\ True) /\
 (q6 /\ (↑(q21 + q28.length) : Int) <= maxNew /\ True /\ True) /\
 ∃ (y : Nat),
 let q50 : List Int := Sp.ordN (Sp.stpO (Sp.depP x.1) x.2.1) y;
 y <= q10 /\ q10 - y < q10 - x_1 /\ q19 ++ q28 = q50 /\ q20.set q27.toNat true = Sp.doneL q50 q10 /\ q16) /\
 (q22 = false -> q4 /\ q19 = Sp.lstO (Sp.depP x.1) x.2.1)) := by kernel_rfl
theorem vc41 : (funI C41 (stpS C41) S41 L41 Try.f41) = (
let q0 : Nat := (3000 : Nat);
let q1 : Int := (0 : Int);
let q2 : Prop := True /\ True /\ True;
let q3 : Prop := q2 /\ True;
let q4 : Prop := True /\ q2;
let q5 : Prop := q4 /\ True;
let q6 : Int := (1 : Int);
let q7 : Int := -q6;
let q8 : Prop := (True /\ True) /\ True;
∀ (x : Sp.Code × List Sp.Inst × List Int × Unit),
 let q9 : Prop := x.2.1.length <= q0 /\ ∀ (i : Sp.Inst), i ∈ x.2.1 -> Sp.opI i = (7 : Int) ∨ Sp.opI i = (8 : Int) ∨ Sp.opI i = (9 : Int) -> q1 <= Sp.nI i /\ Sp.nI i < (↑(Sp.cA x.1).length : Int);
 let q10 : Nat := x.2.1.length;
 let q11 : Int := (↑q10 : Int);
 let q12 : List Int := List.replicate q11.toNat q1;
 let q13 : Prop := x.2.2.1 = x.2.2.1;
 let q14 : Prop := x.1 = x.1 /\ x.2.1 = x.2.1 /\ q13 /\ True;
 let q15 : Prop := dFact tI q11;
 let q16 : Prop := q11 = q11;
 let q17 : Nat := x.2.2.1.length;
 let q18 : Int := (↑q17 : Int);
 let q19 : Prop := q18 = q18;
 let q20 : Prop := q13 /\ q14;
 let q21 : Bool := Sp.rgtB (Sp.depQ x.1) x.2.1 x.2.2.1;
 let q22 : Prop := q8 /\ false = q21;
 let q23 : Bool := q18 != q11;
 let q24 : List Int := Sp.atL x.2.2.1 q10 q17;
 let q25 : List (List Bool) := Sp.mskL (Sp.depP x.1) x.2.1;
 let q26 : Nat := q25.length;
 let q27 : Prop := q25 = q25;
 q9 ->
 dFact tCode x.1 /\ dFact tInst.slice x.2.1 /\ dFact tI.slice x.2.2.1 /\ True ->
 q3 /\
 ((True /\ True /\ ((0 : tI.den) <= q11 /\ q11 <= q11 /\ q11 <= maxNew) /\ True) /\ True /\ True) /\
 q5 /\
 (∃ (x : Nat), x <= q10 /\ q1 = (↑x : Int) /\ (↑q12.length : Int) = q11 /\ q12 = List.replicate x q7 ++ List.replicate (q10 - x) q1 /\ q14) /\
 ∀ (x_1 : Nat),
 let q28 : Nat := q10 - x_1;
 let q29 : List Int := List.replicate x_1 q7 ++ List.replicate q28 q1;
 let q30 : Bool := decide ((↑x_1 : Int) < q11);
 let q31 : Int := (↑x_1 : Int) + q6;
 x_1 <= q10 ->
 dFact tI (↑x_1 : Int) /\ q15 /\ dFact tI.slice q29 /\ True ->
 q8 /\
 (q30 = true ->
 q3 /\
 ((True /\ True /\ inN (↑x_1 : Int) q29.length /\ True) /\ True /\ True) /\
 ((inK IntKind.i64 q31 /\ True /\ True) /\ True) /\
 ∃ (y : Nat),
 let q32 : Nat := q10 - y;
 y <= q10 /\ q32 < q28 /\ q31 = (↑y : Int) /\ q16 /\ q29.set (↑x_1 : Int).toNat q7 = List.replicate y q7 ++ List.replicate q32 q1 /\ q14) /\
 (q30 = false ->
 q5 /\
 (∃ (x_2 : Nat),
 let q33 : List Int := List.take x_2 x.2.2.1;
 (x_2 <= q17 /\ q33.Nodup /\ ∀ (k : Int), k ∈ q33 -> q1 <= k /\ k < q11) /\ q1 = (↑x_2 : Int) /\ q19 /\ q29 = Sp.atL x.2.2.1 q10 x_2 /\ q20) /\
 ∀ (x_2 : Nat),
 let q34 : List Int := List.take x_2 x.2.2.1;
 let q35 : List Int := Sp.atL x.2.2.1 q10 x_2;
 let q36 : Bool := decide ((↑x_2 : Int) < q18);
 let q37 : Int := x.2.2.1.getD (↑x_2 : Int).toNat q1;
 let q38 : Bool := decide (q37 < q1);
 let q39 : Prop := (true && bif q38 then false else true) = true -> True;
 let q40 : Bool := bif q38 then true else decide (q37 ≥ q11);
 let q41 : Prop := (true && bif q40 then false else true) = true;
 let q42 : Prop := q41 -> True;
 let q43 : Nat := q35.length;
 let q44 : Prop := inN q37 q43;
 let q45 : Nat := q37.toNat;
 let q46 : Bool := bif q40 then true else decide (q35.getD q45 q1 ≥ q1);
 let q47 : Int := (↑x_2 : Int) + q6;
 let q48 : Prop := q35 = q35;
 let q49 : Prop := q27 /\ q48 /\ q14;
 (x_2 <= q17 /\ q34.Nodup /\ ∀ (k : Int), k ∈ q34 -> q1 <= k /\ k < q11) ->
 dFact tI (↑x_2 : Int) /\ dFact tI q18 /\ dFact tI.slice q35 /\ True ->
 q8 /\
 (q36 = true ->
 ((True /\ inN (↑x_2 : Int) q17 /\ q4) /\ True) /\
 ((True /\ True /\ True /\ q39 /\ q39 /\ q39 /\ q39 /\ True /\ True /\ q42 /\ q42 /\ (q41 -> q44) /\ q42 /\ q42 /\ True /\ True) /\ True) /\
 (q46 = true -> q22) /\
 (q46 = false ->
 ((True /\ True /\ True /\ q44 /\ True) /\ True /\ True) /\
 ((inK IntKind.i64 q47 /\ True /\ True) /\ True) /\
 ∃ (y : Nat),
 let q50 : List Int := List.take y x.2.2.1;
 (y <= q17 /\ q50.Nodup /\ ∀ (k : Int), k ∈ q50 -> q1 <= k /\ k < q11) /\ q17 - y < q17 - x_2 /\ q47 = (↑y : Int) /\ q19 /\ q35.set q45 (↑x_2 : Int) = Sp.atL x.2.2.1 q10 y /\ q20)) /\
 (q36 = false ->
 ((True /\ True /\ q4) /\ True) /\
 (q23 = true -> q22) /\
 (q23 = false ->
 ((True /\ True /\ q9 /\ q2) /\ True) /\
 (∃ (x_3 : Nat), (x_3 <= q10 /\ ∀ (k : Nat), k < x_3 -> ∀ (j : Nat), j < k -> Sp.depP x.1 (Sp.insAt x.2.1 j) (Sp.insAt x.2.1 k) = true -> Sp.xAt q24 j <= Sp.xAt q24 k) /\ q1 = (↑x_3 : Int) /\ (↑q26 : Int) = q11 /\ q49) /\
 ∀ (x_3 : Nat),
 let q51 : Prop := dFact tI (↑x_3 : Int);
 let q52 : Bool := decide ((↑x_3 : Int) < q11);
 let q53 : Nat := (↑x_3 : Int).toNat;
 let q54 : List Bool := q25.getD q53 (([] : List Ty.bool.den));
 let q55 : Nat := q54.length;
 let q56 : Prop := q54 = q54;
 let q57 : Prop := (↑x_3 : Int) = (↑x_3 : Int);
 let q58 : Prop := q56 /\ q27 /\ q16 /\ q57 /\ q48 /\ q57 /\ q56 /\ q14;
 let q59 : Int := (↑x_3 : Int) + q6;
 (x_3 <= q10 /\ ∀ (k : Nat), k < x_3 -> ∀ (j : Nat), j < k -> Sp.depP x.1 (Sp.insAt x.2.1 j) (Sp.insAt x.2.1 k) = true -> Sp.xAt q24 j <= Sp.xAt q24 k) ->
 q51 /\ q15 /\ True ->
 q8 /\
 (q52 = true ->
 ((True /\ inN (↑x_3 : Int) q26 /\ q4) /\ True) /\
 q5 /\
 (∃ (x_4 : Nat), (x_4 <= x_3 /\ ∀ (k : Nat), k < x_4 -> Sp.depP x.1 (Sp.insAt x.2.1 k) (Sp.insAt x.2.1 x_3) = true -> Sp.xAt q24 k <= Sp.xAt q24 x_3) /\ q1 = (↑x_4 : Int) /\ (↑q55 : Int) = (↑x_3 : Int) /\ q58) /\
 ∀ (x_4 : Nat),
 let q60 : Bool := decide ((↑x_4 : Int) < (↑x_3 : Int));
 let q61 : Nat := (↑x_4 : Int).toNat;
 let q62 : Bool := q54.getD q61 false;
 let q63 : Prop := (true && bif q62 then true else false) = true;
 let q64 : Prop := q63 -> True;
 let q65 : Bool := bif q62 then decide (q35.getD q61 q1 > q35.getD q53 q1) else false;
 let q66 : Int := (↑x_4 : Int) + q6;
 (x_4 <= x_3 /\ ∀ (k : Nat), k < x_4 -> Sp.depP x.1 (Sp.insAt x.2.1 k) (Sp.insAt x.2.1 x_3) = true -> Sp.xAt q24 k <= Sp.xAt q24 x_3) -> dFact tI (↑x_4 : Int) /\ q51 /\ True -> q8 /\ (q60 = true -> ((True /\ inN (↑x_4 : Int) q55 /\ q4) /\ True) /\ ((True /\ True /\ q64 /\ q64 /\ (q63 -> inN (↑x_4 : Int) q43) /\ q64 /\ q64 /\ q64 /\ (q63 -> inN (↑x_3 : Int) q43) /\ q64 /\ q64 /\ True /\ True) /\ True) /\ (q65 = true -> q22) /\ (q65 = false -> ((inK IntKind.i64 q66 /\ True /\ True) /\ True) /\ ∃ (y : Nat), (y <= x_3 /\ ∀ (k : Nat), k < y -> Sp.depP x.1 (Sp.insAt x.2.1 k) (Sp.insAt x.2.1 x_3) = true -> Sp.xAt q24 k <= Sp.xAt q24 x_3) /\ x_3 - y < x_3 - x_4 /\ q66 = (↑y : Int) /\ q57 /\ q58)) /\ (q60 = false -> ((inK IntKind.i64 q59 /\ True /\ True) /\ True) /\ ∃ (y : Nat), (y <= q10 /\ ∀ (k : Nat), k < y -> ∀ (j : Nat), j < k -> Sp.depP x.1 (Sp.insAt x.2.1 j) (Sp.insAt x.2.1 k) = true -> Sp.xAt q24 j <= Sp.xAt q24 k) /\ q10 - y < q10 - x_3 /\ q59 = (↑y : Int) /\ q16 /\ q49)) /\
 (q52 = false -> q8 /\ true = q21))))) := by kernel_rfl
theorem vc28 : (funI C28 (stpS C28) S28 L28 Try.f28) = (
let q0 : Nat := (3000 : Nat);
let q1 : Int := (0 : Int);
let q2 : Nat := (2 : Nat);
let q3 : Prop := True /\ True /\ True;
let q4 : Prop := True /\ q3;
let q5 : Prop := (True /\ True) /\ True;
let q6 : Nat := (5000 : Nat);
let q7 : Prop := True /\ q4;
let q8 : List (List Int) := ([] : List tI.slice.den);
let q9 : Sp.Ord := (q8, ());
let q10 : Sp.Code := (q1, q1, q1, q1, q1, ([] : List tArr.den), ([] : List tLoop.den), ([] : List tBlk.den), ());
let q11 : Prop := q10 = q10 /\ q9 = q9 /\ True;
let q12 : Sp.Opd := (q1, q1, q1, ());
let q13 : Sp.Block := (([] : List tInst.den), (q1, q1, q12, q12, q12, List.replicate q2 q1, ()), ());
let q14 : List Step := Step.fst :: ([] : List Step);
let q15 : Int := (1 : Int);
let q16 : Nat := (5 : Nat);
let q17 : Prop := ([] : List Step) = ([] : List Step);
let q18 : Nat := (4 : Nat);
let q19 : Prop := (True /\ q18 = q18 /\ q17) /\ True;
∀ (x : Sp.Code × Unit),
 let q20 : Nat := (Sp.cA x.1).length;
 let q21 : Nat := (Sp.cB x.1).length;
 let q22 : Int × List Sp.Arr × List Sp.Opd × List Sp.Block × Unit := x.1.2.2.2.2;
 let q23 : List Sp.Arr × List Sp.Opd × List Sp.Block × Unit := q22.2;
 let q24 : List Sp.Arr := q23.1;
 let q25 : List Sp.Opd × List Sp.Block × Unit := q23.2;
 let q26 : List Sp.Opd := q25.1;
 let q27 : List Sp.Block × Unit := q25.2;
 let q28 : List Sp.Block := q27.1;
 let q29 : Nat := q28.length;
 let q30 : Int := (↑q21 : Int);
 let q31 : Int := x.1.2.2.2.1;
 let q32 : Int := q22.1;
 let q33 : Prop := x.1 = x.1 /\ q11;
 ((q20 <= q0 /\ (Sp.cL x.1).length <= q0 /\ q21 <= q0 /\ ∀ (b : Sp.Block), b ∈ Sp.cB x.1 -> b.1.length <= q0) /\ ∀ (b : Sp.Block), b ∈ Sp.cB x.1 -> ∀ (i : Sp.Inst), i ∈ b.1 -> Sp.opI i = (7 : Int) ∨ Sp.opI i = (8 : Int) ∨ Sp.opI i = (9 : Int) -> q1 <= Sp.nI i /\ Sp.nI i < (↑q20 : Int)) ->
 dFact (tI.prod (tI.prod (tI.prod (tI.prod (tI.prod (tArr.slice.prod (tLoop.slice.prod ((tInst.slice.prod ((tI.prod (tI.prod (tOpd.prod (tOpd.prod (tOpd.prod ((Ty.arr q2 tI).prod Ty.unit)))))).prod Ty.unit)).slice.prod Ty.unit)))))))) x.1 /\ True ->
 (q4 /\ True) /\
 q5 /\
 (q3 /\ True /\ True) /\
 ((True /\ True /\ q24.length <= q6 /\ True /\ True /\ q26.length <= q6 /\ True /\ True /\ q29 <= q6 /\ True /\ True) /\ True /\ q7) /\
 (q7 /\ True) /\
 (∃ (x_1 : Nat), x_1 <= q21 /\ q1 = (↑x_1 : Int) /\ (↑q29 : Int) = q30 /\ q9 = (Sp.xsR Sp.depP x.1 x_1, ()) /\ (x.1.1, x.1.2.1, x.1.2.2.1, q31, q32, q24, q26, q28, q27.2) = Sp.setB x.1 (Sp.reoN x.1 (Sp.runX Sp.depP x.1) x_1) /\ q33) /\
 ∀ (x_1 : Nat),
 let q34 : List (List Int) := Sp.xsR Sp.depP x.1 x_1;
 let q35 : Sp.Ord := (q34, ());
 let q36 : List Sp.Block := Sp.reoN x.1 (Sp.runX Sp.depP x.1) x_1;
 let q37 : Sp.Code := Sp.setB x.1 q36;
 let q38 : Bool := decide ((↑x_1 : Int) < q30);
 let q39 : Prop := inN (↑x_1 : Int) q29;
 let q40 : Nat := (↑x_1 : Int).toNat;
 let q41 : List Sp.Inst := (q28.getD q40 q13).1;
 let q42 : List Int := Sp.lstO (Sp.depP x.1) q41;
 let q43 : List (List Int) := q42 :: q8;
 let q44 : Int := (↑x_1 : Int) + q15;
 x_1 <= q21 -> dFact tI (↑x_1 : Int) /\ dFact tI q30 /\ dFact tOrd q35 /\ dFact (tI.prod (tI.prod (tI.prod (tI.prod (tI.prod (tArr.slice.prod (tLoop.slice.prod ((tInst.slice.prod ((tI.prod (tI.prod (tOpd.prod (tOpd.prod (tOpd.prod ((Ty.arr q2 tI).prod Ty.unit)))))).prod Ty.unit)).slice.prod Ty.unit)))))))) q37 /\ True -> q5 /\ (q38 = true -> (q3 /\ True) /\ ((True /\ True /\ True /\ True /\ q39 /\ True /\ True /\ (q41.length <= q0 /\ ∀ (i : Sp.Inst), i ∈ q41 -> Sp.opI i = (7 : Int) ∨ Sp.opI i = (8 : Int) ∨ Sp.opI i = (9 : Int) -> q1 <= Sp.nI i /\ Sp.nI i < (↑q20 : Int)) /\ True /\ True) /\ True) /\ (q7 /\ (↑(q34.length + q43.length) : Int) <= maxNew /\ True /\ q14 = q14 /\ True) /\ ((True /\ True /\ True /\ True /\ True /\ True /\ q39 /\ True /\ True /\ True /\ (q42.length <= q6 /\ ∀ (k : Int), k ∈ q42 -> (0 : tI.den) <= k /\ k < (↑q41.length : Int)) /\ inN (↑x_1 : Int) q36.length /\ True /\ True) /\ True /\ True) /\ ((inK IntKind.i64 q44 /\ True /\ True) /\ True) /\ ∃ (y : Nat), y <= q21 /\ q21 - y < q21 - x_1 /\ q44 = (↑y : Int) /\ q30 = q30 /\ (q34 ++ q43, ()) = (Sp.xsR Sp.depP x.1 y, ()) /\ (x.1.1, x.1.2.1, x.1.2.2.1, q31, q32, q24, q26, q36.set q40 (Sp.reoL q41 q42, (q36.getD q40 q13).2), ()) = Sp.setB x.1 (Sp.reoN x.1 (Sp.runX Sp.depP x.1) y) /\ q33) /\ (q38 = false -> q3 /\ ((True /\ q16 = q16 /\ q17) /\ q19) /\ (True /\ True /\ q19 /\ (True /\ True /\ True /\ (q37, q35, ()) = (Sp.runC Sp.depP x.1, (Sp.runX Sp.depP x.1, ()), ())) /\ True) /\ True /\ True)) := by kernel_rfl
theorem vc18 : (funI C18 (stpS C18) S18 L18 Try.f18) = (
let q0 : Nat := (3000 : Nat);
let q1 : Int := (0 : Int);
let q2 : Nat := (2 : Nat);
let q3 : Prop := True /\ True /\ True;
let q4 : Prop := True /\ q3;
let q5 : Prop := (True /\ q4) /\ True;
let q6 : Prop := (True /\ True) /\ True;
let q7 : Int := (100 : Int);
let q8 : Sp.Opd := (q1, q1, q1, ());
let q9 : Sp.Block := (([] : List tInst.den), (q1, q1, q8, q8, q8, List.replicate q2 q1, ()), ());
let q10 : Int := (1 : Int);
∀ (x : Sp.Code × Sp.Done),
 let q11 : Nat := (Sp.cA x.1).length;
 let q12 : Nat := (Sp.cB x.1).length;
 let q13 : Bool := x.1.1 == x.2.1.1;
 let q14 : Prop := (true && bif q13 then true else false) = true -> True;
 let q15 : Bool := bif q13 then x.1.2.1 == x.2.1.2.1 else false;
 let q16 : Prop := (true && bif q15 then true else false) = true -> True;
 let q17 : Bool := bif q15 then x.1.2.2.1 == x.2.1.2.2.1 else false;
 let q18 : Prop := (true && bif q17 then true else false) = true -> True;
 let q19 : Int × Int × List Sp.Arr × List Sp.Opd × List Sp.Block × Unit := x.2.1.2.2.2;
 let q20 : Bool := bif q17 then x.1.2.2.2.1 == q19.1 else false;
 let q21 : Prop := (true && bif q20 then true else false) = true -> True;
 let q22 : Int × List Sp.Arr × List Sp.Opd × List Sp.Block × Unit := x.1.2.2.2.2;
 let q23 : Int × List Sp.Arr × List Sp.Opd × List Sp.Block × Unit := q19.2;
 let q24 : Bool := bif q20 then q22.1 == q23.1 else false;
 let q25 : Prop := (true && bif q24 then true else false) = true -> True;
 let q26 : List Sp.Arr × List Sp.Opd × List Sp.Block × Unit := q22.2;
 let q27 : List Sp.Arr × List Sp.Opd × List Sp.Block × Unit := q23.2;
 let q28 : Bool := bif q24 then Sp.eqArrs q26.1 q27.1 else false;
 let q29 : Prop := (true && bif q28 then true else false) = true -> True;
 let q30 : List Sp.Opd × List Sp.Block × Unit := q26.2;
 let q31 : List Sp.Opd × List Sp.Block × Unit := q27.2;
 let q32 : Bool := !bif q28 then Sp.eqLps q30.1 q31.1 else false;
 let q33 : Prop := (true && bif q32 then false else true) = true -> True;
 let q34 : List Sp.Block := q31.2.1;
 let q35 : Nat := q34.length;
 let q36 : List Sp.Block := q30.2.1;
 let q37 : Nat := q36.length;
 let q38 : Int := (↑q37 : Int);
 let q39 : Bool := bif q32 then true else (↑q35 : Int) != q38;
 let q40 : Prop := (true && bif q39 then false else true) = true -> True;
 let q41 : Nat := x.2.2.1.1.length;
 let q42 : Bool := bif q39 then true else (↑q41 : Int) != q38;
 let q43 : Int := Sp.chkP x.1 x.2.1 x.2.2.1.1;
 let q44 : Prop := q6 /\ q7 = q43;
 let q45 : Int := (↑q12 : Int);
 let q46 : Prop := x.1 = x.1 /\ x.2.1 = x.2.1 /\ x.2.2.1 = x.2.2.1 /\ True;
 ((q11 <= q0 /\ (Sp.cL x.1).length <= q0 /\ q12 <= q0 /\ ∀ (b : Sp.Block), b ∈ Sp.cB x.1 -> b.1.length <= q0) /\ ∀ (b : Sp.Block), b ∈ Sp.cB x.1 -> ∀ (i : Sp.Inst), i ∈ b.1 -> Sp.opI i = (7 : Int) ∨ Sp.opI i = (8 : Int) ∨ Sp.opI i = (9 : Int) -> q1 <= Sp.nI i /\ Sp.nI i < (↑q11 : Int)) ->
 dFact (tI.prod (tI.prod (tI.prod (tI.prod (tI.prod (tArr.slice.prod (tLoop.slice.prod ((tInst.slice.prod ((tI.prod (tI.prod (tOpd.prod (tOpd.prod (tOpd.prod ((Ty.arr q2 tI).prod Ty.unit)))))).prod Ty.unit)).slice.prod Ty.unit)))))))) x.1 /\ dFact (tI.prod (tI.prod (tI.prod (tI.prod (tI.prod (tArr.slice.prod (tLoop.slice.prod ((tInst.slice.prod ((tI.prod (tI.prod (tOpd.prod (tOpd.prod (tOpd.prod ((Ty.arr q2 tI).prod Ty.unit)))))).prod Ty.unit)).slice.prod Ty.unit)))))))) x.2.1 /\ dFact tOrd x.2.2.1 /\ True ->
 q5 /\
 ((True /\ True /\ True /\ True /\ True /\ True /\ q14 /\ q14 /\ q14 /\ q14 /\ q14 /\ True /\ True /\ q16 /\ q16 /\ q16 /\ q16 /\ q16 /\ True /\ True /\ q18 /\ q18 /\ q18 /\ q18 /\ q18 /\ True /\ True /\ q21 /\ q21 /\ q21 /\ q21 /\ q21 /\ True /\ True /\ q25 /\ q25 /\ q25 /\ q25 /\ q25 /\ True /\ True /\ q29 /\ q29 /\ q29 /\ q29 /\ q29 /\ q3) /\ True) /\
 ((True /\ True /\ True /\ q33 /\ q33 /\ q33 /\ q33 /\ q33 /\ q33 /\ q33 /\ True /\ True /\ q40 /\ q40 /\ q40 /\ q40 /\ q40 /\ q40 /\ q40 /\ True /\ True) /\ True) /\
 (q42 = true -> q44) /\
 (q42 = false ->
 q5 /\
 (∃ (x_1 : Nat), (x_1 <= q12 /\ Sp.headB x.1 x.2.1 = true /\ (Sp.cB x.2.1).length = q12 /\ q41 = q12 /\ ∀ (k : Nat), k < x_1 -> Sp.rgtB (Sp.depQ x.1) (Sp.blkAt x.1 k).1 (Sp.xsAt x.2.2.1.1 k) = true /\ Sp.reoK x.1 x.2.2.1.1 k = Sp.blkAt x.2.1 k) /\ q1 = (↑x_1 : Int) /\ q38 = q45 /\ q46) /\
 ∀ (x_1 : Nat),
 let q47 : Bool := decide ((↑x_1 : Int) < q45);
 let q48 : Prop := inN (↑x_1 : Int) q37;
 let q49 : Prop := inN (↑x_1 : Int) q35;
 let q50 : Nat := (↑x_1 : Int).toNat;
 let q51 : Sp.Block := q36.getD q50 q9;
 let q52 : Sp.Term := q51.2.1;
 let q53 : Sp.Block := q34.getD q50 q9;
 let q54 : Sp.Term := q53.2.1;
 let q55 : Int × Sp.Opd × Sp.Opd × Sp.Opd × List Int × Unit := q52.2;
 let q56 : Int × Sp.Opd × Sp.Opd × Sp.Opd × List Int × Unit := q54.2;
 let q57 : Sp.Opd × Sp.Opd × Sp.Opd × List Int × Unit := q55.2;
 let q58 : Sp.Opd := q57.1;
 let q59 : Sp.Opd × Sp.Opd × Sp.Opd × List Int × Unit := q56.2;
 let q60 : Sp.Opd := q59.1;
 let q61 : Int × Int × Unit := q58.2;
 let q62 : Int × Int × Unit := q60.2;
 let q63 : Sp.Opd × Sp.Opd × List Int × Unit := q57.2;
 let q64 : Sp.Opd := q63.1;
 let q65 : Sp.Opd × Sp.Opd × List Int × Unit := q59.2;
 let q66 : Sp.Opd := q65.1;
 let q67 : Int × Int × Unit := q64.2;
 let q68 : Int × Int × Unit := q66.2;
 let q69 : Sp.Opd × List Int × Unit := q63.2;
 let q70 : Sp.Opd := q69.1;
 let q71 : Sp.Opd × List Int × Unit := q65.2;
 let q72 : Sp.Opd := q71.1;
 let q73 : Int × Int × Unit := q70.2;
 let q74 : Int × Int × Unit := q72.2;
 let q75 : Bool := !(decide (q52.1 = q54.1) && (decide (q55.1 = q56.1) && (decide (q58.1 = q60.1) && (decide (q61.1 = q62.1) && (decide (q61.2.1 = q62.2.1) && true)) && (decide (q64.1 = q66.1) && (decide (q67.1 = q68.1) && (decide (q67.2.1 = q68.2.1) && true)) && (decide (q70.1 = q72.1) && (decide (q73.1 = q74.1) && (decide (q73.2.1 = q74.2.1) && true)) && (decide (q69.2.1 = q71.2.1) && true))))));
 let q76 : Prop := (true && bif q75 then false else true) = true;
 let q77 : Prop := q76 -> True;
 let q78 : Prop := inN (↑x_1 : Int) q41;
 let q79 : List Sp.Inst := q51.1;
 let q80 : List Int := x.2.2.1.1.getD q50 (([] : List tI.den));
 let q81 : Bool := bif q75 then true else !Sp.rgtB (Sp.depQ x.1) q79 q80;
 let q82 : Prop := (true && bif q81 then false else true) = true;
 let q83 : Prop := q82 -> True;
 let q84 : Bool := bif q81 then true else !Sp.eqIns (Sp.reoL q79 q80) q53.1;
 let q85 : Int := (↑x_1 : Int) + q10;
 (x_1 <= q12 /\ Sp.headB x.1 x.2.1 = true /\ (Sp.cB x.2.1).length = q12 /\ q41 = q12 /\ ∀ (k : Nat), k < x_1 -> Sp.rgtB (Sp.depQ x.1) (Sp.blkAt x.1 k).1 (Sp.xsAt x.2.2.1.1 k) = true /\ Sp.reoK x.1 x.2.2.1.1 k = Sp.blkAt x.2.1 k) -> dFact tI (↑x_1 : Int) /\ dFact tI q45 /\ True -> q6 /\ (q47 = true -> (q3 /\ True) /\ ((True /\ True /\ True /\ q48 /\ q4) /\ True) /\ ((True /\ True /\ True /\ q48 /\ True /\ True /\ True /\ True /\ True /\ q49 /\ True /\ True /\ True /\ True /\ q77 /\ q77 /\ q77 /\ q77 /\ q77 /\ (q76 -> q78) /\ q77 /\ (q76 -> q79.length <= q0 /\ ∀ (i : Sp.Inst), i ∈ q79 -> Sp.opI i = (7 : Int) ∨ Sp.opI i = (8 : Int) ∨ Sp.opI i = (9 : Int) -> q1 <= Sp.nI i /\ Sp.nI i < (↑q11 : Int)) /\ q77 /\ True /\ True /\ q83 /\ q83 /\ q83 /\ q83 /\ (q82 -> q78) /\ q83 /\ (q82 -> q80.length <= (5000 : Nat) /\ ∀ (k : Int), k ∈ q80 -> (0 : tI.den) <= k /\ k < (↑q79.length : Int)) /\ q83 /\ q83 /\ q83 /\ (q82 -> q49) /\ q83 /\ q83 /\ q83 /\ q83 /\ True /\ True) /\ True) /\ (q84 = true -> q44) /\ (q84 = false -> ((inK IntKind.i64 q85 /\ True /\ True) /\ True) /\ ∃ (y : Nat), (y <= q12 /\ Sp.headB x.1 x.2.1 = true /\ (Sp.cB x.2.1).length = q12 /\ q41 = q12 /\ ∀ (k : Nat), k < y -> Sp.rgtB (Sp.depQ x.1) (Sp.blkAt x.1 k).1 (Sp.xsAt x.2.2.1.1 k) = true /\ Sp.reoK x.1 x.2.2.1.1 k = Sp.blkAt x.2.1 k) /\ q12 - y < q12 - x_1 /\ q85 = (↑y : Int) /\ q45 = q45 /\ q46)) /\ (q47 = false -> q6 /\ q1 = q43))) := by kernel_rfl
theorem vc27 : (funI C27 (stpS C27) S27 L27 Try.f27) = (
let q0 : Prop := True /\ True /\ True;
let q1 : Nat := (5000 : Nat);
let q2 : Prop := (True /\ True) /\ True /\ True;
let q3 : Prop := (True /\ True) /\ True;
let q4 : Int := (2 : Int);
let q5 : Int := (1 : Int);
let q6 : Int := (0 : Int);
let q7 : Sp.Code := (q6, q6, q6, q6, q6, ([] : List tArr.den), ([] : List tLoop.den), ([] : List tBlk.den), ());
let q8 : Prop := q7 = q7;
let q9 : Prop := q8 /\ True;
let q10 : Nat := (2 : Nat);
let q11 : Prop := True /\ q0;
let q12 : Prop := True /\ q11;
let q13 : Sp.Opd := (q6, q6, q6, ());
let q14 : Sp.Block := (([] : List tInst.den), (q6, q6, q13, q13, q13, List.replicate q10 q6, ()), ());
let q15 : Sp.Opd × Sp.Opd × Unit := (q13, q13, ());
let q16 : Sp.Opd × Sp.Opd × Sp.Opd × Unit := (q13, q15);
let q17 : Sp.Inst := (q6, q6, q6, q13, q16);
let q18 : Prop := q4 ≠ q6;
let q19 : Int := (6 : Int);
let q20 : Prop := q19 ≠ q6;
let q21 : Int := (12 : Int);
let q22 : Int := (11 : Int);
∀ (x : (List Int × Unit) × Unit),
 let q23 : List Sp.Block := Sp.cB (Sp.madeC x.1.1);
 let q24 : Nat := q23.length;
 let q25 : Sp.Code := (Sp.md4 x.1.1).2.2.1;
 let q26 : Int := q25.1;
 let q27 : Int × Int × Int × Int × List Sp.Arr × List Sp.Opd × List Sp.Block × Unit := q25.2;
 let q28 : Int := q27.1;
 let q29 : Int × Int × Int × List Sp.Arr × List Sp.Opd × List Sp.Block × Unit := q27.2;
 let q30 : Int := q29.1;
 let q31 : Int × List Sp.Arr × List Sp.Opd × List Sp.Block × Unit := q29.2.2;
 let q32 : Int := q31.1;
 let q33 : List Sp.Arr × List Sp.Opd × List Sp.Block × Unit := q31.2;
 let q34 : List Sp.Arr := q33.1;
 let q35 : List Sp.Opd := q33.2.1;
 let q36 : Sp.Code := Sp.setSl (Sp.madeC x.1.1) q4;
 let q37 : Prop := x.1 = x.1;
 let q38 : Prop := q37 /\ q9;
 True ->
 dFact (tU8.slice.prod Ty.unit) x.1 /\ True ->
 (q0 /\ True) /\
 ((True /\ True /\ ((Sp.cA (Sp.madeC x.1.1)).length <= q1 /\ (Sp.cL (Sp.madeC x.1.1)).length <= q1 /\ q24 <= q1 /\ ∀ (b : Sp.Block), b ∈ q23 -> b.1.length <= q1) /\ True /\ True) /\ True /\ True) /\
 q2 /\
 q3 /\
 (∃ (x_1 : Nat), x_1 <= q24 /\ (q26, q28, q30, q4, q32, q34, q35, Sp.setT (Sp.cB q25) (Sp.nB (Sp.md4 x.1.1) - q5) (Sp.tJ (5 : Int) q6 q6), ()) = Sp.setB q36 (Sp.slB (Sp.madeC x.1.1) x_1) /\ q6 = (↑x_1 : Int) /\ q38) /\
 ∀ (x_1 : Nat),
 let q39 : List Sp.Block := Sp.slB (Sp.madeC x.1.1) x_1;
 let q40 : Sp.Code := Sp.setB q36 q39;
 let q41 : Nat := q39.length;
 let q42 : Bool := decide ((↑x_1 : Int) < (↑q41 : Int));
 let q43 : List Sp.Inst := (Sp.blkAt (Sp.madeC x.1.1) x_1).1;
 let q44 : Nat := q43.length;
 let q45 : Prop := q37 /\ q8 /\ q40 = q40 /\ (↑x_1 : Int) = (↑x_1 : Int) /\ True;
 let q46 : Prop := inN (↑x_1 : Int) q41;
 let q47 : Nat := (↑x_1 : Int).toNat;
 let q48 : Sp.Block := q39.getD q47 q14;
 let q49 : List Sp.Inst := q48.1;
 let q50 : Nat := q49.length;
 let q51 : Int := (↑x_1 : Int).tmod q4;
 let q52 : Int := (↑x_1 : Int) + q5;
 x_1 <= q24 ->
 dFact (tI.prod (tI.prod (tI.prod (tI.prod (tI.prod (tArr.slice.prod (tLoop.slice.prod ((tInst.slice.prod ((tI.prod (tI.prod (tOpd.prod (tOpd.prod (tOpd.prod ((Ty.arr q10 tI).prod Ty.unit)))))).prod Ty.unit)).slice.prod Ty.unit)))))))) q40 /\ dFact tI (↑x_1 : Int) /\ True ->
 ((True /\ q12) /\ True) /\
 (q42 = true ->
 q2 /\
 q3 /\
 (∃ (x : Nat), x <= q44 /\ ([] : List tInst.den) = Sp.slL (↑x_1 : Int) q43 x /\ q6 = (↑x : Int) /\ q45) /\
 ∀ (x_2 : Nat),
 let q53 : List Sp.Inst := Sp.slL (↑x_1 : Int) q43 x_2;
 let q54 : Bool := decide ((↑x_2 : Int) < (↑q50 : Int));
 let q55 : List Sp.Inst := q49.getD (↑x_2 : Int).toNat q17 :: ([] : List tInst.den);
 let q56 : Bool := (↑x_2 : Int).tmod q4 == q6;
 let q57 : Int := (↑x_2 : Int) + q5;
 let q58 : Prop := inK IntKind.i64 q57;
 let q59 : List Sp.Inst := q53 ++ q55;
 let q60 : List Sp.Inst := (q21, q6, q51, q13, Sp.regO ((↑x_2 : Int).tmod q19), q15) :: (q22, q6, q51, Sp.regO (q57.tmod q19), q16) :: ([] : List tInst.den);
 let q61 : Prop := (True /\ q58 /\ True /\ True) /\ True;
 x_2 <= q44 -> dFact tInst.slice q53 /\ dFact tI (↑x_2 : Int) /\ True -> ((True /\ True /\ True /\ True /\ q46 /\ q12) /\ True) /\ (q54 = true -> ((True /\ True /\ True /\ True /\ q46 /\ True /\ True /\ True /\ inN (↑x_2 : Int) q50 /\ q0) /\ (↑(q53.length + q55.length) : Int) <= maxNew /\ True /\ True) /\ ((True /\ q18 /\ True /\ True) /\ True) /\ (q56 = true -> ((True /\ True /\ q18 /\ True /\ q20 /\ True /\ True /\ True /\ q18 /\ True /\ q58 /\ q20 /\ q11) /\ (↑(q59.length + q60.length) : Int) <= maxNew /\ True /\ True) /\ q61 /\ ∃ (y : Nat), y <= q44 /\ q44 - y < q44 - x_2 /\ q59 ++ q60 = Sp.slL (↑x_1 : Int) q43 y /\ q57 = (↑y : Int) /\ q45) /\ (q56 = false -> q61 /\ ∃ (y : Nat), y <= q44 /\ q44 - y < q44 - x_2 /\ q59 = Sp.slL (↑x_1 : Int) q43 y /\ q57 = (↑y : Int) /\ q45)) /\ (q54 = false -> ((True /\ True /\ True /\ True /\ q46 /\ True /\ True) /\ True /\ True) /\ ((True /\ inK IntKind.i64 q52 /\ True /\ True) /\ True) /\ ∃ (y : Nat), y <= q24 /\ q24 - y < q24 - x_1 /\ (q26, q28, q30, q4, q32, q34, q35, q39.set q47 (q53, q48.2), ()) = Sp.setB q36 (Sp.slB (Sp.madeC x.1.1) y) /\ q52 = (↑y : Int) /\ q38)) /\
 (q42 = false -> q2 /\ q40 = Sp.sloC x.1.1)) := by kernel_rfl
end Go.User
namespace Go.User
open Go.Lf Go.Proofs
set_option maxHeartbeats 1000000 in
theorem ok43 : FOk Try.prog 43 S43 := by
 have hC : CtxOK Try.prog C43 := okA fns_nil
 refine FOk.intro hC (stpS_ok hC) Try.call43 Try.func43 (by kernel_rfl) (by kernel_rfl) L43 ?_
 rw [vc43]
 simp only [zz, zy]
 rintro ⟨l, x, u⟩ ⟨hx, hr⟩ _
 dsimp only at hx hr ⊢
 have hx : List.length x <= 5000 := hx
 have hr : ∀ k ∈ (x : List Int), 0 <= k /\ k < (List.length l : Int) := hr
 refine ⟨⟨Int.natCast_nonneg _, Int.le_refl _, maxN (by omega)⟩, ⟨0, Nat.zero_le _, rfl, rfl⟩, ?_⟩
 intro i hi _
 have hi : i <= List.length x := hi
 have el : (Sp.reoL l (List.take i x) ++ List.replicate (List.length x - i) Sp.inst0).length = List.length x := by
  unfold Sp.reoL;rw [List.length_append, List.length_map, List.length_replicate, List.length_take];omega
 refine ⟨fun hlt => ?_, fun hge => ?_⟩
 ·have hlt : (i : Int) < (List.length x : Int) := hlt
  have hil : i < List.length x := by omega
  refine ⟨inN_of hlt, ⟨hr _ (Sp.mem_getD hlt), by rw [el]; exact inN_of hlt⟩, inK_mid (by omega) (by omega), i + 1, by show i + 1 <= List.length x; omega, by show List.length x - (i + 1) < List.length x - i; omega, rfl, ?_⟩
  have e1 : Sp.reoL l (List.take (i + 1) x) = Sp.reoL l (List.take i x) ++ [Sp.insAt l (x[i]'hil).toNat] := by
   unfold Sp.reoL;rw [List.take_add_one, List.getElem?_eq_getElem hil, List.map_append]; rfl
  have e2 : List.length x - i = List.length x - (i + 1) + 1 := by omega
  have e3 : (Sp.reoL l (List.take i x)).length = i := by
   unfold Sp.reoL;rw [List.length_map, List.length_take]; omega
  have e4 : List.getD x i 0 = x[i]'hil := by rw [List.getD_eq_getElem?_getD, List.getElem?_eq_getElem hil]; rfl
  rw [e1, e2, List.replicate_succ, List.set_append_right _ _ (by omega), e3, Nat.sub_self, List.set_cons_zero, List.append_assoc];refine congrArg (fun v => Sp.reoL l (List.take i x) ++ v) ?_
  show _ = Sp.insAt l (x[i]'hil).toNat :: _
  rw [<- e4]
  rfl
 ·have hge : (List.length x : Int) <= (i : Int) := hge
  have e : List.length x - i = 0 := by omega
  rw [e, List.take_of_length_le (by omega)];exact List.append_nil _
end Go.User
namespace Sp
theorem doneL_len (o : List Int) (n : Nat) : (doneL o n).length = n := by unfold doneL; rw [List.length_map, List.length_range]
theorem doneL_at (o : List Int) {n i : Nat} (h : i < n) (d : Bool) : (doneL o n).getD i d = mem o (i : Int) := getD_map_range _ h d
theorem doneL_nil (n : Nat) : List.replicate n false = doneL [] n := by
 refine ext_getD false (by rw [List.length_replicate, doneL_len]) fun i hi => ?_
 rw [List.length_replicate] at hi
 rw [doneL_at _ hi, List.getD_eq_getElem?_getD, List.getElem?_replicate, if_pos hi]; rfl
theorem doneL_set (o : List Int) {n m : Nat} (h : m < n) : (doneL o n).set m true = doneL (o ++ [(m : Int)]) n := by
 refine ext_getD false (by rw [List.length_set, doneL_len, doneL_len]) fun i hi => ?_
 rw [List.length_set, doneL_len] at hi
 rw [getD_set _ _ _ _ _ (by rw [doneL_len]; exact h), doneL_at _ hi, doneL_at _ hi]
 unfold mem
 rcases Nat.decEq m i with hne | rfl
 ·rw [if_neg hne]
  refine decide_eq_decide.2 ?_
  rw [List.mem_append, List.mem_singleton];exact ⟨.inl, fun h => h.elim id fun h => absurd (by omega) hne⟩
 ·rw [if_pos rfl]
  exact (decide_eq_true (List.mem_append.2 (.inr (List.mem_singleton.2 rfl)))).symm
theorem mskL_len (dep : Inst -> Inst -> Bool) (l : List Inst) : (mskL dep l).length = l.length := by unfold mskL; rw [List.length_map, List.length_range]
theorem mskL_at (dep : Inst -> Inst -> Bool) (l : List Inst) {i : Nat} (h : i < l.length) (d : List Bool) : (mskL dep l).getD i d = mskI dep l i := getD_map_range _ h d
theorem mskI_len (dep : Inst -> Inst -> Bool) (l : List Inst) (i : Nat) : (mskI dep l i).length = i := by unfold mskI; rw [List.length_map, List.length_range]
theorem mskI_at (dep : Inst -> Inst -> Bool) (l : List Inst) {i j : Nat} (h : j < i) (d : Bool) : (mskI dep l i).getD j d = dep (insAt l j) (insAt l i) := getD_map_range _ h d
theorem nxS_skip {rdy ld : Nat -> Bool} {i : Nat} (h : rdy i = false) : nxS rdy ld i = nxS rdy ld (i + 1) := by
 show _ = (if _ then _ else _)
 rw [h]; rfl
theorem nxS_take {rdy ld : Nat -> Bool} {i : Nat} (h : rdy i = true) (h2 : nxS rdy ld i < 0) : (i : Int) = nxS rdy ld (i + 1) := by
 show _ = (if _ then _ else _)
 rw [h, decide_eq_true h2]; rfl
theorem nxS_stay2 {rdy ld : Nat -> Bool} {i : Nat} (h : ld i = false) (h2 : 0 <= nxS rdy ld i) : nxS rdy ld i = nxS rdy ld (i + 1) := by
 show _ = (if _ then _ else _)
 rw [h, decide_eq_false (by omega)]
 simp
theorem atL_len (x : List Int) (n k : Nat) : (atL x n k).length = n := by unfold atL; rw [List.length_map, List.length_range]
theorem atL_at (x : List Int) {n i : Nat} (k : Nat) (h : i < n) (d : Int) : (atL x n k).getD i d = if (i : Int) ∈ x.take k then (((x.take k).idxOf (i : Int) : Nat) : Int) else -1 := getD_map_range _ h d
theorem atL_zero (x : List Int) (n : Nat) : List.replicate n (-1) = atL x n 0 := by
 refine ext_getD 0 (by rw [List.length_replicate, atL_len]) fun i hi => ?_
 rw [List.length_replicate] at hi
 rw [atL_at _ _ hi, List.getD_eq_getElem?_getD, List.getElem?_replicate, if_pos hi]
 simp
theorem atL_mem {x : List Int} {n k : Nat} {v d : Int} (h0 : 0 <= v) (h1 : v < (n : Int)) : 0 <= (atL x n k).getD v.toNat d ↔ v ∈ x.take k := by
 rw [atL_at x k (by omega)]
 have e : ((v.toNat : Nat) : Int) = v := by omega
 rw [e]
 split
 ·rename_i h; exact ⟨fun _ => h, fun _ => by omega⟩
 ·rename_i h; exact ⟨fun h' => by omega, fun h' => absurd h' h⟩
theorem take_succ_at {x : List Int} {k : Nat} {d : Int} (h : k < x.length) : x.take (k + 1) = x.take k ++ [x.getD k d] := by
 rw [List.take_add_one, List.getElem?_eq_getElem h, List.getD_eq_getElem?_getD, List.getElem?_eq_getElem h]
 rfl
theorem atL_set {x : List Int} {n k : Nat} {d : Int} (hk : k < x.length) (h0 : 0 <= x.getD k d) (h1 : x.getD k d < (n : Int)) (hn : x.getD k d ∉ x.take k) : (atL x n k).set (x.getD k d).toNat (k : Int) = atL x n (k + 1) := by
 generalize hv : x.getD k d = v at *
 refine ext_getD 0 (by rw [List.length_set, atL_len, atL_len]) fun i hi => ?_
 rw [List.length_set, atL_len] at hi
 rw [getD_set _ _ _ _ _ (by rw [atL_len]; omega), atL_at _ _ hi, atL_at _ _ hi, take_succ_at (d := d) hk, hv]
 have hlk : (x.take k).length = k := by rw [List.length_take]; omega
 rcases Nat.decEq v.toNat i with hne | he
 ·rw [if_neg hne]
  have hiv : (i : Int) ≠ v := fun e => hne (by omega)
  rcases Classical.em ((i : Int) ∈ x.take k) with hm | hm
  ·rw [if_pos hm, if_pos (List.mem_append.2 (.inl hm)), List.idxOf_append, if_pos hm]
  ·rw [if_neg hm, if_neg]
   rw [List.mem_append, List.mem_singleton];exact fun h => h.elim hm hiv
 ·rw [if_pos he]
  have hiv : (i : Int) = v := by omega
  rw [hiv, if_pos (List.mem_append.2 (.inr (List.mem_singleton.2 rfl))), List.idxOf_append, if_neg hn, hlk]
  simp
theorem nodup_take_succ {x : List Int} {k : Nat} {d : Int} (hk : k < x.length) (h : (x.take k).Nodup) (hn : x.getD k d ∉ x.take k) : (x.take (k + 1)).Nodup := by
 rw [take_succ_at (d := d) hk]
 refine List.nodup_append.2 ⟨h, List.nodup_cons.2 ⟨List.not_mem_nil, List.nodup_nil⟩, ?_⟩
 intro a ha b hb hab
 rw [List.mem_singleton] at hb
 rw [hab, hb] at ha
 exact hn ha
theorem idx_at {x : List Int} {v : Int} (h : v ∈ x) : xAt x (x.idxOf v) = v := by
 have hl := List.idxOf_lt_length_of_mem h
 unfold xAt
 rw [List.getD_eq_getElem?_getD, List.getElem?_eq_getElem hl]
 exact List.getElem_idxOf hl
theorem idx_of_at {x : List Int} (hn : x.Nodup) {p : Nat} (hp : p < x.length) : x.idxOf (xAt x p) = p := by
 unfold xAt
 rw [List.getD_eq_getElem?_getD, List.getElem?_eq_getElem hp]
 exact List.Nodup.idxOf_getElem hn p hp
theorem mem_getD' {x : List Int} {p : Nat} (hp : p < x.length) : xAt x p ∈ x := by
 unfold xAt
 rw [List.getD_eq_getElem?_getD, List.getElem?_eq_getElem hp]
 exact List.getElem_mem hp
theorem rgt_at {dep : Inst -> Inst -> Bool} {l : List Inst} {x : List Int} (hl : x.length = l.length) (hn : x.Nodup) (hr : ∀ k ∈ x, 0 <= k /\ k < (l.length : Int)) :
  rgtB (fun a b => dep b a) l x = true ↔ ∀ k, k < l.length -> ∀ j, j < k -> dep (insAt l j) (insAt l k) = true -> xAt (atL x l.length x.length) j <= xAt (atL x l.length x.length) k := by
 have hin := in_perm hl hn hr
 have hpos : ∀ i, i < l.length -> xAt (atL x l.length x.length) i = ((x.idxOf (i : Int) : Nat) : Int) := by
  intro i hi;unfold xAt;rw [atL_at x x.length hi, List.take_length, if_pos (hin i hi)]
 rw [rgtB_iff]
 constructor
 ·rintro ⟨_, _, h⟩ k hk j hj hd
  rw [hpos k hk, hpos j (by omega)]
  apply Classical.byContradiction
  intro hc;have hb := h (x.idxOf (k : Int)) (List.idxOf_lt_length_of_mem (hin k hk)) (x.idxOf (j : Int)) (List.idxOf_lt_length_of_mem (hin j (by omega)));rw [<- Bool.not_eq_true, badP_iff] at hb
  apply hb
  rw [idx_at (hin k hk), idx_at (hin j (by omega))];exact ⟨by omega, by omega, hd⟩
 ·intro h
  refine ⟨hl, hin, fun p hp q hq => ?_⟩
  rw [<- Bool.not_eq_true, badP_iff];rintro ⟨h1, h2, h3⟩;have hxp : xAt x p ∈ x := mem_getD' hp;have hxq : xAt x q ∈ x := mem_getD' hq;have rp := hr _ hxp;have rq := hr _ hxq;have := h (xAt x p).toNat (by omega) (xAt x q).toNat (by omega) h3;rw [hpos _ (by omega), hpos _ (by omega)] at this;have ep : (((xAt x p).toNat : Nat) : Int) = xAt x p := by omega
  have eq : (((xAt x q).toNat : Nat) : Int) = xAt x q := by omega
  rw [ep, eq, idx_of_at hn hp, idx_of_at hn hq] at this;omega
end Sp
namespace Go.User
open Go.Lf Go.Proofs
theorem mem_b {l : List Int} {n : Int} : Sp.mem l n = false ↔ n ∉ l := by rw [<- Bool.not_eq_true, Sp.mem_of]
set_option maxHeartbeats 4000000 in
theorem ok59 (h65 : FOk Try.prog 65 S65) : FOk Try.prog 59 S59 := by
 have hC : CtxOK Try.prog C59 := okA (fns_cons h65 fns_nil)
 refine FOk.introT hC (stpS_ok hC) Try.call59 Try.func59 rfl (by kernel_rfl) T59 ?_
 rw [vc59]
 simp only [zz, zy]
 rintro ⟨c, l, u⟩ hl _
 dsimp only at hl ⊢
 have hlen : List.length l <= 3000 := hl.1
 refine ⟨hl, ⟨Int.natCast_nonneg _, Int.le_refl _, maxN (by omega)⟩, ⟨0, Nat.zero_le _, rfl, Sp.doneL_nil _⟩, ?_⟩
 intro k hk _
 have hk : k <= List.length l := hk
 have hol := Sp.ordN_len (Sp.stpO (Sp.depP c) l) k
 have hst : ∀ o, Sp.stpO (Sp.depP c) l o = Sp.nxS (Sp.rdyB (Sp.depP c) l o) (Sp.ldB l) (List.length l) := fun _ => rfl
 have hord : ∀ k, Sp.ordN (Sp.stpO (Sp.depP c) l) (k + 1) = Sp.ordN (Sp.stpO (Sp.depP c) l) k ++ [Sp.stpO (Sp.depP c) l (Sp.ordN (Sp.stpO (Sp.depP c) l) k)] := fun _ => rfl
 refine ⟨fun hlt => ?_, fun hge => ?_⟩
 ·rw [hol] at hlt
  have hlt : (k : Int) < (List.length l : Int) := hlt
  have hsp := Sp.stpO_spec (Sp.depP c) l (out := Sp.ordN (Sp.stpO (Sp.depP c) l) k) (by rw [hol]; omega)
  have hk1 := hord k
  clear hord;generalize hO : Sp.ordN (Sp.stpO (Sp.depP c) l) k = O at *;have hR : ∀ i, Sp.rdyB (Sp.depP c) l O i = true ↔ (i : Int) ∉ O /\ ∀ j, j < i -> (j : Int) ∈ O ∨ Sp.depP c (Sp.insAt l j) (Sp.insAt l i) = false := fun i => Sp.rdyB_iff _ _ _ _
  refine ⟨⟨⟨0, ⟨Nat.zero_le _, fun k hk => absurd hk (Nat.not_lt_zero k)⟩, rfl, rfl⟩, ?_⟩, fun _ => ?_⟩
  ·intro i hi _
   obtain ⟨h1, h2⟩ := hi;have h1 : i <= List.length l := h1;refine ⟨fun hil => ?_, fun hge => ⟨(), ?_⟩⟩
   ·have hil : (i : Int) < (List.length l : Int) := hil
    have hin : inN (i : Int) (Sp.doneL O (List.length l)).length := by rw [Sp.doneL_len]; exact inN_of hil
    have hK : inK .i64 ((i : Int) + 1) := inK_mid (by omega) (by omega)
    have hdec : List.length l - (i + 1) < List.length l - i := by omega
    have NEXT : ¬ (Sp.rdyB (Sp.depP c) l O i = true /\ Sp.ldB l i = true) -> ∀ k, k < i + 1 -> ¬ (Sp.rdyB (Sp.depP c) l O k = true /\ Sp.ldB l k = true) := by
     intro h k hk;rcases Nat.lt_succ_iff_lt_or_eq.1 hk with g | g
     ·exact h2 k g
     ·rw [g]; exact h
    have SKIP : Sp.rdyB (Sp.depP c) l O i = false -> ∃ (y : Nat), (y <= List.length l /\ ∀ (k : Nat), k < y -> ¬(Sp.rdyB (Sp.depP c) l O k = true /\ Sp.ldB l k = true)) /\ List.length l - y < List.length l - i /\ (i : Int) + 1 = (y : Int) /\ Sp.nxS (Sp.rdyB (Sp.depP c) l O) (Sp.ldB l) i = Sp.nxS (Sp.rdyB (Sp.depP c) l O) (Sp.ldB l) y :=
     fun h => ⟨i + 1, ⟨by omega, NEXT (by rw [h]; exact fun h => by cases h.1)⟩, hdec, rfl, Sp.nxS_skip h⟩
    refine ⟨hin, fun hd => ⟨hK, SKIP ?_⟩, fun hd => ?_⟩
    ·rw [Sp.doneL_at _ (by omega)] at hd
     rw [<- Bool.not_eq_true, hR];exact fun h => h.1 ((Sp.mem_of _ _).1 hd)
    ·rw [Sp.doneL_at _ (by omega)] at hd
     have hd := mem_b.1 hd
     have em : (Sp.mskL (Sp.depP c) l).getD i [] = Sp.mskI (Sp.depP c) l i := Sp.mskL_at _ _ (by omega) _
     rw [em, Sp.mskI_len];refine ⟨by rw [Sp.mskL_len]; exact inN_of hil, ⟨0, ⟨Nat.zero_le _, rfl⟩, rfl, rfl⟩, ?_⟩;intro j hj _;obtain ⟨g1, g2⟩ := hj;have g1 : j <= i := g1;have g2 := Sp.all_range.1 g2;refine ⟨fun hji => ?_, fun hjg => ?_⟩
     ·have hji : (j : Int) < (i : Int) := hji
      have ej : (Sp.mskI (Sp.depP c) l i).getD j false = Sp.depP c (Sp.insAt l j) (Sp.insAt l i) := Sp.mskI_at _ _ (by omega) _
      have edj : (Sp.doneL O (List.length l)).getD j false = Sp.mem O (j : Int) := Sp.doneL_at _ (by omega) _
      rw [ej, edj, Sp.doneL_len];refine ⟨inN_of hji, fun _ => ⟨by omega, by omega⟩, fun hc => ⟨hK, SKIP ?_⟩, fun hc => ⟨inK_mid (by omega) (by omega), j + 1, ⟨by show j + 1 <= i; omega, Sp.all_range.2 fun a ha => ?_⟩, by show i - (j + 1) < i - j; omega, rfl⟩⟩
      ·rw [<- Bool.not_eq_true, hR]
       intro h;rcases h.2 j (by omega) with h | h
       ·exact (mem_b.1 hc.2) h
       ·rw [hc.1] at h; cases h
      ·rcases Nat.lt_succ_iff_lt_or_eq.1 ha with g | g
       ·exact g2 a g
       ·rw [g]
        revert hc
        cases Sp.depP c (Sp.insAt l j) (Sp.insAt l i) <;> cases Sp.mem O (j : Int) <;> simp
     ·have hjg : (i : Int) <= (j : Int) := hjg
      have hready : Sp.rdyB (Sp.depP c) l O i = true := by
       rw [hR];refine ⟨hd, fun a ha => ?_⟩
       have := g2 a (by omega)
       rw [Bool.or_eq_true, Sp.mem_of, Bool.not_eq_true'] at this;exact this
      refine ⟨inN_of hil, fun hop => ⟨(), ?_⟩, fun hop => ?_⟩
      ·rw [hst]
       exact (Sp.nxS_stay _ _ hready (decide_eq_true hop) h2 _ (by omega)).symm
      ·have hldf : Sp.ldB l i = false := decide_eq_false hop
       have hno : ¬ (Sp.rdyB (Sp.depP c) l O i = true /\ Sp.ldB l i = true) := by rw [hldf]; exact fun h => by cases h.2
       refine ⟨fun hneg => ⟨hK, i + 1, ⟨by show i + 1 <= List.length l; omega, NEXT hno⟩, hdec, rfl, Sp.nxS_take hready hneg⟩, fun hpos => ⟨hK, i + 1, ⟨by show i + 1 <= List.length l; omega, NEXT hno⟩, hdec, rfl, Sp.nxS_stay2 hldf hpos⟩⟩
   ·have hge : (List.length l : Int) <= (i : Int) := hge
    have : i = List.length l := by omega
    rw [this, hst]
  ·obtain ⟨m, hm, em, _⟩ := hsp
   rw [em] at hk1 ⊢;refine ⟨by rw [Sp.doneL_len]; exact ⟨by omega, by omega⟩, maxN (by omega), k + 1, by show k + 1 <= List.length l; omega, by show List.length l - (k + 1) < List.length l - k; omega, ?_, ?_⟩
   ·rw [hk1]
   ·rw [hk1, Int.toNat_natCast]
    exact Sp.doneL_set _ hm
 ·rw [hol] at hge
  have hge : (List.length l : Int) <= (k : Int) := hge
  have : k = List.length l := by omega
  rw [this]; rfl
set_option maxHeartbeats 4000000 in
theorem ok41 (h65 : FOk Try.prog 65 S65) : FOk Try.prog 41 S41 := by
 have hC : CtxOK Try.prog C41 := okA (fns_cons h65 fns_nil)
 refine FOk.intro hC (stpS_ok hC) Try.call41 Try.func41 (by kernel_rfl) (by kernel_rfl) L41 ?_
 rw [vc41]
 simp only [zz, zy]
 rintro ⟨c, l, x, u⟩ hl hfx
 dsimp only at hl ⊢
 have hlen : List.length l <= 3000 := hl.1
 have NR : ∀ {p : Prop}, (Sp.rgtB (Sp.depQ c) l x = true -> p) -> ¬ p -> false = Sp.rgtB (Sp.depQ c) l x := fun h1 h2 => Sp.fa_of fun e => h2 (h1 e)
 have RP : Sp.rgtB (Sp.depQ c) l x = true -> List.length x = List.length l /\ List.Nodup x /\ (∀ k ∈ (x : List Int), 0 <= k /\ k < (List.length l : Int)) := fun h => by
  obtain ⟨h1, h2, h3, _⟩ := Sp.rgtB_perm h;exact ⟨h1, h2, h3⟩
 refine ⟨⟨Int.natCast_nonneg _, Int.le_refl _, maxN (by omega)⟩, ⟨0, Nat.zero_le _, rfl, congrArg _ List.length_replicate, rfl⟩, ?_⟩
 intro n hn _
 have hn : n <= List.length l := hn
 refine ⟨fun hlt => ?_, fun hge => ?_⟩
 ·have hlt : (n : Int) < (List.length l : Int) := hlt
  refine ⟨?_, inK_mid (by omega) (by omega), n + 1, by show n + 1 <= List.length l; omega, by show List.length l - (n + 1) < List.length l - n; omega, rfl, ?_⟩
  ·rw [List.length_append, List.length_replicate, List.length_replicate]
   exact ⟨by omega, by omega⟩
  ·have e2 : List.length l - n = List.length l - (n + 1) + 1 := by omega
   rw [e2, List.replicate_succ, List.set_append_right _ _ (by rw [List.length_replicate]; exact Nat.le_refl _), List.length_replicate, Nat.sub_self, List.set_cons_zero, List.replicate_succ' (n := n), List.append_assoc]
   rfl
 have hge : (List.length l : Int) <= (n : Int) := hge
 have hnl : n = List.length l := by omega
 subst hnl
 refine ⟨⟨0, ⟨Nat.zero_le _, List.nodup_nil, fun k hk => (List.not_mem_nil hk).elim⟩, rfl, ?_⟩, ?_⟩
 ·rw [Nat.sub_self, <- Sp.atL_zero]
  exact List.append_nil _
 intro k hk _
 obtain ⟨h1, h2, h3⟩ := hk
 have h1 : k <= List.length x := h1
 have h2 : List.Nodup (List.take k x) := h2
 have h3 : ∀ v ∈ (List.take k x : List Int), 0 <= v /\ v < (List.length l : Int) := h3
 refine ⟨fun hlt => ?_, fun hge => ?_⟩
 ·have hlt : (k : Int) < (List.length x : Int) := hlt
  have hkx : k < List.length x := by omega
  have hm := Sp.mem_getD (d := 0) hlt
  refine ⟨inN_of hlt, fun hb => by rw [Sp.atL_len]; exact hb, fun hb => NR RP ?_, fun hb => ?_⟩
  ·rintro ⟨r1, r2, r3⟩
   have hv := r3 _ hm
   have hv1 : ¬ (List.getD x k 0 < 0) := by omega
   have hv2 : ¬ ((List.length l : Int) <= List.getD x k 0) := by omega
   have hb : (decide (List.getD x k 0 < 0) || decide ((List.length l : Int) <= List.getD x k 0) || decide (0 <= (Sp.atL x (List.length l) k).getD (Int.toNat (List.getD x k 0)) 0)) = true := hb
   rw [decide_eq_false hv1, decide_eq_false hv2, Bool.false_or, Bool.false_or] at hb;have hin := (Sp.atL_mem hv.1 hv.2).1 (of_decide_eq_true hb);have hnd := List.Sublist.nodup (List.take_sublist (k + 1) x) r2;rw [Sp.take_succ_at (d := 0) hkx] at hnd;exact (List.nodup_append.1 hnd).2.2 _ hin _ (List.mem_singleton.2 rfl) rfl
  ·obtain ⟨⟨v0, v1⟩, v2⟩ := hb
   have v0 : 0 <= List.getD x k 0 := v0
   have v1 : List.getD x k 0 < (List.length l : Int) := v1
   have hnin : List.getD x k 0 ∉ List.take k x := fun hc => by
    have := (Sp.atL_mem (d := 0) v0 v1).2 hc
    have v2 : (Sp.atL x (List.length l) k).getD (Int.toNat (List.getD x k 0)) 0 < 0 := v2
    omega
   refine ⟨by rw [Sp.atL_len]; exact ⟨v0, v1⟩, inK_succ hlt ?_, k + 1, ⟨by show k + 1 <= List.length x; omega, Sp.nodup_take_succ (d := 0) hkx h2 hnin, fun v hv => ?_⟩, by show List.length x - (k + 1) < List.length x - k; omega, rfl, Sp.atL_set (d := 0) hkx v0 v1 hnin⟩
   ·exact hfx.2.2.1
   ·rcases (Sp.mem_take_succ (d := 0) hlt).1 hv with h | h
    ·exact h3 v h
    ·rw [<- h]; exact ⟨v0, v1⟩
 have hge : (List.length x : Int) <= (k : Int) := hge
 have hkx : k = List.length x := by omega
 subst hkx
 rw [List.take_length] at h2 h3
 refine ⟨fun hne => NR RP fun h => hne (congrArg _ h.1), fun he => ?_⟩
 have he : List.length x = List.length l := Int.ofNat.inj he
 have hrg := Sp.rgt_at (dep := Sp.depP c) he h2 h3
 have hrg : Sp.rgtB (Sp.depQ c) l x = true ↔ _ := hrg
 refine ⟨hl, ⟨0, ⟨Nat.zero_le _, fun k hk => absurd hk (Nat.not_lt_zero k)⟩, rfl, congrArg _ (Sp.mskL_len _ _)⟩, ?_⟩
 intro i hi _
 obtain ⟨g1, g2⟩ := hi
 have g1 : i <= List.length l := g1
 refine ⟨fun hil => ?_, fun hig => Sp.tr_of (hrg.2 fun k hk j hj hd => g2 k ?_ j hj hd)⟩
 ·have hil : (i : Int) < (List.length l : Int) := hil
  have em : (Sp.mskL (Sp.depP c) l).getD i [] = Sp.mskI (Sp.depP c) l i := Sp.mskL_at _ _ (by omega) _
  rw [em, Sp.mskI_len, Sp.mskL_len, Sp.atL_len];refine ⟨inN_of hil, ⟨0, ⟨Nat.zero_le _, fun k hk => absurd hk (Nat.not_lt_zero k)⟩, rfl, rfl⟩, ?_⟩
  intro j hj _;obtain ⟨k1, k2⟩ := hj;have k1 : j <= i := k1;refine ⟨fun hji => ?_, fun hjg => ⟨inK_mid (by omega) (by omega), i + 1, ⟨by show i + 1 <= List.length l; omega, fun k hk a ha hd => ?_⟩, by show List.length l - (i + 1) < List.length l - i; omega, rfl⟩⟩
  ·have hji : (j : Int) < (i : Int) := hji
   have ej : (Sp.mskI (Sp.depP c) l i).getD j false = Sp.depP c (Sp.insAt l j) (Sp.insAt l i) := Sp.mskI_at _ _ (by omega) _
   rw [ej];refine ⟨inN_of hji, ⟨fun _ => ⟨by omega, by omega⟩, fun _ => inN_of hil⟩, fun hb => NR hrg.1 fun h => ?_, fun hb => ⟨inK_mid (by omega) (by omega), j + 1, ⟨by show j + 1 <= i; omega, fun k hk hd => ?_⟩, by show i - (j + 1) < i - j; omega, rfl⟩⟩
   ·have := h i (by omega) j (by omega) hb.1
    have h2 := hb.2
    unfold Sp.xAt at this;have h2 : (Sp.atL x (List.length l) (List.length x)).getD i 0 < (Sp.atL x (List.length l) (List.length x)).getD j 0 := h2;omega
   ·rcases Nat.lt_succ_iff_lt_or_eq.1 hk with g | g
    ·exact k2 k g hd
    ·subst g
     have hb : (Sp.depP c (Sp.insAt l k) (Sp.insAt l i) && decide ((Sp.atL x (List.length l) (List.length x)).getD i 0 < (Sp.atL x (List.length l) (List.length x)).getD k 0)) = false := hb
     have hd : Sp.depP c (Sp.insAt l k) (Sp.insAt l i) = true := hd
     rw [hd, Bool.true_and] at hb;have := of_decide_eq_false hb;show (Sp.atL x (List.length l) (List.length x)).getD k 0 <= (Sp.atL x (List.length l) (List.length x)).getD i 0;omega
  ·have hjg : (i : Int) <= (j : Int) := hjg
   rcases Nat.lt_succ_iff_lt_or_eq.1 hk with g | g
   ·exact g2 k g a ha hd
   ·subst g; exact k2 a (by omega) hd
 ·have hig : (List.length l : Int) <= (i : Int) := hig
  omega
end Go.User
namespace Sp
theorem slB_len (c : Code) (n : Nat) : (slB c n).length = (cB c).length := by unfold slB; rw [List.length_map, List.length_range]
theorem slB_at (c : Code) (n : Nat) {b : Nat} (h : b < (cB c).length) (d : Block) : (slB c n).getD b d = if b < n then (slL (b : Int) (blkAt c b).1 (blkAt c b).1.length, (blkAt c b).2) else blkAt c b := getD_map_range _ h d
theorem slB_zero (c : Code) : slB c 0 = cB c := by
 refine ext_getD blk0 (slB_len c 0) fun b hb => ?_
 rw [slB_len] at hb
 rw [slB_at c 0 hb, if_neg (by omega)]; rfl
theorem slB_succ (c : Code) {n : Nat} (h : n < (cB c).length) (d : Block) : (slB c n).set n (slL (n : Int) (blkAt c n).1 (blkAt c n).1.length, ((slB c n).getD n d).2) = slB c (n + 1) := by
 refine ext_getD blk0 (by rw [List.length_set, slB_len, slB_len]) fun b hb => ?_
 rw [List.length_set, slB_len] at hb
 rw [slB_at c (n + 1) hb, getD_set _ _ _ _ _ (by rw [slB_len]; exact h), slB_at c n hb, slB_at c n h]
 rcases Nat.lt_trichotomy b n with g | g | g
 ·rw [if_neg (by omega), if_pos g, if_pos (by omega)]
 ·rw [if_pos g.symm, if_neg (by omega), if_pos (by omega), g]
 ·rw [if_neg (by omega), if_neg (by omega), if_neg (by omega)]
theorem slL_len (b : Int) (l : List Inst) : ∀ k, (slL b l k).length <= 3 * k
 | 0 => Nat.le_refl _
 | k + 1 => by
  have := slL_len b l k
  show (slL b l k ++ [insAt l k] ++ slI b k).length <= _
  have h2 : (slI b k).length <= 2 := by
   unfold slI;split
   ·exact Nat.le_refl _
   ·exact Nat.zero_le _
  rw [List.length_append, List.length_append, List.length_singleton];omega
theorem headB_iff' (a b : Code) : headB a b = true ↔ a.1 = b.1 /\ a.2.1 = b.2.1 /\ a.2.2.1 = b.2.2.1 /\ a.2.2.2.1 = b.2.2.2.1 /\ a.2.2.2.2.1 = b.2.2.2.2.1 /\ cA a = cA b /\ cL a = cL b := by
 unfold headB
 simp only [Bool.and_eq_true, decide_eq_true_iff, and_assoc]
theorem code_ext' {a b : Code} (h : headB a b = true) (hB : cB a = cB b) : a = b := by
 obtain ⟨h1, h2, h3, h4, h5, h6, h7⟩ := (headB_iff' a b).1 h
 obtain ⟨a1, a2, a3, a4, a5, a6, a7, a8, _⟩ := a
 obtain ⟨b1, b2, b3, b4, b5, b6, b7, b8, _⟩ := b
 unfold cA at h6; unfold cL at h7; unfold cB at hB
 dsimp only at h1 h2 h3 h4 h5 h6 h7 hB
 rw [h1, h2, h3, h4, h5, h6, h7, hB]
theorem eqCode_iff' (a b : Code) : eqCode a b = true ↔ a = b := by unfold eqCode; exact @decide_eq_true_iff _ (Classical.propDecidable _)
theorem reoC_eq (c d : Code) (X : List (List Int)) : reoC c X = d ↔ headB c d = true /\ (cB d).length = (cB c).length /\ ∀ k, k < (cB c).length -> reoK c X k = blkAt d k := by
 constructor
 ·rintro rfl
  refine ⟨(headB_iff' _ _).2 ⟨rfl, rfl, rfl, rfl, rfl, rfl, rfl⟩, reoN_len c X _, fun k hk => ?_⟩
  show _ = (reoN c X (cB c).length).getD k blk0
  rw [reoN_at c X _ hk, if_pos hk]
 ·rintro ⟨h1, h2, h3⟩
  refine code_ext' ?_ ?_
  ·obtain ⟨g1, g2, g3, g4, g5, g6, g7⟩ := (headB_iff' c d).1 h1
   exact (headB_iff' _ _).2 ⟨g1, g2, g3, g4, g5, g6, g7⟩
  ·show reoN c X (cB c).length = cB d
   refine ext_getD blk0 (by rw [reoN_len, h2]) fun k hk => ?_
   rw [reoN_len] at hk;rw [reoN_at c X _ hk, if_pos hk, h3 k hk]; rfl
theorem chk_iff (dep : Code -> Inst -> Inst -> Bool) (c d : Code) (X : List (List Int)) : (rgtA dep c X && eqCode (reoC c X) d) = true ↔ headB c d = true /\ (cB d).length = (cB c).length /\ X.length = (cB c).length /\ ∀ k, k < (cB c).length -> rgtB (dep c) (blkAt c k).1 (xsAt X k) = true /\ reoK c X k = blkAt d k := by
 rw [Bool.and_eq_true, eqCode_iff', reoC_eq]
 unfold rgtA
 rw [Bool.and_eq_true, decide_eq_true_iff, all_range]
 constructor
 ·rintro ⟨⟨h1, h2⟩, h3, h4, h5⟩
  exact ⟨h3, h4, h1, fun k hk => ⟨h2 k hk, h5 k hk⟩⟩
 ·rintro ⟨h1, h2, h3, h4⟩
  exact ⟨⟨h3, fun k hk => (h4 k hk).1⟩, h1, h2, fun k hk => (h4 k hk).2⟩
end Sp
namespace Go.User
theorem made_ok (L : List Int) (hb : Sp.Byt (Sp.md0 L)) : codeOK 800 (Sp.madeC L) := by
 have h := (Sp.MkOK.md4 L hb).1.wT (Sp.nB (Sp.md4 L) - 1) (Sp.tJ 5 0 0)
 refine ⟨?_, h.lps, h.blk, h.ins⟩
 have : Sp.cA (Sp.madeC L) = Sp.arrs := h.arr
 rw [this]; decide
theorem made_arr (L : List Int) (hb : Sp.Byt (Sp.md0 L)) : Sp.cA (Sp.madeC L) = Sp.arrs := ((Sp.MkOK.md4 L hb).1.wT (Sp.nB (Sp.md4 L) - 1) (Sp.tJ 5 0 0)).arr
theorem codeOK.mono {n m : Nat} {c : Sp.Code} (h : codeOK n c) (hm : n <= m) : codeOK m c := ⟨Nat.le_trans h.1 hm, Nat.le_trans h.2.1 hm, Nat.le_trans h.2.2.1 hm, fun b hb => Nat.le_trans (h.2.2.2 b hb) hm⟩
end Go.User
namespace Go.User
open Go.Lf Go.Proofs
set_option maxHeartbeats 1000000 in
theorem ok28 (h65 : FOk Try.prog 65 S65) : FOk Try.prog 28 S28 := by
 have hC : CtxOK Try.prog C28 := okC (fns_cons ok56 (fns_cons ok57 (fns_cons ok58 (fns_cons (ok59 h65) (fns_cons ok43 fns_nil))))) rfl rfl rfl rfl rfl rfl rfl
 refine FOk.intro hC (stpS_ok hC) Try.call28 Try.func28 (by kernel_rfl) (by kernel_rfl) L28 ?_
 rw [vc28]
 simp only [zz, zy]
 rintro ⟨c, u⟩ hv _
 dsimp only at hv ⊢
 have hB : (Sp.cB c).length <= 3000 := hv.1.2.2.1
 refine ⟨⟨Nat.le_trans hv.1.1 (by decide), Nat.le_trans hv.1.2.1 (by decide), Nat.le_trans hv.1.2.2.1 (by decide)⟩, ⟨0, Nat.zero_le _, rfl, rfl, rfl, by rw [Sp.reoN_zero]; rfl⟩, ?_⟩
 intro b hb _
 have hb : b <= (Sp.cB c).length := hb
 refine ⟨fun hlt => ?_, fun hge => ?_⟩
 ·have hlt : (b : Int) < ((Sp.cB c).length : Int) := hlt
  have hbl : b < (Sp.cB c).length := by omega
  have hxl : (Sp.xsR Sp.depP c b).length <= b := by
   unfold Sp.xsR;rw [List.length_map, List.length_take]; omega
  have hbk := vOK.blk hv hbl
  have hxe : Sp.xsAt (Sp.runX Sp.depP c) b = Sp.lstO (Sp.depP c) (Sp.blkAt c b).1 := Sp.runX_at _ _ hbl
  refine ⟨⟨inN_of hlt, hbk⟩, maxN (by omega), ⟨inN_of hlt, ⟨?_, (Sp.lstO_ok _ _).2⟩, by rw [Sp.reoN_len]; exact inN_of hlt⟩, inK_mid (by omega) (by omega), b + 1, by show b + 1 <= (Sp.cB c).length; omega, by show (Sp.cB c).length - (b + 1) < (Sp.cB c).length - b; omega, rfl, ?_, ?_⟩
  ·rw [Sp.lstO_len]; exact Nat.le_trans hbk.1 (by decide)
  ·rw [<- Sp.xsR_succ Sp.depP c hbl ([], (0, 0, (0, 0, 0, ()), (0, 0, 0, ()), (0, 0, 0, ()), List.replicate 2 0, ()), ()) rfl]
   rfl
  ·rw [Sp.reoN_succ c _ hbl, Sp.reoN_at c _ b hbl, if_neg (Nat.lt_irrefl b)]
   unfold Sp.reoK;rw [hxe]
   rfl
 ·have hge : ((Sp.cB c).length : Int) <= (b : Int) := hge
  rw [Sp.xsR_end Sp.depP c (by omega)];have : b = (Sp.cB c).length := by omega
  rw [this]; rfl
set_option maxHeartbeats 1000000 in
theorem ok27 : FOk Try.prog 27 S27 := by
 have hC : CtxOK Try.prog C27 := okC (fns_cons ok20 (fns_cons ok21 (fns_cons ok54 fns_nil))) rfl rfl rfl rfl rfl rfl rfl
 refine FOk.intro hC (stpS_ok hC) Try.call27 Try.func27 (by kernel_rfl) (by kernel_rfl) L27 ?_
 rw [vc27]
 simp only [zz, zy]
 rintro ⟨L, u⟩ hd
 obtain ⟨L, u2⟩ := L
 dsimp only at hd ⊢
 have hb : Sp.Byt (Sp.md0 L) := bytes_of hd.1
 have hc := made_ok L hb
 have hB : (Sp.cB (Sp.madeC L)).length <= 800 := hc.2.2.1
 refine ⟨hc.mono (by decide), ⟨0, Nat.zero_le _, by rw [Sp.slB_zero]; rfl, rfl⟩, ?_⟩
 intro b hbb _
 have hbb : b <= (Sp.cB (Sp.madeC L)).length := hbb
 refine ⟨fun hlt => ?_, fun hge => ?_⟩
 ·rw [Sp.slB_len] at hlt
  have hlt : (b : Int) < ((Sp.cB (Sp.madeC L)).length : Int) := hlt
  have hbl : b < (Sp.cB (Sp.madeC L)).length := by omega
  have hsb : (Sp.slB (Sp.madeC L) b).getD b ([], (0, 0, (0, 0, 0, ()), (0, 0, 0, ()), (0, 0, 0, ()), List.replicate 2 0, ()), ()) = Sp.blkAt (Sp.madeC L) b := by rw [Sp.slB_at _ _ hbl, if_neg (Nat.lt_irrefl b)]
  have hin : inN (b : Int) (Sp.slB (Sp.madeC L) b).length := by rw [Sp.slB_len]; exact inN_of hlt
  have hl8 : (Sp.blkAt (Sp.madeC L) b).1.length <= 800 := hc.2.2.2 _ (Sp.blkAt_mem hbl)
  refine ⟨⟨0, Nat.zero_le _, rfl, rfl⟩, ?_⟩
  intro i hi _;have hi : i <= (Sp.blkAt (Sp.madeC L) b).1.length := hi;rw [hsb];have hsl := Sp.slL_len (b : Int) (Sp.blkAt (Sp.madeC L) b).1 i;refine ⟨hin, fun hil => ?_, fun hig => ?_⟩
  ·have hil : (i : Int) < ((Sp.blkAt (Sp.madeC L) b).1.length : Int) := hil
   have hsu : Sp.slL (b : Int) (Sp.blkAt (Sp.madeC L) b).1 (i + 1) = Sp.slL (b : Int) (Sp.blkAt (Sp.madeC L) b).1 i ++ [Sp.insAt (Sp.blkAt (Sp.madeC L) b).1 i] ++ Sp.slI (b : Int) i := rfl
   have hm : Int.tmod (i : Int) 2 = ((i % 2 : Nat) : Int) := rfl
   refine ⟨⟨⟨hin, inN_of hil⟩, maxN (by omega)⟩, by decide, fun hz => ⟨⟨⟨by decide, by decide, by decide, inK_mid (by omega) (by omega), by decide⟩, maxN ?_⟩, inK_mid (by omega) (by omega), i + 1, by show i + 1 <= (Sp.blkAt (Sp.madeC L) b).1.length; omega, by show (Sp.blkAt (Sp.madeC L) b).1.length - (i + 1) < (Sp.blkAt (Sp.madeC L) b).1.length - i; omega, ?_, rfl⟩, fun hz => ⟨inK_mid (by omega) (by omega), i + 1, by show i + 1 <= (Sp.blkAt (Sp.madeC L) b).1.length; omega, by show (Sp.blkAt (Sp.madeC L) b).1.length - (i + 1) < (Sp.blkAt (Sp.madeC L) b).1.length - i; omega, ?_, rfl⟩⟩
   ·rw [List.length_append, List.length_cons, List.length_cons, List.length_nil, List.length_cons, List.length_nil]
    omega
   ·rw [hsu]
    have : i % 2 = 0 := by omega
    unfold Sp.slI;rw [if_pos this]
    rfl
   ·rw [hsu]
    have : ¬ i % 2 = 0 := by omega
    unfold Sp.slI;rw [if_neg this, List.append_nil]
    rfl
  ·have hig : ((Sp.blkAt (Sp.madeC L) b).1.length : Int) <= (i : Int) := hig
   have hie : i = (Sp.blkAt (Sp.madeC L) b).1.length := by omega
   refine ⟨hin, inK_mid (by omega) (by omega), b + 1, by show b + 1 <= (Sp.cB (Sp.madeC L)).length; omega, by show (Sp.cB (Sp.madeC L)).length - (b + 1) < (Sp.cB (Sp.madeC L)).length - b; omega, ?_, rfl⟩
   rw [<- Sp.slB_succ (Sp.madeC L) hbl ([], (0, 0, (0, 0, 0, ()), (0, 0, 0, ()), (0, 0, 0, ()), List.replicate 2 0, ()), ()), hie, hsb]
   rfl
 ·rw [Sp.slB_len] at hge
  have hge : ((Sp.cB (Sp.madeC L)).length : Int) <= (b : Int) := hge
  have : b = (Sp.cB (Sp.madeC L)).length := by omega
  rw [this]; rfl
set_option maxHeartbeats 4000000 in
theorem ok18 (h65 : FOk Try.prog 65 S65) : FOk Try.prog 18 S18 := by
 have hC : CtxOK Try.prog C18 := okA (fns_cons ok39 (fns_cons ok40 (fns_cons (ok41 h65) (fns_cons ok42 (fns_cons ok43 fns_nil)))))
 refine FOk.intro hC (stpS_ok hC) Try.call18 Try.func18 (by kernel_rfl) (by kernel_rfl) L18 ?_
 rw [vc18]
 simp only [zz, zy]
 rintro ⟨c, d, X, u⟩ hv _
 obtain ⟨X, u2⟩ := X
 dsimp only at hv ⊢
 have hB : (Sp.cB c).length <= 3000 := hv.1.2.2.1
 have CI := Sp.chk_iff Sp.depQ c d X
 have K0 : ¬ (Sp.rgtA Sp.depQ c X && Sp.eqCode (Sp.reoC c X) d) = true -> (100 : Int) = Sp.chkP c d X := fun h => by unfold Sp.chkP; rw [if_neg h]
 refine ⟨fun h => K0 fun e => ?_, fun h => ⟨⟨0, ⟨Nat.zero_le _, ?_, Int.ofNat.inj h.1.2, Int.ofNat.inj h.2, fun k hk => absurd hk (Nat.not_lt_zero k)⟩, rfl, rfl⟩, ?_⟩⟩
 ·obtain ⟨h1, h2, h3, _⟩ := CI.1 e
  obtain ⟨g1, g2, g3, g4, g5, g6, g7⟩ := (Sp.headB_iff c d).1 h1;have e6 : Sp.eqArrs c.2.2.2.2.2.1 d.2.2.2.2.2.1 = true := (Sp.eqArrs_iff _ _).2 g6;have e7 : Sp.eqLps c.2.2.2.2.2.2.1 d.2.2.2.2.2.2.1 = true := (Sp.eqLps_iff _ _).2 g7;have h2 : d.2.2.2.2.2.2.2.1.length = c.2.2.2.2.2.2.2.1.length := h2;have h3 : List.length X = c.2.2.2.2.2.2.2.1.length := h3;rw [g1, g2, g3, g4, g5, e6, e7, h2, h3] at h;simp at h
 ·obtain ⟨⟨⟨⟨⟨⟨e1, e2⟩, e3⟩, e4⟩, e5⟩, e6⟩, e7⟩ := h.1.1
  exact (Sp.headB_iff c d).2 ⟨e1, e2, e3, e4, e5, (Sp.eqArrs_iff _ _).1 e6, (Sp.eqLps_iff _ _).1 e7⟩
 intro b hbI _
 obtain ⟨h1, h2, h3, h4, h5⟩ := hbI
 have h1 : b <= (Sp.cB c).length := h1
 have h4 : List.length X = (Sp.cB c).length := h4
 refine ⟨fun hlt => ?_, fun hge => ?_⟩
 ·have hlt : (b : Int) < ((Sp.cB c).length : Int) := hlt
  have hbl : b < (Sp.cB c).length := by omega
  have hbk := vOK.blk hv hbl
  have iX : inN (b : Int) (List.length X) := ⟨by omega, by omega⟩
  have iD : inN (b : Int) (Sp.cB d).length := ⟨by omega, by omega⟩
  refine ⟨inN_of hlt, ⟨inN_of hlt, iD, fun _ => iX, fun _ => hbk, fun _ => iX, fun g => ?_, fun _ => iD⟩, fun hbad => K0 fun e => ?_, fun hg => ⟨inK_mid (by omega) (by omega), b + 1, ⟨by show b + 1 <= (Sp.cB c).length; omega, h2, h3, h4, fun k hk => ?_⟩, by show (Sp.cB c).length - (b + 1) < (Sp.cB c).length - b; omega, rfl⟩⟩
  ·obtain ⟨p1, p2, p3, p4⟩ := Sp.rgtB_perm g.2
   exact ⟨by rw [p1]; exact Nat.le_trans hbk.1 (by decide), p3⟩
  ·obtain ⟨r1, r2⟩ := (CI.1 e).2.2.2 b hbl
   have hDB : d.2.2.2.2.2.2.2.1.getD b ([], (0, 0, (0, 0, 0, ()), (0, 0, 0, ()), (0, 0, 0, ()), List.replicate 2 0, ()), ()) = (Sp.reoL (c.2.2.2.2.2.2.2.1.getD b ([], (0, 0, (0, 0, 0, ()), (0, 0, 0, ()), (0, 0, 0, ()), List.replicate 2 0, ()), ())).1 (List.getD X b []), (c.2.2.2.2.2.2.2.1.getD b ([], (0, 0, (0, 0, 0, ()), (0, 0, 0, ()), (0, 0, 0, ()), List.replicate 2 0, ()), ())).2) := r2.symm
   have r1 : Sp.rgtB (Sp.depQ c) (c.2.2.2.2.2.2.2.1.getD b ([], (0, 0, (0, 0, 0, ()), (0, 0, 0, ()), (0, 0, 0, ()), List.replicate 2 0, ()), ())).1 (List.getD X b []) = true := r1
   rw [hDB] at hbad
   dsimp only at hbad
   have hI : Sp.eqIns (Sp.reoL (c.2.2.2.2.2.2.2.1.getD b ([], (0, 0, (0, 0, 0, ()), (0, 0, 0, ()), (0, 0, 0, ()), List.replicate 2 0, ()), ())).1 (List.getD X b [])) (Sp.reoL (c.2.2.2.2.2.2.2.1.getD b ([], (0, 0, (0, 0, 0, ()), (0, 0, 0, ()), (0, 0, 0, ()), List.replicate 2 0, ()), ())).1 (List.getD X b [])) = true := (Sp.eqIns_iff _ _).2 rfl
   rw [r1, hI] at hbad;simp at hbad
  ·rcases Nat.lt_succ_iff_lt_or_eq.1 hk with g | g
   ·exact h5 k g
   ·subst g
    obtain ⟨⟨gT, gR⟩, gI⟩ := hg;refine ⟨gR, ?_⟩;have gI := (Sp.eqIns_iff _ _).1 gI;have gT2 : (Sp.blkAt c k).2.1 = (Sp.blkAt d k).2.1 := Sp.term_ext gT.1 gT.2.1 (Sp.opd_ext gT.2.2.1.1 gT.2.2.1.2.1 gT.2.2.1.2.2) (Sp.opd_ext gT.2.2.2.1.1 gT.2.2.2.1.2.1 gT.2.2.2.1.2.2) (Sp.opd_ext gT.2.2.2.2.1.1 gT.2.2.2.2.1.2.1 gT.2.2.2.2.1.2.2) gT.2.2.2.2.2;have gI : Sp.reoL (Sp.blkAt c k).1 (Sp.xsAt X k) = (Sp.blkAt d k).1 := gI;show (Sp.reoL (Sp.blkAt c k).1 (Sp.xsAt X k), (Sp.blkAt c k).2.1, (Sp.blkAt c k).2.2) = ((Sp.blkAt d k).1, (Sp.blkAt d k).2.1, (Sp.blkAt d k).2.2);rw [gI, gT2]
 ·have hge : ((Sp.cB c).length : Int) <= (b : Int) := hge
  have hbe : b = (Sp.cB c).length := by omega
  subst hbe;show (0 : Int) = Sp.chkP c d X;unfold Sp.chkP;rw [if_pos (CI.2 ⟨h2, h3, h4, h5⟩)]
end Go.User
namespace Sp
open Go.Lib
theorem lt_ext : ∀ {l l' : List Int}, l.Pairwise (· < ·) -> l'.Pairwise (· < ·) -> (∀ v, v ∈ l ↔ v ∈ l') -> l = l'
 | [], [], _, _, _ => rfl
 | [], y :: l', _, _, h => by have := (h y).2 List.mem_cons_self; cases this
 | x :: l, [], _, _, h => by have := (h x).1 List.mem_cons_self; cases this
 | x :: l, y :: l', h1, h2, h => by
  obtain ⟨a1, a2⟩ := List.pairwise_cons.1 h1;obtain ⟨b1, b2⟩ := List.pairwise_cons.1 h2;have hxy : x = y := by
   rcases List.mem_cons.1 ((h x).1 List.mem_cons_self) with e | e
   ·exact e
   ·rcases List.mem_cons.1 ((h y).2 List.mem_cons_self) with e' | e'
    ·exact e'.symm
    ·have := a1 y e'
     have := b1 x e
     omega
  subst hxy;rw [lt_ext a2 b2 fun v => ?_]
  constructor
  ·intro hv
   rcases List.mem_cons.1 ((h v).1 (List.mem_cons_of_mem _ hv)) with e | e
   ·have := a1 v hv; omega
   ·exact e
  ·intro hv
   rcases List.mem_cons.1 ((h v).2 (List.mem_cons_of_mem _ hv)) with e | e
   ·have := b1 v hv; omega
   ·exact e
def putN (n : Int) (l : List Int) : List Int := l.takeWhile (fun v => decide (v < n)) ++ [n] ++ l.dropWhile (fun v => decide (v < n))
theorem putN_cons (n a : Int) (l : List Int) : putN n (a :: l) = if a < n then a :: putN n l else n :: a :: l := by
 unfold putN
 split
 ·rename_i h
  rw [List.takeWhile_cons_of_pos (by simpa using h), List.dropWhile_cons_of_pos (by simpa using h)]; rfl
 ·rename_i h
  rw [List.takeWhile_cons_of_neg (by simpa using h), List.dropWhile_cons_of_neg (by simpa using h)]; rfl
theorem putN_mem (n : Int) : ∀ (l : List Int) (v : Int), v ∈ putN n l ↔ v = n ∨ v ∈ l
 | [], v => by unfold putN; simp
 | a :: l, v => by
  rw [putN_cons];split
  ·rw [List.mem_cons, putN_mem n l v, List.mem_cons]
   constructor
   ·rintro (h | h | h)
    ·exact .inr (.inl h)
    ·exact .inl h
    ·exact .inr (.inr h)
   ·rintro (h | h | h)
    ·exact .inr (.inl h)
    ·exact .inl h
    ·exact .inr (.inr h)
  ·rw [List.mem_cons]
theorem putN_lt (n : Int) : ∀ {l : List Int}, l.Pairwise (· < ·) -> n ∉ l -> (putN n l).Pairwise (· < ·)
 | [], _, _ => by unfold putN; simp
 | a :: l, h, hn => by
  obtain ⟨h1, h2⟩ := List.pairwise_cons.1 h;rw [putN_cons];split
  ·rename_i ha
   refine List.pairwise_cons.2 ⟨fun v hv => ?_, putN_lt n h2 (fun hm => hn (List.mem_cons_of_mem _ hm))⟩
   rcases (putN_mem n l v).1 hv with e | e
   ·omega
   ·exact h1 v e
  ·rename_i ha
   have hne : n ≠ a := fun e => hn (by rw [e]; exact List.mem_cons_self)
   refine List.pairwise_cons.2 ⟨fun v hv => ?_, h⟩
   rcases List.mem_cons.1 hv with e | e
   ·omega
   ·have := h1 v e; omega
theorem addN_mem (l : List Int) (n v : Int) : v ∈ addN l n ↔ v = n ∨ v ∈ l := by
 unfold addN
 split
 ·rename_i h
  exact ⟨.inr, fun h2 => h2.elim (fun e => e ▸ h) id⟩
 ·exact putN_mem n l v
theorem addN_lt {l : List Int} (h : l.Pairwise (· < ·)) (n : Int) : (addN l n).Pairwise (· < ·) := by
 unfold addN
 split
 ·exact h
 ·rename_i hn
  exact putN_lt n h hn
theorem regL_ok : ∀ (l : List Opd) {out : List Int}, out.Pairwise (· < ·) -> (regL l out).Pairwise (· < ·) /\ ∀ v, v ∈ regL l out ↔ v ∈ out ∨ ∃ o ∈ l, o.1 = 2 /\ o.2.1 = v
 | [], out, h => ⟨h, fun v => ⟨.inl, fun h => h.elim id fun ⟨o, ho, _⟩ => (List.not_mem_nil ho).elim⟩⟩
 | o :: l, out, h => by
  show (regL l (if o.1 = 2 then addN out o.2.1 else out)).Pairwise (· < ·) /\ ∀ v, v ∈ regL l (if o.1 = 2 then addN out o.2.1 else out) ↔ _
  split
  ·rename_i ho
   obtain ⟨h1, h2⟩ := regL_ok l (addN_lt h o.2.1);refine ⟨h1, fun v => ?_⟩
   rw [h2, addN_mem];constructor
   ·rintro ((e | e) | ⟨o', g1, g2⟩)
    ·exact .inr ⟨o, List.mem_cons_self, ho, e.symm⟩
    ·exact .inl e
    ·exact .inr ⟨o', List.mem_cons_of_mem _ g1, g2⟩
   ·rintro (e | ⟨o', g1, g2, g3⟩)
    ·exact .inl (.inr e)
    ·rcases List.mem_cons.1 g1 with rfl | g1
     ·exact .inl (.inl g3.symm)
     ·exact .inr ⟨o', g1, g2, g3⟩
  ·rename_i ho
   obtain ⟨h1, h2⟩ := regL_ok l h;refine ⟨h1, fun v => ?_⟩
   rw [h2];refine or_congr Iff.rfl ⟨fun ⟨o', g1, g2⟩ => ⟨o', List.mem_cons_of_mem _ g1, g2⟩, fun ⟨o', g1, g2, g3⟩ => ?_⟩
   rcases List.mem_cons.1 g1 with rfl | g1
   ·exact absurd g2 ho
   ·exact ⟨o', g1, g2, g3⟩
theorem compact_ok {x : List Int} (h : x.Pairwise (· <= ·)) : (compact x).Pairwise (· < ·) /\ ∀ v, v ∈ compact x ↔ v ∈ x := by
 have hle : ∀ i j, i <= j -> j < x.length -> x.toArray[i]! <= x.toArray[j]! := by
  intro i j hij hj;have hi : i < x.length := by omega
  have e1 : x.toArray[i]! = x[i] := by simp [hi]
  have e2 : x.toArray[j]! = x[j] := by simp [hj]
  rw [e1, e2];rcases Nat.lt_or_eq_of_le hij with hlt | rfl
  ·exact (List.pairwise_iff_getElem.1 h) i j hi hj hlt
  ·exact Int.le_refl _
 constructor
 ·unfold compact compactUpTo
  rw [List.pairwise_map];refine List.Pairwise.imp_of_mem (R := fun a b => a < b) ?_ (List.Pairwise.filter _ (List.pairwise_lt_range))
  intro a b ha hb hab;have hb' := List.mem_range.1 (List.mem_filter.1 hb).1;have hk := (List.mem_filter.1 hb).2;unfold keeps at hk;have hk := of_decide_eq_true hk;rcases hk with hk | hk
  ·omega
  ·have h1 := hle a (b - 1) (by omega) (by omega)
   have h2 := hle (b - 1) b (by omega) hb'
   omega
 ·intro v
  constructor
  ·exact Go.User.compact_mem
  ·intro hv
   obtain ⟨j, hj, e⟩ := List.mem_iff_getElem.1 hv;have hex : ∃ j, j < x.length /\ x.toArray[j]! = v := ⟨j, hj, by simp [hj, e]⟩
   clear e hj;obtain ⟨j, hj⟩ := hex
   induction j using Nat.strongRecOn with
   | ind j ih =>
    cases hk : keeps x.toArray j
    ·unfold keeps at hk
     have hk := of_decide_eq_false hk
     have h0 : j ≠ 0 := fun e => hk (.inl e)
     have h1 : x.toArray[j]! = x.toArray[j - 1]! := Classical.byContradiction fun hc => hk (.inr hc)
     exact ih (j - 1) (by omega) ⟨by omega, h1 ▸ hj.2⟩
    ·unfold compact compactUpTo
     exact List.mem_map.2 ⟨j, List.mem_filter.2 ⟨List.mem_range.2 hj.1, hk⟩, hj.2⟩
theorem regF_succ {l : List Opd} {i : Nat} {d : Opd} (h : i < l.length) : regF (l.take (i + 1)) = regF (l.take i) ++ (if (l.getD i d).1 = 2 then [(l.getD i d).2.1] else []) := by
 unfold regF
 rw [List.take_add_one, List.getElem?_eq_getElem h, List.getD_eq_getElem?_getD, List.getElem?_eq_getElem h, List.filter_append, List.map_append]
 simp only [Option.toList_some, Option.getD_some]
 congr 1
 split
 ·rename_i h; rw [List.filter_cons_of_pos (by simpa using h)]; rfl
 ·rename_i h; rw [List.filter_cons_of_neg (by simpa using h)]; rfl
theorem regF_len (l : List Opd) : (regF l).length <= l.length := by
 unfold regF
 rw [List.length_map]
 exact List.length_filter_le _ _
theorem reg_eq (l : List Opd) : compact ((regF l).mergeSort fun a b => decide (a <= b)) = regL l [] := by
 have hs : ((regF l).mergeSort fun a b => decide (a <= b)).Pairwise (· <= ·) := by
  have := List.pairwise_mergeSort (le := fun (a b : Int) => decide (a <= b)) (fun a b c h1 h2 => by simp at h1 h2 ⊢; omega) (fun a b => by simp; omega) (regF l)
  exact this.imp fun h => by simpa using h
 obtain ⟨h1, h2⟩ := compact_ok hs
 obtain ⟨h3, h4⟩ := regL_ok l (out := []) List.Pairwise.nil
 refine lt_ext h1 h3 fun v => ?_
 rw [h2, h4, List.mem_mergeSort]
 unfold regF
 rw [List.mem_map]
 constructor
 ·rintro ⟨o, ho, e⟩
  obtain ⟨g1, g2⟩ := List.mem_filter.1 ho;exact .inr ⟨o, g1, of_decide_eq_true g2, e⟩
 ·rintro (h | ⟨o, g1, g2, g3⟩)
  ·cases h
  ·exact ⟨o, List.mem_filter.2 ⟨g1, decide_eq_true g2⟩, g3⟩
end Sp
namespace Go.User
open Go.Lf Go.Proofs
theorem places_ok : ∀ f s, Lf.look places f = some s -> VOk Try.prog f s := by
 intro f s hs
 unfold places at hs
 simp only [Lf.look] at hs
 cases h1 : Nat.beq 73 f
 ·rw [h1] at hs
  simp only [cond_false] at hs;cases h2 : Nat.beq 74 f
  ·rw [h2] at hs; cases hs
  ·rw [h2] at hs
   have := Nat.eq_of_beq_eq_true h2
   simp only [cond_true, Option.some.injEq] at hs;rw [<- this, <- hs]; exact vk74
 ·rw [h1] at hs
  have := Nat.eq_of_beq_eq_true h1
  simp only [cond_true, Option.some.injEq] at hs;rw [<- this, <- hs]; exact vk73
theorem ok70 : FOk Try.prog 70 S70 := by
 have hC : CtxOK Try.prog C70 := okA fns_nil
 refine FOk.intro hC (stpV_ok hC places_ok) Try.call70 Try.func70 (by kernel_rfl) (by kernel_rfl) L70 ?_
 rw [vc70]
 simp only [zz, zy]
 rintro ⟨l, u⟩ hl _
 dsimp only at hl ⊢
 have hl : List.length l <= 3 := hl
 refine ⟨⟨0, Nat.zero_le _, rfl, rfl⟩, ?_⟩
 intro i hi _
 have hi : i <= List.length l := hi
 have hrl := Sp.regF_len (List.take i l)
 rw [List.length_take] at hrl
 refine ⟨fun hlt => ?_, fun hge => ?_⟩
 ·have hlt : (i : Int) < (List.length l : Int) := hlt
  refine ⟨inN_of hlt, fun hc => ⟨maxN (by omega), inK_mid (by omega) (by omega), i + 1, by show i + 1 <= List.length l; omega, by show List.length l - (i + 1) < List.length l - i; omega, rfl, ?_⟩, fun hc => ⟨inK_mid (by omega) (by omega), i + 1, by show i + 1 <= List.length l; omega, by show List.length l - (i + 1) < List.length l - i; omega, rfl, ?_⟩⟩
  ·rw [Sp.regF_succ (d := (0, 0, 0, ())) (by omega), if_pos hc]
  ·rw [Sp.regF_succ (d := (0, 0, 0, ())) (by omega), if_neg hc, List.append_nil]
 ·have hge : (List.length l : Int) <= (i : Int) := hge
  refine ⟨by omega, by rw [List.length_mergeSort]; omega, ?_⟩
  rw [List.take_of_length_le (by omega)];exact Sp.reg_eq l
theorem ok14' : FOk Try.prog 14 S14 := ok14 ok70
end Go.User
