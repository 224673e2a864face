/- Written by gen.py: what is left to show of each function. -/
import Derived.Test.YtdcbiadlojcaoaaLfn
set_option linter.unusedVariables false
set_option linter.unusedSimpArgs false
namespace Go.User
open Go.Proofs Go.Lf
set_option maxRecDepth 100000
theorem vc53 : (c9 C53 (cN C53) S53 L53 Try.f53) = (
let q0 : Int := (7 : Int);
let q1 : Int := (8 : Int);
let q2 : Int := (9 : Int);
let q3 : Int := (0 : Int);
let q4 : Prop := True /\ True /\ True;
let q5 : Prop := (True /\ q4) /\ True;
let q6 : Prop := (True /\ True) /\ True;
let q7 : Sp.Opd := (q3, q3, q3, ());
let q8 : Sp.Inst := (q3, q3, q3, q7, q7, q7, q7, ());
let q9 : Int := (1 : Int);
∀ (x : Sp.Code × List Sp.Inst × List Int × Int × Unit),
 let q10 : Int := (↑(Sp.cA x.1).length : Int);
 let q11 : Nat := x.2.1.length;
 let q12 : Bool := Sp.mem x.2.2.1 x.2.2.2.1;
 let q13 : Nat := x.2.2.2.1.toNat;
 let q14 : Bool := Sp.dL (Sp.bM x.1) x.2.1 x.2.2.1 q13;
 let q15 : Prop := q6 /\ false = q14;
 let q16 : Prop := x.1 = x.1 /\ x.2.1 = x.2.1 /\ x.2.2.1 = x.2.2.1 /\ x.2.2.2.1 = x.2.2.2.1 /\ True;
 let q17 : Sp.Inst := x.2.1.getD q13 q8;
 let q18 : Int := Sp.opI q17;
 let q19 : Int := Sp.nI q17;
 (x.2.1.length <= (3000 : Nat) /\ ∀ (i : Sp.Inst), i ∈ x.2.1 -> Sp.opI i = q0 ∨ Sp.opI i = q1 ∨ Sp.opI i = q2 -> q3 <= Sp.nI i /\ Sp.nI i < q10) /\ (0 : (AK.val tI).den) <= x.2.2.2.1 /\ x.2.2.2.1 < (↑q11 : Int) ->
 aB bT x.1 /\ aB aL.slice x.2.1 /\ aB tI.slice x.2.2.1 /\ aB tI x.2.2.2.1 /\ True ->
 (q4 /\ True) /\
 q5 /\
 (q12 = true -> q15) /\
 (q12 = false ->
 q6 /\
 (∃ (x_1 : Nat), (x_1 <= q13 /\ ((List.range x_1).all fun (i : Nat) => Sp.mem x.2.2.1 (↑i : Int) || !Sp.bM x.1 (Sp.aV x.2.1 i) (Sp.aV x.2.1 q13)) = true) /\ q3 = (↑x_1 : Int) /\ q16) /\
 ∀ (x_1 : Nat),
 let q20 : Bool := decide ((↑x_1 : Int) < x.2.2.2.1);
 let q21 : Bool := !Sp.mem x.2.2.1 (↑x_1 : Int);
 let q22 : Prop := (true && bif q21 then true else false) = true;
 let q23 : Prop := q22 -> True;
 let q24 : Sp.Inst := x.2.1.getD (↑x_1 : Int).toNat q8;
 let q25 : Int := Sp.opI q24;
 let q26 : Int := Sp.nI q24;
 let q27 : Bool := bif q21 then Sp.bM x.1 q24 q17 else false;
 let q28 : Int := (↑x_1 : Int) + q9;
 x_1 <= q13 /\ ((List.range x_1).all fun (i : Nat) => Sp.mem x.2.2.1 (↑i : Int) || !Sp.bM x.1 (Sp.aV x.2.1 i) (Sp.aV x.2.1 q13)) = true -> aB tI (↑x_1 : Int) /\ True -> q5 /\ (q20 = true -> ((True /\ True /\ True /\ True /\ True /\ q23 /\ q23 /\ q23 /\ (q22 -> inN (↑x_1 : Int) q11) /\ q23 /\ q23 /\ q23 /\ (q22 -> inN x.2.2.2.1 q11) /\ q23 /\ (q22 -> (q25 = q0 ∨ q25 = q1 ∨ q25 = q2 -> q3 <= q26 /\ q26 < q10) /\ (q18 = q0 ∨ q18 = q1 ∨ q18 = q2 -> q3 <= q19 /\ q19 < q10)) /\ True /\ True) /\ True) /\ (q27 = true -> q15) /\ (q27 = false -> ((True /\ inK IntKind.i64 q28 /\ True /\ True) /\ True) /\ ∃ (y : Nat), (y <= q13 /\ ((List.range y).all fun (i : Nat) => Sp.mem x.2.2.1 (↑i : Int) || !Sp.bM x.1 (Sp.aV x.2.1 i) (Sp.aV x.2.1 q13)) = true) /\ q13 - y < q13 - x_1 /\ q28 = (↑y : Int) /\ q16)) /\ (q20 = false -> q6 /\ true = q14))) := by kernel_rfl
theorem vc29 : (c9 C29 (cN C29) S29 L29 Try.f29) = (
let q0 : Nat := (3000 : Nat);
let q1 : Int := (7 : Int);
let q2 : Int := (0 : Int);
let q3 : Prop := True /\ True /\ True;
let q4 : Prop := q3 /\ True;
let q5 : Prop := True /\ q3;
let q6 : Prop := True /\ q5;
let q7 : Prop := (True /\ True) /\ True;
let q8 : Int := (1 : Int);
let q9 : Sp.Opd := (q2, q2, q2, ());
let q10 : Sp.Inst := (q2, q2, q2, q9, q9, q9, q9, ());
∀ (x : Sp.Code × List Sp.Inst × Unit),
 let q11 : Prop := x.2.1.length <= q0 /\ ∀ (i : Sp.Inst), i ∈ x.2.1 -> Sp.opI i = q1 ∨ Sp.opI i = (8 : Int) ∨ Sp.opI i = (9 : Int) -> q2 <= Sp.nI i /\ Sp.nI i < (↑(Sp.cA x.1).length : Int);
 let q12 : Nat := x.2.1.length;
 let q13 : Prop := x.1 = x.1;
 let q14 : Prop := x.2.1 = x.2.1;
 let q15 : Prop := q13 /\ q14 /\ True;
 let q16 : Int := (↑q12 : Int);
 q11 ->
 aB bT x.1 /\ aB aL.slice x.2.1 /\ True ->
 q4 /\
 ((True /\ True) /\ True /\ True) /\
 (∃ (x_1 : Nat), x_1 <= q12 /\ ([] : List tI.den) = Sp.cY (Sp.d5 (Sp.bM x.1) x.2.1) x_1 /\ q15) /\
 ∀ (x_1 : Nat),
 let q17 : List Int := Sp.cY (Sp.d5 (Sp.bM x.1) x.2.1) x_1;
 let q18 : Nat := q17.length;
 let q19 : Bool := decide ((↑q18 : Int) < q16);
 let q20 : Prop := q13 /\ q14 /\ q17 = q17 /\ True;
 x_1 <= q12 ->
 aB tI.slice q17 /\ True ->
 ((True /\ q6) /\ True) /\
 (q19 = true ->
 q7 /\
 q7 /\
 (∃ (x_2 : Nat), x_2 <= q12 /\ -q8 = Sp.nxS (Sp.dL (Sp.bM x.1) x.2.1 q17) (Sp.ldB x.2.1) x_2 /\ q2 = (↑x_2 : Int) /\ q20) /\
 ∀ (x_2 : Nat),
 let q21 : Int := Sp.nxS (Sp.dL (Sp.bM x.1) x.2.1 q17) (Sp.ldB x.2.1) x_2;
 let q22 : Bool := decide ((↑x_2 : Int) < q16);
 let q23 : Nat := (↑x_2 : Int).toNat;
 let q24 : Bool := Sp.dL (Sp.bM x.1) x.2.1 q17 q23;
 let q25 : Bool := true && bif q24 then true else false;
 let q26 : Prop := q25 = true -> True;
 let q27 : Bool := decide (q21 < q2);
 let q28 : Bool := q25 && bif q27 then false else true;
 let q29 : Prop := q28 = true;
 let q30 : Prop := q29 -> True;
 let q31 : Bool := (x.2.1.getD q23 q10).1 == q1;
 let q32 : Prop := (q28 && bif q31 then true else false) = true;
 let q33 : Prop := q32 -> True;
 let q34 : Bool := bif q24 then bif q27 then true else bif q31 then (x.2.1.getD q21.toNat q10).1 != q1 else false else false;
 let q35 : Int := (↑x_2 : Int) + q8;
 let q36 : Prop := (True /\ inK IntKind.i64 q35 /\ True /\ True) /\ True;
 let q37 : List Int := q21 :: ([] : List tI.den);
 x_2 <= q12 -> aB tI q21 /\ aB tI (↑x_2 : Int) /\ True -> (q6 /\ True) /\ (q22 = true -> ((True /\ True /\ True /\ True /\ (q11 /\ (0 : (AK.val tI).den) <= (↑x_2 : Int) /\ (↑x_2 : Int) < q16) /\ True /\ True) /\ True) /\ ((True /\ True /\ q26 /\ q26 /\ q26 /\ q30 /\ q30 /\ (q29 -> inN (↑x_2 : Int) q12) /\ q30 /\ q30 /\ q30 /\ q30 /\ q33 /\ q33 /\ (q32 -> inN q21 q12) /\ q33 /\ q33 /\ q33 /\ q30 /\ q26 /\ True /\ True) /\ True) /\ (q34 = true -> q4 /\ q36 /\ ∃ (y : Nat), y <= q12 /\ q12 - y < q12 - x_2 /\ (↑x_2 : Int) = Sp.nxS (Sp.dL (Sp.bM x.1) x.2.1 q17) (Sp.ldB x.2.1) y /\ q35 = (↑y : Int) /\ q20) /\ (q34 = false -> q36 /\ ∃ (y : Nat), y <= q12 /\ q12 - y < q12 - x_2 /\ q21 = Sp.nxS (Sp.dL (Sp.bM x.1) x.2.1 q17) (Sp.ldB x.2.1) y /\ q35 = (↑y : Int) /\ q20)) /\ (q22 = false -> (q5 /\ (↑(q18 + q37.length) : Int) <= maxNew /\ True /\ True) /\ ∃ (y : Nat), y <= q12 /\ q12 - y < q12 - x_1 /\ q17 ++ q37 = Sp.cY (Sp.d5 (Sp.bM x.1) x.2.1) y /\ q15)) /\
 (q19 = false -> q4 /\ q17 = Sp.lstO (Sp.bM x.1) x.2.1)) := by kernel_rfl
theorem vc44 : (c9 C44 (cN C44) S44 L44 Try.f44) = (
let q0 : Int := (7 : Int);
let q1 : Int := (8 : Int);
let q2 : Int := (9 : Int);
let q3 : Int := (0 : Int);
let q4 : Prop := True /\ True /\ True;
let q5 : Prop := True /\ True /\ q4;
let q6 : Prop := (True /\ True) /\ True;
let q7 : Prop := q5 /\ True;
let q8 : Int := (1 : Int);
let q9 : Nat := (1 : Nat);
let q10 : Sp.Opd := (q3, q3, q3, ());
let q11 : Sp.Inst := (q3, q3, q3, q10, q10, q10, q10, ());
∀ (x : Sp.Code × List Sp.Inst × List Int × Unit),
 let q12 : Int := (↑(Sp.cA x.1).length : Int);
 let q13 : Nat := x.2.2.1.length;
 let q14 : Int := (↑q13 : Int);
 let q15 : Nat := x.2.1.length;
 let q16 : Int := (↑q15 : Int);
 let q17 : Bool := q14 != q16;
 let q18 : Bool := Sp.eE (Sp.bM x.1) x.2.1 x.2.2.1;
 let q19 : Prop := q6 /\ false = q18;
 let q20 : Prop := q13 = q15;
 let q21 : Prop := x.1 = x.1;
 let q22 : Prop := x.2.1 = x.2.1;
 let q23 : Prop := x.2.2.1 = x.2.2.1;
 let q24 : Prop := q21 /\ q22 /\ q23 /\ True;
 (x.2.1.length <= (3000 : Nat) /\ ∀ (i : Sp.Inst), i ∈ x.2.1 -> Sp.opI i = q0 ∨ Sp.opI i = q1 ∨ Sp.opI i = q2 -> q3 <= Sp.nI i /\ Sp.nI i < q12) ->
 aB bT x.1 /\ aB aL.slice x.2.1 /\ aB tI.slice x.2.2.1 /\ True ->
 (q4 /\ True) /\
 ((True /\ q5) /\ True) /\
 (q17 = true -> q19) /\
 (q17 = false ->
 q6 /\
 (∃ (x_1 : Nat), (x_1 <= q15 /\ q20 /\ ((List.range x_1).all fun (n : Nat) => Sp.mem x.2.2.1 (↑n : Int)) = true) /\ q3 = (↑x_1 : Int) /\ q24) /\
 ∀ (x_1 : Nat),
 let q25 : Bool := decide ((↑x_1 : Int) < q16);
 let q26 : Bool := !Sp.mem x.2.2.1 (↑x_1 : Int);
 let q27 : Int := (↑x_1 : Int) + q8;
 x_1 <= q15 /\ q20 /\ ((List.range x_1).all fun (n : Nat) => Sp.mem x.2.2.1 (↑n : Int)) = true ->
 aB tI (↑x_1 : Int) /\ True ->
 q7 /\
 (q25 = true -> q7 /\ (q26 = true -> q19) /\ (q26 = false -> ((True /\ inK IntKind.i64 q27 /\ True /\ True) /\ True) /\ ∃ (y : Nat), (y <= q15 /\ q20 /\ ((List.range y).all fun (n : Nat) => Sp.mem x.2.2.1 (↑n : Int)) = true) /\ q15 - y < q15 - x_1 /\ q27 = (↑y : Int) /\ q24)) /\
 (q25 = false ->
 q6 /\
 (∃ (x_2 : Nat), (x_2 <= q15 /\ q20 /\ ((List.range q15).all fun (n : Nat) => Sp.mem x.2.2.1 (↑n : Int)) = true /\ ((List.range x_2).all fun (i : Nat) => (List.range q13).all fun (j : Nat) => !Sp.badP (Sp.bM x.1) x.2.1 x.2.2.1 i j) = true) /\ q3 = (↑x_2 : Int) /\ q24) /\
 ∀ (x_2 : Nat),
 let q28 : Bool := decide ((↑x_2 : Int) < q14);
 let q29 : Int := (↑x_2 : Int) + q8;
 let q30 : Prop := (True /\ inK IntKind.i64 q29 /\ True /\ True) /\ True;
 let q31 : Prop := q21 /\ q22 /\ q23 /\ (↑x_2 : Int) = (↑x_2 : Int) /\ True;
 let q32 : Prop := inN (↑x_2 : Int) q13;
 let q33 : Int := x.2.2.1.getD (↑x_2 : Int).toNat q3;
 let q34 : Sp.Inst := x.2.1.getD q33.toNat q11;
 let q35 : Int := Sp.opI q34;
 let q36 : Int := Sp.nI q34;
 x_2 <= q15 /\ q20 /\ ((List.range q15).all fun (n : Nat) => Sp.mem x.2.2.1 (↑n : Int)) = true /\ ((List.range x_2).all fun (i : Nat) => (List.range q13).all fun (j : Nat) => !Sp.badP (Sp.bM x.1) x.2.1 x.2.2.1 i j) = true ->
 aB tI (↑x_2 : Int) /\ True ->
 q7 /\
 (q28 = true ->
 q30 /\
 (∃ (x_3 : Nat), (x_2 + q9 <= x_3 /\ x_3 <= q15 /\ ((List.range x_3).all fun (j : Nat) => !Sp.badP (Sp.bM x.1) x.2.1 x.2.2.1 x_2 j) = true) /\ q29 = (↑x_3 : Int) /\ q31) /\
 ∀ (x_3 : Nat),
 let q37 : Bool := decide ((↑x_3 : Int) < q14);
 let q38 : Prop := inN (↑x_3 : Int) q13;
 let q39 : Int := x.2.2.1.getD (↑x_3 : Int).toNat q3;
 let q40 : Bool := decide (q33 > q39);
 let q41 : Prop := (true && bif q40 then true else false) = true;
 let q42 : Prop := q41 -> True;
 let q43 : Sp.Inst := x.2.1.getD q39.toNat q11;
 let q44 : Int := Sp.opI q43;
 let q45 : Int := Sp.nI q43;
 let q46 : Bool := bif q40 then Sp.bM x.1 q34 q43 else false;
 let q47 : Int := (↑x_3 : Int) + q8;
 x_2 + q9 <= x_3 /\ x_3 <= q15 /\ ((List.range x_3).all fun (j : Nat) => !Sp.badP (Sp.bM x.1) x.2.1 x.2.2.1 x_2 j) = true -> aB tI (↑x_3 : Int) /\ True -> q7 /\ (q37 = true -> ((True /\ True /\ q32 /\ True /\ True /\ True /\ q38 /\ True /\ True /\ True /\ q42 /\ q42 /\ q42 /\ q42 /\ (q41 -> q32) /\ q42 /\ (q41 -> inN q33 q15) /\ q42 /\ q42 /\ q42 /\ q42 /\ (q41 -> q38) /\ q42 /\ (q41 -> inN q39 q15) /\ q42 /\ (q41 -> (q35 = q0 ∨ q35 = q1 ∨ q35 = q2 -> q3 <= q36 /\ q36 < q12) /\ (q44 = q0 ∨ q44 = q1 ∨ q44 = q2 -> q3 <= q45 /\ q45 < q12)) /\ True /\ True) /\ True) /\ (q46 = true -> q19) /\ (q46 = false -> ((True /\ inK IntKind.i64 q47 /\ True /\ True) /\ True) /\ ∃ (y : Nat), (x_2 + q9 <= y /\ y <= q15 /\ ((List.range y).all fun (j : Nat) => !Sp.badP (Sp.bM x.1) x.2.1 x.2.2.1 x_2 j) = true) /\ q15 - y < q15 - x_3 /\ q47 = (↑y : Int) /\ q31)) /\ (q37 = false -> q30 /\ ∃ (y : Nat), (y <= q15 /\ q20 /\ ((List.range q15).all fun (n : Nat) => Sp.mem x.2.2.1 (↑n : Int)) = true /\ ((List.range y).all fun (i : Nat) => (List.range q13).all fun (j : Nat) => !Sp.badP (Sp.bM x.1) x.2.1 x.2.2.1 i j) = true) /\ q15 - y < q15 - x_2 /\ q29 = (↑y : Int) /\ q24)) /\
 (q28 = false -> q6 /\ true = q18)))) := by kernel_rfl
theorem vc43 : (c9 C43 (cN C43) S43 L43 Try.f43) = (
let q0 : Prop := (True /\ True) /\ True;
let q1 : Prop := True /\ True /\ True;
let q2 : Prop := True /\ q1;
let q3 : Int := (0 : Int);
let q4 : Sp.Opd := (q3, q3, q3, ());
let q5 : Sp.Inst := (q3, q3, q3, q4, q4, q4, q4, ());
let q6 : Int := (1 : Int);
∀ (x : List Sp.Inst × List Int × Unit),
 let q7 : Nat := x.2.1.length;
 let q8 : Nat := x.1.length;
 let q9 : Int := (↑q7 : Int);
 let q10 : Prop := q9 = q9;
 let q11 : Prop := x.2.1 = x.2.1;
 let q12 : Prop := q11 /\ x.1 = x.1 /\ q11 /\ True;
 (q7 <= (5000 : Nat) /\ ∀ (k : Int), k ∈ x.2.1 -> (0 : tI.den) <= k /\ k < (↑q8 : Int)) ->
 aB aL.slice x.1 /\ aB tI.slice x.2.1 /\ True ->
 q0 /\
 ((True /\ True /\ ((0 : tI.den) <= q9 /\ q9 <= q9 /\ q9 <= maxNew) /\ True) /\ True /\ True) /\
 (q2 /\ True) /\
 (∃ (x_1 : Nat), x_1 <= q7 /\ q3 = (↑x_1 : Int) /\ q10 /\ List.replicate q9.toNat q5 = Sp.fC x.1 (List.take x_1 x.2.1) ++ List.replicate (q7 - x_1) Sp.inst0 /\ q12) /\
 ∀ (x_1 : Nat),
 let q13 : Nat := q7 - x_1;
 let q14 : List Sp.Inst := Sp.fC x.1 (List.take x_1 x.2.1) ++ List.replicate q13 Sp.inst0;
 let q15 : Bool := decide ((↑x_1 : Int) < q9);
 let q16 : Nat := (↑x_1 : Int).toNat;
 let q17 : Int := x.2.1.getD q16 q3;
 let q18 : Int := (↑x_1 : Int) + q6;
 x_1 <= q7 ->
 aB tI (↑x_1 : Int) /\ aB tI q9 /\ aB aL.slice q14 /\ True ->
 q0 /\
 (q15 = true ->
 ((True /\ inN (↑x_1 : Int) q7 /\ q2) /\ True) /\
 ((True /\ True /\ True /\ True /\ inN q17 q8 /\ True /\ inN (↑x_1 : Int) q14.length /\ True) /\ True /\ True) /\
 ((inK IntKind.i64 q18 /\ True /\ True) /\ True) /\
 ∃ (y : Nat),
 let q19 : Nat := q7 - y;
 y <= q7 /\ q19 < q13 /\ q18 = (↑y : Int) /\ q10 /\ q14.set q16 (x.1.getD q17.toNat q5) = Sp.fC x.1 (List.take y x.2.1) ++ List.replicate q19 Sp.inst0 /\ q12) /\
 (q15 = false -> (q1 /\ True) /\ q14 = Sp.fC x.1 x.2.1)) := by kernel_rfl
theorem vc23 : (c9 C23 (cN C23) S23 L23 Try.f23) = (
let q0 : Nat := (3000 : Nat);
let q1 : Int := (0 : Int);
let q2 : Nat := (2 : Nat);
let q3 : Prop := True /\ True /\ True;
let q4 : Prop := True /\ q3;
let q5 : Nat := (5000 : Nat);
let q6 : Prop := (True /\ True) /\ True;
let q7 : Sp.Code := (q1, q1, q1, q1, q1, ([] : List cG.den), ([] : List bF.den), ([] : List fY.den), ());
let q8 : Prop := q7 = q7;
let q9 : Prop := q8 /\ True;
let q10 : Prop := True /\ True /\ q4;
let q11 : Sp.Opd := (q1, q1, q1, ());
let q12 : Sp.Block := (([] : List aL.den), (q1, q1, q11, q11, q11, List.replicate q2 q1, ()), ());
let q13 : Sp.Inst := (q1, q1, q1, q11, q11, q11, q11, ());
let q14 : Prop := Step.fst = Step.fst /\ True;
let q15 : Prop := Step.snd = Step.snd /\ Step.snd = Step.snd /\ Step.snd = Step.snd /\ Step.snd = Step.snd /\ Step.snd = Step.snd /\ Step.snd = Step.snd /\ Step.snd = Step.snd /\ q14;
let q16 : Prop := True /\ True /\ True /\ True /\ True /\ True /\ True /\ True /\ True /\ True /\ True /\ True /\ True /\ True /\ True /\ q10;
let q17 : Int := (1 : Int);
∀ (x : Sp.Done),
 let q18 : Nat := (Sp.cA x.1).length;
 let q19 : Nat := (Sp.cL x.1).length;
 let q20 : Nat := (Sp.cB x.1).length;
 let q21 : Prop := x.1 = x.1;
 let q22 : Prop := x.2.1 = x.2.1;
 let q23 : Prop := q21 /\ q22 /\ q9;
 let q24 : Int × List Sp.Arr × List Sp.Opd × List Sp.Block × Unit := x.1.2.2.2.2;
 let q25 : List Sp.Arr × List Sp.Opd × List Sp.Block × Unit := q24.2;
 let q26 : List Sp.Opd × List Sp.Block × Unit := q25.2;
 let q27 : List Sp.Block := q26.2.1;
 let q28 : Nat := q27.length;
 let q29 : Int := x.1.2.2.2.1;
 let q30 : Int := q24.1;
 let q31 : List Sp.Arr := q25.1;
 let q32 : List Sp.Opd := q26.1;
 let q33 : Nat := x.2.1.1.length;
 ((q18 <= q0 /\ q19 <= q0 /\ q20 <= q0 /\ ∀ (b : Sp.Block), b ∈ Sp.cB x.1 -> b.1.length <= q0) /\
 ∀ (b : Nat),
 let q34 : List Int := Sp.cF x.2.1.1 b;
 b < q20 -> b < x.2.1.1.length /\ q34.length <= q0 /\ ∀ (k : Int), k ∈ q34 -> q1 <= k /\ k < (↑(Sp.aH x.1 b).1.length : Int)) ->
 aB (tI.prod (tI.prod (tI.prod (tI.prod (tI.prod (cG.slice.prod (bF.slice.prod ((aL.slice.prod ((tI.prod (tI.prod (aQ.prod (aQ.prod (aQ.prod ((Ty.arr q2 tI).prod Ty.unit)))))).prod Ty.unit)).slice.prod Ty.unit)))))))) x.1 /\ aB fW x.2.1 /\ True ->
 (q4 /\ True) /\
 ((True /\ (q18 <= q5 /\ q19 <= q5 /\ q20 <= q5 /\ ∀ (b : Sp.Block), b ∈ Sp.cB x.1 -> b.1.length <= q5) /\ True /\ True) /\ True /\ True) /\
 q6 /\
 (∃ (x_1 : Nat), x_1 <= q20 /\ x.1 = Sp.fK x.1 (Sp.reoN x.1 x.2.1.1 x_1) /\ q1 = (↑x_1 : Int) /\ q23) /\
 ∀ (x_1 : Nat),
 let q35 : List Sp.Block := Sp.reoN x.1 x.2.1.1 x_1;
 let q36 : Sp.Code := Sp.fK x.1 q35;
 let q37 : Bool := decide ((↑x_1 : Int) < (↑q28 : Int));
 let q38 : Nat := (Sp.cF x.2.1.1 x_1).length;
 let q39 : Nat := (↑x_1 : Int).toNat;
 let q40 : Prop := q21 /\ q22 /\ q8 /\ (↑x_1 : Int) = (↑x_1 : Int) /\ True;
 let q41 : Prop := inN (↑x_1 : Int) q33;
 let q42 : List Int := x.2.1.1.getD q39 (([] : List tI.den));
 let q43 : Nat := q42.length;
 let q44 : List Sp.Inst := (q27.getD q39 q12).1;
 let q45 : List Step := Step.snd :: Step.snd :: Step.snd :: Step.snd :: Step.snd :: Step.snd :: Step.snd :: Step.fst :: Step.idx q39 :: Step.fst :: ([] : List Step);
 let q46 : Int := (↑x_1 : Int) + q17;
 x_1 <= q20 ->
 aB (tI.prod (tI.prod (tI.prod (tI.prod (tI.prod (cG.slice.prod (bF.slice.prod ((aL.slice.prod ((tI.prod (tI.prod (aQ.prod (aQ.prod (aQ.prod ((Ty.arr q2 tI).prod Ty.unit)))))).prod Ty.unit)).slice.prod Ty.unit)))))))) q36 /\ aB tI (↑x_1 : Int) /\ True ->
 (q10 /\ True) /\
 (q37 = true ->
 ((True /\ True /\ True /\ True /\ inN (↑x_1 : Int) q35.length /\ True /\ True) /\ True /\ True) /\
 q6 /\
 (∃ (x_2 : Nat), x_2 <= q38 /\ (x.1.1, x.1.2.1, x.1.2.2.1, q29, q30, q31, q32, q35.set q39 (([] : List aL.den), (q35.getD q39 q12).2), ()) = Sp.fK x.1 (Sp.reoM x.1 x.2.1.1 x_1 x_2) /\ q1 = (↑x_2 : Int) /\ q40) /\
 ∀ (x_2 : Nat),
 let q47 : List Sp.Block := Sp.reoM x.1 x.2.1.1 x_1 x_2;
 let q48 : Sp.Code := Sp.fK x.1 q47;
 let q49 : Bool := decide ((↑x_2 : Int) < (↑q43 : Int));
 let q50 : Prop := inN (↑x_1 : Int) q47.length;
 let q51 : Int := q42.getD (↑x_2 : Int).toNat q1;
 let q52 : Sp.Block := q47.getD q39 q12;
 let q53 : List Sp.Inst := q52.1;
 let q54 : List Sp.Inst := q44.getD q51.toNat q13 :: ([] : List aL.den);
 let q55 : Int := (↑x_2 : Int) + q17;
 x_2 <= q38 -> aB (tI.prod (tI.prod (tI.prod (tI.prod (tI.prod (cG.slice.prod (bF.slice.prod ((aL.slice.prod ((tI.prod (tI.prod (aQ.prod (aQ.prod (aQ.prod ((Ty.arr q2 tI).prod Ty.unit)))))).prod Ty.unit)).slice.prod Ty.unit)))))))) q48 /\ aB tI (↑x_2 : Int) /\ True -> ((True /\ True /\ True /\ True /\ q41 /\ q4) /\ True) /\ (q49 = true -> (((True /\ True /\ True /\ True /\ True /\ True /\ q50 /\ True /\ True /\ True /\ True /\ True /\ inN (↑x_1 : Int) q28 /\ True /\ True /\ True /\ True /\ True /\ q41 /\ True /\ True /\ inN (↑x_2 : Int) q43 /\ True /\ inN q51 q44.length /\ True /\ True /\ (↑(q53.length + q54.length) : Int) <= maxNew /\ q50 /\ True /\ True) /\ True /\ True /\ True /\ True /\ True /\ True /\ True /\ True /\ True /\ True /\ True /\ True /\ True /\ True /\ True /\ True /\ True /\ True /\ True /\ True /\ True /\ True /\ True /\ True /\ True /\ True /\ ((True /\ q15 /\ True /\ True /\ q15 /\ True /\ True /\ True /\ (Step.snd = Step.snd /\ Step.snd = Step.snd /\ Step.snd = Step.snd /\ Step.snd = Step.snd /\ Step.snd = Step.snd /\ Step.snd = Step.snd /\ Step.snd = Step.snd /\ Step.fst = Step.fst /\ Step.idx q39 = Step.idx q39 /\ q14) /\ q16) /\ True /\ True /\ True /\ True /\ True /\ True /\ True /\ True /\ True /\ True /\ True /\ True /\ True /\ True /\ True /\ True /\ True /\ True /\ True /\ True /\ True /\ True /\ True /\ True /\ True /\ True /\ True /\ True /\ True /\ True /\ True /\ True /\ True /\ True /\ True /\ True /\ True /\ True /\ True /\ True /\ True /\ True /\ True /\ q16) /\ q3) /\ q45 = q45 /\ True) /\ ((True /\ inK IntKind.i64 q55 /\ True /\ True) /\ True) /\ ∃ (y : Nat), y <= q38 /\ q38 - y < q38 - x_2 /\ (x.1.1, x.1.2.1, x.1.2.2.1, q29, q30, q31, q32, q47.set q39 (q53 ++ q54, q52.2), ()) = Sp.fK x.1 (Sp.reoM x.1 x.2.1.1 x_1 y) /\ q55 = (↑y : Int) /\ q40) /\ (q49 = false -> ((True /\ inK IntKind.i64 q46 /\ True /\ True) /\ True) /\ ∃ (y : Nat), y <= q20 /\ q20 - y < q20 - x_1 /\ q48 = Sp.fK x.1 (Sp.reoN x.1 x.2.1.1 y) /\ q46 = (↑y : Int) /\ q23)) /\
 (q37 = false -> ((True /\ True) /\ True /\ True) /\ q36 = Sp.reoC x.1 x.2.1.1)) := by kernel_rfl
theorem vc11 : (c9 C11 (cN C11) S11 L11 Try.f11) = (
let q0 : Nat := (3000 : Nat);
let q1 : Int := (0 : Int);
let q2 : Nat := (2 : Nat);
let q3 : Prop := True /\ True /\ True;
let q4 : List (List Int) := ([] : List tI.slice.den);
let q5 : Sp.Ord := (q4, ());
let q6 : Sp.Done := ((q1, q1, q1, q1, q1, ([] : List cG.den), ([] : List bF.den), ([] : List fY.den), ()), q5, ());
let q7 : Prop := q6 = q6 /\ True;
let q8 : Sp.Opd := (q1, q1, q1, ());
let q9 : Sp.Block := (([] : List aL.den), (q1, q1, q8, q8, q8, List.replicate q2 q1, ()), ());
let q10 : List Step := Step.fst :: ([] : List Step);
let q11 : Int := (1 : Int);
∀ (x : Sp.Code × Unit),
 let q12 : Nat := (Sp.cA x.1).length;
 let q13 : Nat := (Sp.cB x.1).length;
 let q14 : Prop := q12 <= q0 /\ (Sp.cL x.1).length <= q0 /\ q13 <= q0 /\ ∀ (b : Sp.Block), b ∈ Sp.cB x.1 -> b.1.length <= q0;
 let q15 : Prop := x.1 = x.1 /\ q7;
 let q16 : List Sp.Block := x.1.2.2.2.2.2.2.2.1;
 let q17 : Nat := q16.length;
 (q14 /\ ∀ (b : Sp.Block), b ∈ Sp.cB x.1 -> ∀ (i : Sp.Inst), i ∈ b.1 -> Sp.opI i = (7 : Int) ∨ Sp.opI i = (8 : Int) ∨ Sp.opI i = (9 : Int) -> q1 <= Sp.nI i /\ Sp.nI i < (↑q12 : Int)) ->
 aB (tI.prod (tI.prod (tI.prod (tI.prod (tI.prod (cG.slice.prod (bF.slice.prod ((aL.slice.prod ((tI.prod (tI.prod (aQ.prod (aQ.prod (aQ.prod ((Ty.arr q2 tI).prod Ty.unit)))))).prod Ty.unit)).slice.prod Ty.unit)))))))) x.1 /\ True ->
 (q3 /\ True) /\
 (q3 /\ True /\ True) /\
 ((True /\ True) /\ True) /\
 (∃ (x_1 : Nat), x_1 <= q13 /\ q5 = (Sp.xsR Sp.bM x.1 x_1, ()) /\ q1 = (↑x_1 : Int) /\ q15) /\
 ∀ (x_1 : Nat),
 let q18 : List (List Int) := Sp.xsR Sp.bM x.1 x_1;
 let q19 : Sp.Ord := (q18, ());
 let q20 : Bool := decide ((↑x_1 : Int) < (↑q17 : Int));
 let q21 : List Sp.Inst := (q16.getD (↑x_1 : Int).toNat q9).1;
 let q22 : List (List Int) := Sp.lstO (Sp.bM x.1) q21 :: q4;
 let q23 : Int := (↑x_1 : Int) + q11;
 x_1 <= q13 -> aB fW q19 /\ aB tI (↑x_1 : Int) /\ True -> ((True /\ True /\ True /\ q3) /\ True) /\ (q20 = true -> ((True /\ True /\ True /\ True /\ True /\ True /\ inN (↑x_1 : Int) q17 /\ True /\ True /\ (q21.length <= q0 /\ ∀ (i : Sp.Inst), i ∈ q21 -> Sp.opI i = (7 : Int) ∨ Sp.opI i = (8 : Int) ∨ Sp.opI i = (9 : Int) -> q1 <= Sp.nI i /\ Sp.nI i < (↑q12 : Int)) /\ True /\ True) /\ (↑(q18.length + q22.length) : Int) <= maxNew /\ True /\ q10 = q10 /\ True) /\ ((True /\ inK IntKind.i64 q23 /\ True /\ True) /\ True) /\ ∃ (y : Nat), y <= q13 /\ q13 - y < q13 - x_1 /\ (q18 ++ q22, ()) = (Sp.xsR Sp.bM x.1 y, ()) /\ q23 = (↑y : Int) /\ q15) /\ (q20 = false -> ((True /\ True /\ (q14 /\ ∀ (b : Nat), b < q13 -> b < q18.length /\ (Sp.cF q18 b).length <= q0 /\ ∀ (k : Int), k ∈ Sp.cF q18 b -> q1 <= k /\ k < (↑(Sp.aH x.1 b).1.length : Int)) /\ q3) /\ True /\ True) /\ (Sp.reoC x.1 q18, q19, ()) = (Sp.runC Sp.bM x.1, (Sp.eW Sp.bM x.1, ()), ()))) := by kernel_rfl
theorem vc19 : (c9 C19 (cN C19) S19 L19 Try.f19) = (
let q0 : Nat := (3000 : Nat);
let q1 : Int := (0 : Int);
let q2 : Nat := (2 : Nat);
let q3 : Prop := True /\ True /\ True /\ True;
let q4 : Prop := True /\ q3;
let q5 : Prop := True /\ q4;
let q6 : Prop := (True /\ True) /\ True;
let q7 : Int := (100 : Int);
let q8 : Sp.Opd := (q1, q1, q1, ());
let q9 : Sp.Block := (([] : List aL.den), (q1, q1, q8, q8, q8, List.replicate q2 q1, ()), ());
let q10 : Int := (1 : Int);
∀ (x : Sp.Code × Sp.Done),
 let q11 : Nat := (Sp.cA x.1).length;
 let q12 : Nat := (Sp.cB x.1).length;
 let q13 : Prop := q11 <= q0 /\ (Sp.cL x.1).length <= q0 /\ q12 <= q0 /\ ∀ (b : Sp.Block), b ∈ Sp.cB x.1 -> b.1.length <= q0;
 let q14 : Nat := x.2.2.1.1.length;
 let q15 : List Sp.Block := x.1.2.2.2.2.2.2.2.1;
 let q16 : Nat := q15.length;
 let q17 : Int := (↑q16 : Int);
 let q18 : Bool := (↑q14 : Int) != q17;
 let q19 : Int := Sp.chkR x.1 x.2.1 x.2.2.1.1;
 let q20 : Prop := q6 /\ q7 = q19;
 let q21 : Prop := x.1 = x.1 /\ x.2.1 = x.2.1 /\ x.2.2.1 = x.2.2.1 /\ True;
 let q22 : Bool := !Sp.gC (Sp.reoC x.1 x.2.2.1.1) x.2.1;
 (q13 /\ ∀ (b : Sp.Block), b ∈ Sp.cB x.1 -> ∀ (i : Sp.Inst), i ∈ b.1 -> Sp.opI i = (7 : Int) ∨ Sp.opI i = (8 : Int) ∨ Sp.opI i = (9 : Int) -> q1 <= Sp.nI i /\ Sp.nI i < (↑q11 : Int)) ->
 aB (tI.prod (tI.prod (tI.prod (tI.prod (tI.prod (cG.slice.prod (bF.slice.prod ((aL.slice.prod ((tI.prod (tI.prod (aQ.prod (aQ.prod (aQ.prod ((Ty.arr q2 tI).prod Ty.unit)))))).prod Ty.unit)).slice.prod Ty.unit)))))))) x.1 /\ aB (tI.prod (tI.prod (tI.prod (tI.prod (tI.prod (cG.slice.prod (bF.slice.prod ((aL.slice.prod ((tI.prod (tI.prod (aQ.prod (aQ.prod (aQ.prod ((Ty.arr q2 tI).prod Ty.unit)))))).prod Ty.unit)).slice.prod Ty.unit)))))))) x.2.1 /\ aB fW x.2.2.1 /\ True ->
 (q4 /\ True) /\
 ((True /\ True /\ q5) /\ True) /\
 (q18 = true -> q20) /\
 (q18 = false ->
 q6 /\
 (∃ (x_1 : Nat), (x_1 <= q12 /\ q14 = q12 /\ ((List.range x_1).all fun (b : Nat) => Sp.eE (Sp.bM x.1) (Sp.aH x.1 b).1 (Sp.cF x.2.2.1.1 b)) = true) /\ q1 = (↑x_1 : Int) /\ q21) /\
 ∀ (x_1 : Nat),
 let q23 : Bool := decide ((↑x_1 : Int) < q17);
 let q24 : Nat := (↑x_1 : Int).toNat;
 let q25 : List Sp.Inst := (q15.getD q24 q9).1;
 let q26 : Bool := !Sp.eE (Sp.bM x.1) q25 (x.2.2.1.1.getD q24 (([] : List tI.den)));
 let q27 : Int := (↑x_1 : Int) + q10;
 x_1 <= q12 /\ q14 = q12 /\ ((List.range x_1).all fun (b : Nat) => Sp.eE (Sp.bM x.1) (Sp.aH x.1 b).1 (Sp.cF x.2.2.1.1 b)) = true ->
 aB tI (↑x_1 : Int) /\ True ->
 (q5 /\ True) /\
 (q23 = true -> ((True /\ True /\ True /\ True /\ inN (↑x_1 : Int) q16 /\ True /\ True /\ True /\ True /\ True /\ inN (↑x_1 : Int) q14 /\ True /\ (q25.length <= q0 /\ ∀ (i : Sp.Inst), i ∈ q25 -> Sp.opI i = (7 : Int) ∨ Sp.opI i = (8 : Int) ∨ Sp.opI i = (9 : Int) -> q1 <= Sp.nI i /\ Sp.nI i < (↑q11 : Int)) /\ True /\ True) /\ True) /\ (q26 = true -> q20) /\ (q26 = false -> ((True /\ inK IntKind.i64 q27 /\ True /\ True) /\ True) /\ ∃ (y : Nat), (y <= q12 /\ q14 = q12 /\ ((List.range y).all fun (b : Nat) => Sp.eE (Sp.bM x.1) (Sp.aH x.1 b).1 (Sp.cF x.2.2.1.1 b)) = true) /\ q12 - y < q12 - x_1 /\ q27 = (↑y : Int) /\ q21)) /\
 (q23 = false ->
 ((True /\
 True /\
 (q13 /\
 ∀ (b : Nat),
 let q28 : List Int := Sp.cF x.2.2.1.1 b;
 b < q12 -> b < x.2.2.1.1.length /\ q28.length <= q0 /\ ∀ (k : Int), k ∈ q28 -> q1 <= k /\ k < (↑(Sp.aH x.1 b).1.length : Int)) /\
 q3) /\
 True) /\
 (q22 = true -> q20) /\ (q22 = false -> q6 /\ q1 = q19)))) := by kernel_rfl
theorem vc59 : (funIT C59 (cN C59) S59 T59 Try.f59) = (
let q0 : Nat := (3000 : Nat);
let q1 : Int := (7 : Int);
let q2 : Int := (0 : Int);
let q3 : Prop := True /\ True /\ True;
let q4 : Prop := q3 /\ True;
let q5 : Prop := (True /\ True) /\ True;
let q6 : Prop := True /\ q3;
let q7 : Int := (1 : Int);
let q8 : Sp.Opd := (q2, q2, q2, ());
∀ (x : Sp.Code × List Sp.Inst × Unit),
 let q9 : Prop := x.2.1.length <= q0 /\ ∀ (i : Sp.Inst), i ∈ x.2.1 -> Sp.opI i = q1 ∨ Sp.opI i = (8 : Int) ∨ Sp.opI i = (9 : Int) -> q2 <= Sp.nI i /\ Sp.nI i < (↑(Sp.cA x.1).length : Int);
 let q10 : Nat := x.2.1.length;
 let q11 : Int := (↑q10 : Int);
 let q12 : Prop := x.2.1 = x.2.1;
 let q13 : List (List Bool) := Sp.mskL (Sp.aY x.1) x.2.1;
 let q14 : Prop := q13 = q13;
 let q15 : Prop := x.1 = x.1;
 let q16 : Prop := q12 /\ q14 /\ q15 /\ True;
 let q17 : Prop := q11 = q11;
 q9 ->
 aB bT x.1 /\ aB aL.slice x.2.1 /\ True ->
 q4 /\
 ((True /\ True /\ q9 /\ True /\ True) /\ True) /\
 ((True /\ True /\ ((0 : tI.den) <= q11 /\ q11 <= q11 /\ q11 <= maxNew) /\ True) /\ True /\ True) /\
 q5 /\
 (∃ (x_1 : Nat),
 let q18 : List Int := Sp.cY (Sp.d5 (Sp.aY x.1) x.2.1) x_1;
 x_1 <= q10 /\ q18 = ([] : List tI.den) /\ List.replicate q11.toNat false = Sp.doneL q18 q10 /\ q16) /\
 ∀ (x_1 : Nat),
 let q19 : List Int := Sp.cY (Sp.d5 (Sp.aY x.1) x.2.1) x_1;
 let q20 : List Bool := Sp.doneL q19 q10;
 let q21 : Nat := q19.length;
 let q22 : Bool := decide ((↑q21 : Int) < q11);
 let q23 : Prop := q20 = q20;
 let q24 : Prop := q19 = q19;
 let q25 : Prop := q12 /\ q15 /\ q14 /\ q23 /\ q24 /\ True;
 let q26 : Nat := q20.length;
 let q27 : Int := Sp.d5 (Sp.aY x.1) x.2.1 q19;
 let q28 : List Int := q27 :: ([] : List tI.den);
 x_1 <= q10 ->
 aB tI.slice q19 /\ aB Ty.bool.slice q20 /\ True ->
 ((True /\ True /\ q6) /\ True) /\
 (q22 = true ->
 q5 /\
 ((q6 /\ True) /\
 (∃ (x_2 : Nat), (x_2 <= q10 /\ ∀ (k : Nat), k < x_2 -> ¬(Sp.dL (Sp.aY x.1) x.2.1 q19 k = true /\ Sp.ldB x.2.1 k = true)) /\ q2 = (↑x_2 : Int) /\ q17 /\ -q7 = Sp.nxS (Sp.dL (Sp.aY x.1) x.2.1 q19) (Sp.ldB x.2.1) x_2 /\ q25) /\
 ∀ (x_2 : Nat),
 let q29 : Prop := aB tI (↑x_2 : Int);
 let q30 : Int := Sp.nxS (Sp.dL (Sp.aY x.1) x.2.1 q19) (Sp.ldB x.2.1) x_2;
 let q31 : Bool := decide ((↑x_2 : Int) < q11);
 let q32 : Nat := (↑x_2 : Int).toNat;
 let q33 : Bool := q20.getD q32 false;
 let q34 : Int := (↑x_2 : Int) + q7;
 let q35 : Prop := (inK IntKind.i64 q34 /\ True /\ True) /\ True;
 let q36 : Prop := q35 /\ ∃ (y : Nat), (y <= q10 /\ ∀ (k : Nat), k < y -> ¬(Sp.dL (Sp.aY x.1) x.2.1 q19 k = true /\ Sp.ldB x.2.1 k = true)) /\ q10 - y < q10 - x_2 /\ q34 = (↑y : Int) /\ q17 /\ q30 = Sp.nxS (Sp.dL (Sp.aY x.1) x.2.1 q19) (Sp.ldB x.2.1) y /\ q25;
 let q37 : List Bool := q13.getD q32 (([] : List Ty.bool.den));
 let q38 : Nat := q37.length;
 let q39 : Prop := (↑x_2 : Int) = (↑x_2 : Int);
 let q40 : Prop := q12 /\ q15 /\ q14 /\ q23 /\ q24 /\ q30 = q30 /\ q39 /\ q17 /\ q39 /\ q37 = q37 /\ True;
 let q41 : Bool := (x.2.1.getD q32 (q2, q2, q2, q8, q8, q8, q8, ())).1 == q1;
 let q42 : Bool := decide (q30 < q2);
 (x_2 <= q10 /\ ∀ (k : Nat), k < x_2 -> ¬(Sp.dL (Sp.aY x.1) x.2.1 q19 k = true /\ Sp.ldB x.2.1 k = true)) ->
 q29 /\ aB tI q11 /\ aB tI q30 /\ True ->
 q5 /\
 (q31 = true ->
 q4 /\
 ((True /\ True /\ inN (↑x_2 : Int) q26 /\ True /\ True) /\ True) /\
 (q33 = true -> q36) /\
 (q33 = false ->
 ((True /\ True /\ inN (↑x_2 : Int) q13.length /\ q6) /\ True) /\
 (∃ (x_3 : Nat), (x_3 <= x_2 /\ ((List.range x_3).all fun (j : Nat) => Sp.mem q19 (↑j : Int) || !Sp.aY x.1 (Sp.aV x.2.1 j) (Sp.aV x.2.1 x_2)) = true) /\ q2 = (↑x_3 : Int) /\ (↑q38 : Int) = (↑x_2 : Int) /\ q40) /\
 ∀ (x_3 : Nat),
 let q43 : Bool := decide ((↑x_3 : Int) < (↑x_2 : Int));
 let q44 : Nat := (↑x_3 : Int).toNat;
 let q45 : Bool := q37.getD q44 false;
 let q46 : Prop := (true && bif q45 then true else false) = true;
 let q47 : Prop := q46 -> True;
 let q48 : Bool := bif q45 then !q20.getD q44 false else false;
 let q49 : Int := (↑x_3 : Int) + q7;
 x_3 <= x_2 /\ ((List.range x_3).all fun (j : Nat) => Sp.mem q19 (↑j : Int) || !Sp.aY x.1 (Sp.aV x.2.1 j) (Sp.aV x.2.1 x_2)) = true -> aB tI (↑x_3 : Int) /\ q29 /\ True -> q5 /\ (q43 = true -> ((True /\ inN (↑x_3 : Int) q38 /\ q6) /\ True) /\ ((True /\ True /\ q47 /\ q47 /\ (q46 -> inN (↑x_3 : Int) q26) /\ q47 /\ q47 /\ True /\ True) /\ True) /\ (q48 = true -> q36) /\ (q48 = false -> ((inK IntKind.i64 q49 /\ True /\ True) /\ True) /\ ∃ (y : Nat), (y <= x_2 /\ ((List.range y).all fun (j : Nat) => Sp.mem q19 (↑j : Int) || !Sp.aY x.1 (Sp.aV x.2.1 j) (Sp.aV x.2.1 x_2)) = true) /\ x_2 - y < x_2 - x_3 /\ q49 = (↑y : Int) /\ q39 /\ q40)) /\ (q43 = false -> ((True /\ True /\ inN (↑x_2 : Int) q10 /\ q6) /\ True) /\ (q41 = true -> q4 /\ ∃ (x : Unit), True /\ (↑x_2 : Int) = q27 /\ q25) /\ (q41 = false -> q4 /\ (q42 = true -> q4 /\ q35 /\ ∃ (y : Nat), (y <= q10 /\ ∀ (k : Nat), k < y -> ¬(Sp.dL (Sp.aY x.1) x.2.1 q19 k = true /\ Sp.ldB x.2.1 k = true)) /\ q10 - y < q10 - x_2 /\ q34 = (↑y : Int) /\ q17 /\ (↑x_2 : Int) = Sp.nxS (Sp.dL (Sp.aY x.1) x.2.1 q19) (Sp.ldB x.2.1) y /\ q25) /\ (q42 = false -> q36))))) /\
 (q31 = false -> ∃ (x : Unit), True /\ q30 = q27 /\ q25)) /\
 ∀ (x_2 : Unit),
 True ->
 aB tI q27 /\ True ->
 ((True /\ True /\ inN q27 q26 /\ True) /\ True /\ True) /\
 (q6 /\ (↑(q21 + q28.length) : Int) <= maxNew /\ True /\ True) /\
 ∃ (y : Nat),
 let q50 : List Int := Sp.cY (Sp.d5 (Sp.aY x.1) x.2.1) y;
 y <= q10 /\ q10 - y < q10 - x_1 /\ q19 ++ q28 = q50 /\ q20.set q27.toNat true = Sp.doneL q50 q10 /\ q16) /\
 (q22 = false -> q4 /\ q19 = Sp.lstO (Sp.aY x.1) x.2.1)) := by kernel_rfl
theorem vc41 : (c9 C41 (cN C41) S41 L41 Try.f41) = (
let q0 : Nat := (3000 : Nat);
let q1 : Int := (0 : Int);
let q2 : Prop := True /\ True /\ True;
let q3 : Prop := q2 /\ True;
let q4 : Prop := True /\ q2;
let q5 : Prop := q4 /\ True;
let q6 : Int := (1 : Int);
let q7 : Int := -q6;
let q8 : Prop := (True /\ True) /\ True;
∀ (x : Sp.Code × List Sp.Inst × List Int × Unit),
 let q9 : Prop := x.2.1.length <= q0 /\ ∀ (i : Sp.Inst), i ∈ x.2.1 -> Sp.opI i = (7 : Int) ∨ Sp.opI i = (8 : Int) ∨ Sp.opI i = (9 : Int) -> q1 <= Sp.nI i /\ Sp.nI i < (↑(Sp.cA x.1).length : Int);
 let q10 : Nat := x.2.1.length;
 let q11 : Int := (↑q10 : Int);
 let q12 : List Int := List.replicate q11.toNat q1;
 let q13 : Prop := x.2.2.1 = x.2.2.1;
 let q14 : Prop := x.1 = x.1 /\ x.2.1 = x.2.1 /\ q13 /\ True;
 let q15 : Prop := aB tI q11;
 let q16 : Prop := q11 = q11;
 let q17 : Nat := x.2.2.1.length;
 let q18 : Int := (↑q17 : Int);
 let q19 : Prop := q18 = q18;
 let q20 : Prop := q13 /\ q14;
 let q21 : Bool := Sp.eE (Sp.depQ x.1) x.2.1 x.2.2.1;
 let q22 : Prop := q8 /\ false = q21;
 let q23 : Bool := q18 != q11;
 let q24 : List Int := Sp.atL x.2.2.1 q10 q17;
 let q25 : List (List Bool) := Sp.mskL (Sp.aY x.1) x.2.1;
 let q26 : Nat := q25.length;
 let q27 : Prop := q25 = q25;
 q9 ->
 aB bT x.1 /\ aB aL.slice x.2.1 /\ aB tI.slice x.2.2.1 /\ True ->
 q3 /\
 ((True /\ True /\ ((0 : tI.den) <= q11 /\ q11 <= q11 /\ q11 <= maxNew) /\ True) /\ True /\ True) /\
 q5 /\
 (∃ (x : Nat), x <= q10 /\ q1 = (↑x : Int) /\ (↑q12.length : Int) = q11 /\ q12 = List.replicate x q7 ++ List.replicate (q10 - x) q1 /\ q14) /\
 ∀ (x_1 : Nat),
 let q28 : Nat := q10 - x_1;
 let q29 : List Int := List.replicate x_1 q7 ++ List.replicate q28 q1;
 let q30 : Bool := decide ((↑x_1 : Int) < q11);
 let q31 : Int := (↑x_1 : Int) + q6;
 x_1 <= q10 ->
 aB tI (↑x_1 : Int) /\ q15 /\ aB tI.slice q29 /\ True ->
 q8 /\
 (q30 = true ->
 q3 /\
 ((True /\ True /\ inN (↑x_1 : Int) q29.length /\ True) /\ True /\ True) /\
 ((inK IntKind.i64 q31 /\ True /\ True) /\ True) /\
 ∃ (y : Nat),
 let q32 : Nat := q10 - y;
 y <= q10 /\ q32 < q28 /\ q31 = (↑y : Int) /\ q16 /\ q29.set (↑x_1 : Int).toNat q7 = List.replicate y q7 ++ List.replicate q32 q1 /\ q14) /\
 (q30 = false ->
 q5 /\
 (∃ (x_2 : Nat),
 let q33 : List Int := List.take x_2 x.2.2.1;
 (x_2 <= q17 /\ q33.Nodup /\ ∀ (k : Int), k ∈ q33 -> q1 <= k /\ k < q11) /\ q1 = (↑x_2 : Int) /\ q19 /\ q29 = Sp.atL x.2.2.1 q10 x_2 /\ q20) /\
 ∀ (x_2 : Nat),
 let q34 : List Int := List.take x_2 x.2.2.1;
 let q35 : List Int := Sp.atL x.2.2.1 q10 x_2;
 let q36 : Bool := decide ((↑x_2 : Int) < q18);
 let q37 : Int := x.2.2.1.getD (↑x_2 : Int).toNat q1;
 let q38 : Bool := decide (q37 < q1);
 let q39 : Prop := (true && bif q38 then false else true) = true -> True;
 let q40 : Bool := bif q38 then true else decide (q37 ≥ q11);
 let q41 : Prop := (true && bif q40 then false else true) = true;
 let q42 : Prop := q41 -> True;
 let q43 : Nat := q35.length;
 let q44 : Prop := inN q37 q43;
 let q45 : Nat := q37.toNat;
 let q46 : Bool := bif q40 then true else decide (q35.getD q45 q1 ≥ q1);
 let q47 : Int := (↑x_2 : Int) + q6;
 let q48 : Prop := q35 = q35;
 let q49 : Prop := q27 /\ q48 /\ q14;
 (x_2 <= q17 /\ q34.Nodup /\ ∀ (k : Int), k ∈ q34 -> q1 <= k /\ k < q11) ->
 aB tI (↑x_2 : Int) /\ aB tI q18 /\ aB tI.slice q35 /\ True ->
 q8 /\
 (q36 = true ->
 ((True /\ inN (↑x_2 : Int) q17 /\ q4) /\ True) /\
 ((True /\ True /\ True /\ q39 /\ q39 /\ q39 /\ q39 /\ True /\ True /\ q42 /\ q42 /\ (q41 -> q44) /\ q42 /\ q42 /\ True /\ True) /\ True) /\
 (q46 = true -> q22) /\
 (q46 = false ->
 ((True /\ True /\ True /\ q44 /\ True) /\ True /\ True) /\
 ((inK IntKind.i64 q47 /\ True /\ True) /\ True) /\
 ∃ (y : Nat),
 let q50 : List Int := List.take y x.2.2.1;
 (y <= q17 /\ q50.Nodup /\ ∀ (k : Int), k ∈ q50 -> q1 <= k /\ k < q11) /\ q17 - y < q17 - x_2 /\ q47 = (↑y : Int) /\ q19 /\ q35.set q45 (↑x_2 : Int) = Sp.atL x.2.2.1 q10 y /\ q20)) /\
 (q36 = false ->
 ((True /\ True /\ q4) /\ True) /\
 (q23 = true -> q22) /\
 (q23 = false ->
 ((True /\ True /\ q9 /\ q2) /\ True) /\
 (∃ (x_3 : Nat), (x_3 <= q10 /\ ∀ (k : Nat), k < x_3 -> ∀ (j : Nat), j < k -> Sp.aY x.1 (Sp.aV x.2.1 j) (Sp.aV x.2.1 k) = true -> Sp.xAt q24 j <= Sp.xAt q24 k) /\ q1 = (↑x_3 : Int) /\ (↑q26 : Int) = q11 /\ q49) /\
 ∀ (x_3 : Nat),
 let q51 : Prop := aB tI (↑x_3 : Int);
 let q52 : Bool := decide ((↑x_3 : Int) < q11);
 let q53 : Nat := (↑x_3 : Int).toNat;
 let q54 : List Bool := q25.getD q53 (([] : List Ty.bool.den));
 let q55 : Nat := q54.length;
 let q56 : Prop := q54 = q54;
 let q57 : Prop := (↑x_3 : Int) = (↑x_3 : Int);
 let q58 : Prop := q56 /\ q27 /\ q16 /\ q57 /\ q48 /\ q57 /\ q56 /\ q14;
 let q59 : Int := (↑x_3 : Int) + q6;
 (x_3 <= q10 /\ ∀ (k : Nat), k < x_3 -> ∀ (j : Nat), j < k -> Sp.aY x.1 (Sp.aV x.2.1 j) (Sp.aV x.2.1 k) = true -> Sp.xAt q24 j <= Sp.xAt q24 k) ->
 q51 /\ q15 /\ True ->
 q8 /\
 (q52 = true ->
 ((True /\ inN (↑x_3 : Int) q26 /\ q4) /\ True) /\
 q5 /\
 (∃ (x_4 : Nat), (x_4 <= x_3 /\ ∀ (k : Nat), k < x_4 -> Sp.aY x.1 (Sp.aV x.2.1 k) (Sp.aV x.2.1 x_3) = true -> Sp.xAt q24 k <= Sp.xAt q24 x_3) /\ q1 = (↑x_4 : Int) /\ (↑q55 : Int) = (↑x_3 : Int) /\ q58) /\
 ∀ (x_4 : Nat),
 let q60 : Bool := decide ((↑x_4 : Int) < (↑x_3 : Int));
 let q61 : Nat := (↑x_4 : Int).toNat;
 let q62 : Bool := q54.getD q61 false;
 let q63 : Prop := (true && bif q62 then true else false) = true;
 let q64 : Prop := q63 -> True;
 let q65 : Bool := bif q62 then decide (q35.getD q61 q1 > q35.getD q53 q1) else false;
 let q66 : Int := (↑x_4 : Int) + q6;
 (x_4 <= x_3 /\ ∀ (k : Nat), k < x_4 -> Sp.aY x.1 (Sp.aV x.2.1 k) (Sp.aV x.2.1 x_3) = true -> Sp.xAt q24 k <= Sp.xAt q24 x_3) -> aB tI (↑x_4 : Int) /\ q51 /\ True -> q8 /\ (q60 = true -> ((True /\ inN (↑x_4 : Int) q55 /\ q4) /\ True) /\ ((True /\ True /\ q64 /\ q64 /\ (q63 -> inN (↑x_4 : Int) q43) /\ q64 /\ q64 /\ q64 /\ (q63 -> inN (↑x_3 : Int) q43) /\ q64 /\ q64 /\ True /\ True) /\ True) /\ (q65 = true -> q22) /\ (q65 = false -> ((inK IntKind.i64 q66 /\ True /\ True) /\ True) /\ ∃ (y : Nat), (y <= x_3 /\ ∀ (k : Nat), k < y -> Sp.aY x.1 (Sp.aV x.2.1 k) (Sp.aV x.2.1 x_3) = true -> Sp.xAt q24 k <= Sp.xAt q24 x_3) /\ x_3 - y < x_3 - x_4 /\ q66 = (↑y : Int) /\ q57 /\ q58)) /\ (q60 = false -> ((inK IntKind.i64 q59 /\ True /\ True) /\ True) /\ ∃ (y : Nat), (y <= q10 /\ ∀ (k : Nat), k < y -> ∀ (j : Nat), j < k -> Sp.aY x.1 (Sp.aV x.2.1 j) (Sp.aV x.2.1 k) = true -> Sp.xAt q24 j <= Sp.xAt q24 k) /\ q10 - y < q10 - x_3 /\ q59 = (↑y : Int) /\ q16 /\ q49)) /\
 (q52 = false -> q8 /\ true = q21))))) := by kernel_rfl
theorem vc28 : (c9 C28 (cN C28) S28 L28 Try.f28) = (
let q0 : Nat := (3000 : Nat);
let q1 : Int := (0 : Int);
let q2 : Nat := (2 : Nat);
let q3 : Prop := True /\ True /\ True;
let q4 : Prop := True /\ q3;
let q5 : Prop := (True /\ True) /\ True;
let q6 : Nat := (5000 : Nat);
let q7 : Prop := True /\ q4;
let q8 : List (List Int) := ([] : List tI.slice.den);
let q9 : Sp.Ord := (q8, ());
let q10 : Sp.Code := (q1, q1, q1, q1, q1, ([] : List cG.den), ([] : List bF.den), ([] : List fY.den), ());
let q11 : Prop := q10 = q10 /\ q9 = q9 /\ True;
let q12 : Sp.Opd := (q1, q1, q1, ());
let q13 : Sp.Block := (([] : List aL.den), (q1, q1, q12, q12, q12, List.replicate q2 q1, ()), ());
let q14 : List Step := Step.fst :: ([] : List Step);
let q15 : Int := (1 : Int);
let q16 : Nat := (5 : Nat);
let q17 : Prop := ([] : List Step) = ([] : List Step);
let q18 : Nat := (4 : Nat);
let q19 : Prop := (True /\ q18 = q18 /\ q17) /\ True;
∀ (x : Sp.Code × Unit),
 let q20 : Nat := (Sp.cA x.1).length;
 let q21 : Nat := (Sp.cB x.1).length;
 let q22 : Int × List Sp.Arr × List Sp.Opd × List Sp.Block × Unit := x.1.2.2.2.2;
 let q23 : List Sp.Arr × List Sp.Opd × List Sp.Block × Unit := q22.2;
 let q24 : List Sp.Arr := q23.1;
 let q25 : List Sp.Opd × List Sp.Block × Unit := q23.2;
 let q26 : List Sp.Opd := q25.1;
 let q27 : List Sp.Block × Unit := q25.2;
 let q28 : List Sp.Block := q27.1;
 let q29 : Nat := q28.length;
 let q30 : Int := (↑q21 : Int);
 let q31 : Int := x.1.2.2.2.1;
 let q32 : Int := q22.1;
 let q33 : Prop := x.1 = x.1 /\ q11;
 ((q20 <= q0 /\ (Sp.cL x.1).length <= q0 /\ q21 <= q0 /\ ∀ (b : Sp.Block), b ∈ Sp.cB x.1 -> b.1.length <= q0) /\ ∀ (b : Sp.Block), b ∈ Sp.cB x.1 -> ∀ (i : Sp.Inst), i ∈ b.1 -> Sp.opI i = (7 : Int) ∨ Sp.opI i = (8 : Int) ∨ Sp.opI i = (9 : Int) -> q1 <= Sp.nI i /\ Sp.nI i < (↑q20 : Int)) ->
 aB (tI.prod (tI.prod (tI.prod (tI.prod (tI.prod (cG.slice.prod (bF.slice.prod ((aL.slice.prod ((tI.prod (tI.prod (aQ.prod (aQ.prod (aQ.prod ((Ty.arr q2 tI).prod Ty.unit)))))).prod Ty.unit)).slice.prod Ty.unit)))))))) x.1 /\ True ->
 (q4 /\ True) /\
 q5 /\
 (q3 /\ True /\ True) /\
 ((True /\ True /\ q24.length <= q6 /\ True /\ True /\ q26.length <= q6 /\ True /\ True /\ q29 <= q6 /\ True /\ True) /\ True /\ q7) /\
 (q7 /\ True) /\
 (∃ (x_1 : Nat), x_1 <= q21 /\ q1 = (↑x_1 : Int) /\ (↑q29 : Int) = q30 /\ q9 = (Sp.xsR Sp.aY x.1 x_1, ()) /\ (x.1.1, x.1.2.1, x.1.2.2.1, q31, q32, q24, q26, q28, q27.2) = Sp.fK x.1 (Sp.reoN x.1 (Sp.eW Sp.aY x.1) x_1) /\ q33) /\
 ∀ (x_1 : Nat),
 let q34 : List (List Int) := Sp.xsR Sp.aY x.1 x_1;
 let q35 : Sp.Ord := (q34, ());
 let q36 : List Sp.Block := Sp.reoN x.1 (Sp.eW Sp.aY x.1) x_1;
 let q37 : Sp.Code := Sp.fK x.1 q36;
 let q38 : Bool := decide ((↑x_1 : Int) < q30);
 let q39 : Prop := inN (↑x_1 : Int) q29;
 let q40 : Nat := (↑x_1 : Int).toNat;
 let q41 : List Sp.Inst := (q28.getD q40 q13).1;
 let q42 : List Int := Sp.lstO (Sp.aY x.1) q41;
 let q43 : List (List Int) := q42 :: q8;
 let q44 : Int := (↑x_1 : Int) + q15;
 x_1 <= q21 -> aB tI (↑x_1 : Int) /\ aB tI q30 /\ aB fW q35 /\ aB (tI.prod (tI.prod (tI.prod (tI.prod (tI.prod (cG.slice.prod (bF.slice.prod ((aL.slice.prod ((tI.prod (tI.prod (aQ.prod (aQ.prod (aQ.prod ((Ty.arr q2 tI).prod Ty.unit)))))).prod Ty.unit)).slice.prod Ty.unit)))))))) q37 /\ True -> q5 /\ (q38 = true -> (q3 /\ True) /\ ((True /\ True /\ True /\ True /\ q39 /\ True /\ True /\ (q41.length <= q0 /\ ∀ (i : Sp.Inst), i ∈ q41 -> Sp.opI i = (7 : Int) ∨ Sp.opI i = (8 : Int) ∨ Sp.opI i = (9 : Int) -> q1 <= Sp.nI i /\ Sp.nI i < (↑q20 : Int)) /\ True /\ True) /\ True) /\ (q7 /\ (↑(q34.length + q43.length) : Int) <= maxNew /\ True /\ q14 = q14 /\ True) /\ ((True /\ True /\ True /\ True /\ True /\ True /\ q39 /\ True /\ True /\ True /\ (q42.length <= q6 /\ ∀ (k : Int), k ∈ q42 -> (0 : tI.den) <= k /\ k < (↑q41.length : Int)) /\ inN (↑x_1 : Int) q36.length /\ True /\ True) /\ True /\ True) /\ ((inK IntKind.i64 q44 /\ True /\ True) /\ True) /\ ∃ (y : Nat), y <= q21 /\ q21 - y < q21 - x_1 /\ q44 = (↑y : Int) /\ q30 = q30 /\ (q34 ++ q43, ()) = (Sp.xsR Sp.aY x.1 y, ()) /\ (x.1.1, x.1.2.1, x.1.2.2.1, q31, q32, q24, q26, q36.set q40 (Sp.fC q41 q42, (q36.getD q40 q13).2), ()) = Sp.fK x.1 (Sp.reoN x.1 (Sp.eW Sp.aY x.1) y) /\ q33) /\ (q38 = false -> q3 /\ ((True /\ q16 = q16 /\ q17) /\ q19) /\ (True /\ True /\ q19 /\ (True /\ True /\ True /\ (q37, q35, ()) = (Sp.runC Sp.aY x.1, (Sp.eW Sp.aY x.1, ()), ())) /\ True) /\ True /\ True)) := by kernel_rfl
theorem vc18 : (c9 C18 (cN C18) S18 L18 Try.f18) = (
let q0 : Nat := (3000 : Nat);
let q1 : Int := (0 : Int);
let q2 : Nat := (2 : Nat);
let q3 : Prop := True /\ True /\ True;
let q4 : Prop := True /\ q3;
let q5 : Prop := (True /\ q4) /\ True;
let q6 : Prop := (True /\ True) /\ True;
let q7 : Int := (100 : Int);
let q8 : Sp.Opd := (q1, q1, q1, ());
let q9 : Sp.Block := (([] : List aL.den), (q1, q1, q8, q8, q8, List.replicate q2 q1, ()), ());
let q10 : Int := (1 : Int);
∀ (x : Sp.Code × Sp.Done),
 let q11 : Nat := (Sp.cA x.1).length;
 let q12 : Nat := (Sp.cB x.1).length;
 let q13 : Bool := x.1.1 == x.2.1.1;
 let q14 : Prop := (true && bif q13 then true else false) = true -> True;
 let q15 : Bool := bif q13 then x.1.2.1 == x.2.1.2.1 else false;
 let q16 : Prop := (true && bif q15 then true else false) = true -> True;
 let q17 : Bool := bif q15 then x.1.2.2.1 == x.2.1.2.2.1 else false;
 let q18 : Prop := (true && bif q17 then true else false) = true -> True;
 let q19 : Int × Int × List Sp.Arr × List Sp.Opd × List Sp.Block × Unit := x.2.1.2.2.2;
 let q20 : Bool := bif q17 then x.1.2.2.2.1 == q19.1 else false;
 let q21 : Prop := (true && bif q20 then true else false) = true -> True;
 let q22 : Int × List Sp.Arr × List Sp.Opd × List Sp.Block × Unit := x.1.2.2.2.2;
 let q23 : Int × List Sp.Arr × List Sp.Opd × List Sp.Block × Unit := q19.2;
 let q24 : Bool := bif q20 then q22.1 == q23.1 else false;
 let q25 : Prop := (true && bif q24 then true else false) = true -> True;
 let q26 : List Sp.Arr × List Sp.Opd × List Sp.Block × Unit := q22.2;
 let q27 : List Sp.Arr × List Sp.Opd × List Sp.Block × Unit := q23.2;
 let q28 : Bool := bif q24 then Sp.eqArrs q26.1 q27.1 else false;
 let q29 : Prop := (true && bif q28 then true else false) = true -> True;
 let q30 : List Sp.Opd × List Sp.Block × Unit := q26.2;
 let q31 : List Sp.Opd × List Sp.Block × Unit := q27.2;
 let q32 : Bool := !bif q28 then Sp.eqLps q30.1 q31.1 else false;
 let q33 : Prop := (true && bif q32 then false else true) = true -> True;
 let q34 : List Sp.Block := q31.2.1;
 let q35 : Nat := q34.length;
 let q36 : List Sp.Block := q30.2.1;
 let q37 : Nat := q36.length;
 let q38 : Int := (↑q37 : Int);
 let q39 : Bool := bif q32 then true else (↑q35 : Int) != q38;
 let q40 : Prop := (true && bif q39 then false else true) = true -> True;
 let q41 : Nat := x.2.2.1.1.length;
 let q42 : Bool := bif q39 then true else (↑q41 : Int) != q38;
 let q43 : Int := Sp.chkP x.1 x.2.1 x.2.2.1.1;
 let q44 : Prop := q6 /\ q7 = q43;
 let q45 : Int := (↑q12 : Int);
 let q46 : Prop := x.1 = x.1 /\ x.2.1 = x.2.1 /\ x.2.2.1 = x.2.2.1 /\ True;
 ((q11 <= q0 /\ (Sp.cL x.1).length <= q0 /\ q12 <= q0 /\ ∀ (b : Sp.Block), b ∈ Sp.cB x.1 -> b.1.length <= q0) /\ ∀ (b : Sp.Block), b ∈ Sp.cB x.1 -> ∀ (i : Sp.Inst), i ∈ b.1 -> Sp.opI i = (7 : Int) ∨ Sp.opI i = (8 : Int) ∨ Sp.opI i = (9 : Int) -> q1 <= Sp.nI i /\ Sp.nI i < (↑q11 : Int)) ->
 aB (tI.prod (tI.prod (tI.prod (tI.prod (tI.prod (cG.slice.prod (bF.slice.prod ((aL.slice.prod ((tI.prod (tI.prod (aQ.prod (aQ.prod (aQ.prod ((Ty.arr q2 tI).prod Ty.unit)))))).prod Ty.unit)).slice.prod Ty.unit)))))))) x.1 /\ aB (tI.prod (tI.prod (tI.prod (tI.prod (tI.prod (cG.slice.prod (bF.slice.prod ((aL.slice.prod ((tI.prod (tI.prod (aQ.prod (aQ.prod (aQ.prod ((Ty.arr q2 tI).prod Ty.unit)))))).prod Ty.unit)).slice.prod Ty.unit)))))))) x.2.1 /\ aB fW x.2.2.1 /\ True ->
 q5 /\
 ((True /\ True /\ True /\ True /\ True /\ True /\ q14 /\ q14 /\ q14 /\ q14 /\ q14 /\ True /\ True /\ q16 /\ q16 /\ q16 /\ q16 /\ q16 /\ True /\ True /\ q18 /\ q18 /\ q18 /\ q18 /\ q18 /\ True /\ True /\ q21 /\ q21 /\ q21 /\ q21 /\ q21 /\ True /\ True /\ q25 /\ q25 /\ q25 /\ q25 /\ q25 /\ True /\ True /\ q29 /\ q29 /\ q29 /\ q29 /\ q29 /\ q3) /\ True) /\
 ((True /\ True /\ True /\ q33 /\ q33 /\ q33 /\ q33 /\ q33 /\ q33 /\ q33 /\ True /\ True /\ q40 /\ q40 /\ q40 /\ q40 /\ q40 /\ q40 /\ q40 /\ True /\ True) /\ True) /\
 (q42 = true -> q44) /\
 (q42 = false ->
 q5 /\
 (∃ (x_1 : Nat), (x_1 <= q12 /\ Sp.headB x.1 x.2.1 = true /\ (Sp.cB x.2.1).length = q12 /\ q41 = q12 /\ ∀ (k : Nat), k < x_1 -> Sp.eE (Sp.depQ x.1) (Sp.aH x.1 k).1 (Sp.cF x.2.2.1.1 k) = true /\ Sp.reoK x.1 x.2.2.1.1 k = Sp.aH x.2.1 k) /\ q1 = (↑x_1 : Int) /\ q38 = q45 /\ q46) /\
 ∀ (x_1 : Nat),
 let q47 : Bool := decide ((↑x_1 : Int) < q45);
 let q48 : Prop := inN (↑x_1 : Int) q37;
 let q49 : Prop := inN (↑x_1 : Int) q35;
 let q50 : Nat := (↑x_1 : Int).toNat;
 let q51 : Sp.Block := q36.getD q50 q9;
 let q52 : Sp.Term := q51.2.1;
 let q53 : Sp.Block := q34.getD q50 q9;
 let q54 : Sp.Term := q53.2.1;
 let q55 : Int × Sp.Opd × Sp.Opd × Sp.Opd × List Int × Unit := q52.2;
 let q56 : Int × Sp.Opd × Sp.Opd × Sp.Opd × List Int × Unit := q54.2;
 let q57 : Sp.Opd × Sp.Opd × Sp.Opd × List Int × Unit := q55.2;
 let q58 : Sp.Opd := q57.1;
 let q59 : Sp.Opd × Sp.Opd × Sp.Opd × List Int × Unit := q56.2;
 let q60 : Sp.Opd := q59.1;
 let q61 : Int × Int × Unit := q58.2;
 let q62 : Int × Int × Unit := q60.2;
 let q63 : Sp.Opd × Sp.Opd × List Int × Unit := q57.2;
 let q64 : Sp.Opd := q63.1;
 let q65 : Sp.Opd × Sp.Opd × List Int × Unit := q59.2;
 let q66 : Sp.Opd := q65.1;
 let q67 : Int × Int × Unit := q64.2;
 let q68 : Int × Int × Unit := q66.2;
 let q69 : Sp.Opd × List Int × Unit := q63.2;
 let q70 : Sp.Opd := q69.1;
 let q71 : Sp.Opd × List Int × Unit := q65.2;
 let q72 : Sp.Opd := q71.1;
 let q73 : Int × Int × Unit := q70.2;
 let q74 : Int × Int × Unit := q72.2;
 let q75 : Bool := !(decide (q52.1 = q54.1) && (decide (q55.1 = q56.1) && (decide (q58.1 = q60.1) && (decide (q61.1 = q62.1) && (decide (q61.2.1 = q62.2.1) && true)) && (decide (q64.1 = q66.1) && (decide (q67.1 = q68.1) && (decide (q67.2.1 = q68.2.1) && true)) && (decide (q70.1 = q72.1) && (decide (q73.1 = q74.1) && (decide (q73.2.1 = q74.2.1) && true)) && (decide (q69.2.1 = q71.2.1) && true))))));
 let q76 : Prop := (true && bif q75 then false else true) = true;
 let q77 : Prop := q76 -> True;
 let q78 : Prop := inN (↑x_1 : Int) q41;
 let q79 : List Sp.Inst := q51.1;
 let q80 : List Int := x.2.2.1.1.getD q50 (([] : List tI.den));
 let q81 : Bool := bif q75 then true else !Sp.eE (Sp.depQ x.1) q79 q80;
 let q82 : Prop := (true && bif q81 then false else true) = true;
 let q83 : Prop := q82 -> True;
 let q84 : Bool := bif q81 then true else !Sp.eqIns (Sp.fC q79 q80) q53.1;
 let q85 : Int := (↑x_1 : Int) + q10;
 (x_1 <= q12 /\ Sp.headB x.1 x.2.1 = true /\ (Sp.cB x.2.1).length = q12 /\ q41 = q12 /\ ∀ (k : Nat), k < x_1 -> Sp.eE (Sp.depQ x.1) (Sp.aH x.1 k).1 (Sp.cF x.2.2.1.1 k) = true /\ Sp.reoK x.1 x.2.2.1.1 k = Sp.aH x.2.1 k) -> aB tI (↑x_1 : Int) /\ aB tI q45 /\ True -> q6 /\ (q47 = true -> (q3 /\ True) /\ ((True /\ True /\ True /\ q48 /\ q4) /\ True) /\ ((True /\ True /\ True /\ q48 /\ True /\ True /\ True /\ True /\ True /\ q49 /\ True /\ True /\ True /\ True /\ q77 /\ q77 /\ q77 /\ q77 /\ q77 /\ (q76 -> q78) /\ q77 /\ (q76 -> q79.length <= q0 /\ ∀ (i : Sp.Inst), i ∈ q79 -> Sp.opI i = (7 : Int) ∨ Sp.opI i = (8 : Int) ∨ Sp.opI i = (9 : Int) -> q1 <= Sp.nI i /\ Sp.nI i < (↑q11 : Int)) /\ q77 /\ True /\ True /\ q83 /\ q83 /\ q83 /\ q83 /\ (q82 -> q78) /\ q83 /\ (q82 -> q80.length <= (5000 : Nat) /\ ∀ (k : Int), k ∈ q80 -> (0 : tI.den) <= k /\ k < (↑q79.length : Int)) /\ q83 /\ q83 /\ q83 /\ (q82 -> q49) /\ q83 /\ q83 /\ q83 /\ q83 /\ True /\ True) /\ True) /\ (q84 = true -> q44) /\ (q84 = false -> ((inK IntKind.i64 q85 /\ True /\ True) /\ True) /\ ∃ (y : Nat), (y <= q12 /\ Sp.headB x.1 x.2.1 = true /\ (Sp.cB x.2.1).length = q12 /\ q41 = q12 /\ ∀ (k : Nat), k < y -> Sp.eE (Sp.depQ x.1) (Sp.aH x.1 k).1 (Sp.cF x.2.2.1.1 k) = true /\ Sp.reoK x.1 x.2.2.1.1 k = Sp.aH x.2.1 k) /\ q12 - y < q12 - x_1 /\ q85 = (↑y : Int) /\ q45 = q45 /\ q46)) /\ (q47 = false -> q6 /\ q1 = q43))) := by kernel_rfl
theorem vc27 : (c9 C27 (cN C27) S27 L27 Try.f27) = (
let q0 : Prop := True /\ True /\ True;
let q1 : Nat := (5000 : Nat);
let q2 : Prop := (True /\ True) /\ True /\ True;
let q3 : Prop := (True /\ True) /\ True;
let q4 : Int := (2 : Int);
let q5 : Int := (1 : Int);
let q6 : Int := (0 : Int);
let q7 : Sp.Code := (q6, q6, q6, q6, q6, ([] : List cG.den), ([] : List bF.den), ([] : List fY.den), ());
let q8 : Prop := q7 = q7;
let q9 : Prop := q8 /\ True;
let q10 : Nat := (2 : Nat);
let q11 : Prop := True /\ q0;
let q12 : Prop := True /\ q11;
let q13 : Sp.Opd := (q6, q6, q6, ());
let q14 : Sp.Block := (([] : List aL.den), (q6, q6, q13, q13, q13, List.replicate q10 q6, ()), ());
let q15 : Sp.Opd × Sp.Opd × Unit := (q13, q13, ());
let q16 : Sp.Opd × Sp.Opd × Sp.Opd × Unit := (q13, q15);
let q17 : Sp.Inst := (q6, q6, q6, q13, q16);
let q18 : Prop := q4 ≠ q6;
let q19 : Int := (6 : Int);
let q20 : Prop := q19 ≠ q6;
let q21 : Int := (12 : Int);
let q22 : Int := (11 : Int);
∀ (x : (List Int × Unit) × Unit),
 let q23 : List Sp.Block := Sp.cB (Sp.bQ x.1.1);
 let q24 : Nat := q23.length;
 let q25 : Sp.Code := (Sp.md4 x.1.1).2.2.1;
 let q26 : Int := q25.1;
 let q27 : Int × Int × Int × Int × List Sp.Arr × List Sp.Opd × List Sp.Block × Unit := q25.2;
 let q28 : Int := q27.1;
 let q29 : Int × Int × Int × List Sp.Arr × List Sp.Opd × List Sp.Block × Unit := q27.2;
 let q30 : Int := q29.1;
 let q31 : Int × List Sp.Arr × List Sp.Opd × List Sp.Block × Unit := q29.2.2;
 let q32 : Int := q31.1;
 let q33 : List Sp.Arr × List Sp.Opd × List Sp.Block × Unit := q31.2;
 let q34 : List Sp.Arr := q33.1;
 let q35 : List Sp.Opd := q33.2.1;
 let q36 : Sp.Code := Sp.setSl (Sp.bQ x.1.1) q4;
 let q37 : Prop := x.1 = x.1;
 let q38 : Prop := q37 /\ q9;
 True ->
 aB (tU8.slice.prod Ty.unit) x.1 /\ True ->
 (q0 /\ True) /\
 ((True /\ True /\ ((Sp.cA (Sp.bQ x.1.1)).length <= q1 /\ (Sp.cL (Sp.bQ x.1.1)).length <= q1 /\ q24 <= q1 /\ ∀ (b : Sp.Block), b ∈ q23 -> b.1.length <= q1) /\ True /\ True) /\ True /\ True) /\
 q2 /\
 q3 /\
 (∃ (x_1 : Nat), x_1 <= q24 /\ (q26, q28, q30, q4, q32, q34, q35, Sp.setT (Sp.cB q25) (Sp.nB (Sp.md4 x.1.1) - q5) (Sp.tJ (5 : Int) q6 q6), ()) = Sp.fK q36 (Sp.slB (Sp.bQ x.1.1) x_1) /\ q6 = (↑x_1 : Int) /\ q38) /\
 ∀ (x_1 : Nat),
 let q39 : List Sp.Block := Sp.slB (Sp.bQ x.1.1) x_1;
 let q40 : Sp.Code := Sp.fK q36 q39;
 let q41 : Nat := q39.length;
 let q42 : Bool := decide ((↑x_1 : Int) < (↑q41 : Int));
 let q43 : List Sp.Inst := (Sp.aH (Sp.bQ x.1.1) x_1).1;
 let q44 : Nat := q43.length;
 let q45 : Prop := q37 /\ q8 /\ q40 = q40 /\ (↑x_1 : Int) = (↑x_1 : Int) /\ True;
 let q46 : Prop := inN (↑x_1 : Int) q41;
 let q47 : Nat := (↑x_1 : Int).toNat;
 let q48 : Sp.Block := q39.getD q47 q14;
 let q49 : List Sp.Inst := q48.1;
 let q50 : Nat := q49.length;
 let q51 : Int := (↑x_1 : Int).tmod q4;
 let q52 : Int := (↑x_1 : Int) + q5;
 x_1 <= q24 ->
 aB (tI.prod (tI.prod (tI.prod (tI.prod (tI.prod (cG.slice.prod (bF.slice.prod ((aL.slice.prod ((tI.prod (tI.prod (aQ.prod (aQ.prod (aQ.prod ((Ty.arr q10 tI).prod Ty.unit)))))).prod Ty.unit)).slice.prod Ty.unit)))))))) q40 /\ aB tI (↑x_1 : Int) /\ True ->
 ((True /\ q12) /\ True) /\
 (q42 = true ->
 q2 /\
 q3 /\
 (∃ (x : Nat), x <= q44 /\ ([] : List aL.den) = Sp.slL (↑x_1 : Int) q43 x /\ q6 = (↑x : Int) /\ q45) /\
 ∀ (x_2 : Nat),
 let q53 : List Sp.Inst := Sp.slL (↑x_1 : Int) q43 x_2;
 let q54 : Bool := decide ((↑x_2 : Int) < (↑q50 : Int));
 let q55 : List Sp.Inst := q49.getD (↑x_2 : Int).toNat q17 :: ([] : List aL.den);
 let q56 : Bool := (↑x_2 : Int).tmod q4 == q6;
 let q57 : Int := (↑x_2 : Int) + q5;
 let q58 : Prop := inK IntKind.i64 q57;
 let q59 : List Sp.Inst := q53 ++ q55;
 let q60 : List Sp.Inst := (q21, q6, q51, q13, Sp.cZ ((↑x_2 : Int).tmod q19), q15) :: (q22, q6, q51, Sp.cZ (q57.tmod q19), q16) :: ([] : List aL.den);
 let q61 : Prop := (True /\ q58 /\ True /\ True) /\ True;
 x_2 <= q44 -> aB aL.slice q53 /\ aB tI (↑x_2 : Int) /\ True -> ((True /\ True /\ True /\ True /\ q46 /\ q12) /\ True) /\ (q54 = true -> ((True /\ True /\ True /\ True /\ q46 /\ True /\ True /\ True /\ inN (↑x_2 : Int) q50 /\ q0) /\ (↑(q53.length + q55.length) : Int) <= maxNew /\ True /\ True) /\ ((True /\ q18 /\ True /\ True) /\ True) /\ (q56 = true -> ((True /\ True /\ q18 /\ True /\ q20 /\ True /\ True /\ True /\ q18 /\ True /\ q58 /\ q20 /\ q11) /\ (↑(q59.length + q60.length) : Int) <= maxNew /\ True /\ True) /\ q61 /\ ∃ (y : Nat), y <= q44 /\ q44 - y < q44 - x_2 /\ q59 ++ q60 = Sp.slL (↑x_1 : Int) q43 y /\ q57 = (↑y : Int) /\ q45) /\ (q56 = false -> q61 /\ ∃ (y : Nat), y <= q44 /\ q44 - y < q44 - x_2 /\ q59 = Sp.slL (↑x_1 : Int) q43 y /\ q57 = (↑y : Int) /\ q45)) /\ (q54 = false -> ((True /\ True /\ True /\ True /\ q46 /\ True /\ True) /\ True /\ True) /\ ((True /\ inK IntKind.i64 q52 /\ True /\ True) /\ True) /\ ∃ (y : Nat), y <= q24 /\ q24 - y < q24 - x_1 /\ (q26, q28, q30, q4, q32, q34, q35, q39.set q47 (q53, q48.2), ()) = Sp.fK q36 (Sp.slB (Sp.bQ x.1.1) y) /\ q52 = (↑y : Int) /\ q38)) /\
 (q42 = false -> q2 /\ q40 = Sp.sloC x.1.1)) := by kernel_rfl
end Go.User
