/- Written by gen.py: what is left to show of each function. Codes and orders that are equal; registers: what they should. Registers and what an instruction accesses: what they should. slices.Sort and slices.Compact at this program. The registers that an instruction reads, sorted and each once. Written by gen.py: what is left to show of each function. Orders: what is computed. -/
import Derived.Test.YtdcbiadlojcaoaaLfl
import Derived.Lib.SlicesCompact
set_option linter.unusedVariables false
set_option linter.unusedSimpArgs false
namespace Go.User
open Go.Proofs Go.Lf
set_option maxRecDepth 100000
theorem vc26 : (funI C26 (stpS C26) S26 L26 Try.f26) = (
let q0 : Prop := (True /\ True) /\ True;
let q1 : Prop := True /\ True /\ True;
let q2 : Prop := True /\ True /\ q1;
let q3 : Int := (0 : Int);
let q4 : Int := (1 : Int);
∀ (x : List Int × List Int × Unit),
 let q5 : Nat := x.1.length;
 let q6 : Int := (↑q5 : Int);
 let q7 : Nat := x.2.1.length;
 let q8 : Bool := q6 != (↑q7 : Int);
 let q9 : Bool := Sp.eqInt x.1 x.2.1;
 let q10 : Prop := q0 /\ false = q9;
 let q11 : Prop := x.1 = x.1 /\ x.2.1 = x.2.1 /\ True;
 True ->
 dFact tI.slice x.1 /\ dFact tI.slice x.2.1 /\ True ->
 q0 /\
 ((True /\ q2) /\ True) /\
 (q8 = true -> q10) /\
 (q8 = false ->
 q0 /\
 (∃ (x_1 : Nat), (x_1 <= x.1.length /\ x.1.length = x.2.1.length /\ List.take x_1 x.1 = List.take x_1 x.2.1) /\ q3 = (↑x_1 : Int) /\ q11) /\
 ∀ (x_1 : Nat),
 let q12 : Bool := decide ((↑x_1 : Int) < q6);
 let q13 : Nat := (↑x_1 : Int).toNat;
 let q14 : Bool := x.1.getD q13 q3 != x.2.1.getD q13 q3;
 let q15 : Int := (↑x_1 : Int) + q4;
 x_1 <= x.1.length /\ x.1.length = x.2.1.length /\ List.take x_1 x.1 = List.take x_1 x.2.1 -> dFact tI (↑x_1 : Int) /\ True -> (q2 /\ True) /\ (q12 = true -> ((True /\ True /\ inN (↑x_1 : Int) q5 /\ True /\ True /\ True /\ inN (↑x_1 : Int) q7 /\ q1) /\ True) /\ (q14 = true -> q10) /\ (q14 = false -> ((True /\ inK IntKind.i64 q15 /\ True /\ True) /\ True) /\ ∃ (y : Nat), (y <= x.1.length /\ x.1.length = x.2.1.length /\ List.take y x.1 = List.take y x.2.1) /\ x.1.length - y < x.1.length - x_1 /\ q15 = (↑y : Int) /\ q11)) /\ (q12 = false -> q0 /\ true = q9))) := by kernel_rfl
theorem vc38 : (funI C38 (stpS C38) S38 L38 Try.f38) = (
let q0 : Prop := (True /\ True) /\ True;
let q1 : Int := (0 : Int);
let q2 : Prop := True /\ True /\ True /\ True;
let q3 : Int := (1 : Int);
∀ (x : List Int × Int × Unit),
 let q4 : Nat := x.1.length;
 let q5 : Prop := x.1 = x.1 /\ x.2.1 = x.2.1 /\ True;
 let q6 : Bool := Sp.mem x.1 x.2.1;
 True ->
 dFact tI.slice x.1 /\ dFact tI x.2.1 /\ True ->
 q0 /\
 q0 /\
 (∃ (x_1 : Nat), (x_1 <= q4 /\ ¬x.2.1 ∈ List.take x_1 x.1) /\ q1 = (↑x_1 : Int) /\ q5) /\
 ∀ (x_1 : Nat),
 let q7 : Bool := decide ((↑x_1 : Int) < (↑q4 : Int));
 let q8 : Bool := x.1.getD (↑x_1 : Int).toNat q1 == x.2.1;
 let q9 : Int := (↑x_1 : Int) + q3;
 x_1 <= q4 /\ ¬x.2.1 ∈ List.take x_1 x.1 -> dFact tI (↑x_1 : Int) /\ True -> ((True /\ q2) /\ True) /\ (q7 = true -> ((True /\ True /\ inN (↑x_1 : Int) q4 /\ q2) /\ True) /\ (q8 = true -> q0 /\ true = q6) /\ (q8 = false -> ((True /\ inK IntKind.i64 q9 /\ True /\ True) /\ True) /\ ∃ (y : Nat), (y <= q4 /\ ¬x.2.1 ∈ List.take y x.1) /\ q4 - y < q4 - x_1 /\ q9 = (↑y : Int) /\ q5)) /\ (q7 = false -> q0 /\ false = q6)) := by kernel_rfl
theorem vc69 : (funI C69 (stpS C69) S69 L69 Try.f69) = (
let q0 : Prop := (True /\ True) /\ True;
let q1 : Prop := True /\ True /\ True;
let q2 : Int := (0 : Int);
let q3 : Prop := q1 /\ True;
let q4 : Int := (1 : Int);
∀ (x : List Int × Int × Unit),
 let q5 : Nat := x.1.length;
 let q6 : Int := (↑q5 : Int);
 let q7 : Prop := q6 = q6 /\ x.1 = x.1 /\ x.2.1 = x.2.1 /\ True;
 let q8 : Int := Sp.idxL x.1 x.2.1;
 True ->
 dFact tI.slice x.1 /\ dFact tI x.2.1 /\ True ->
 q0 /\
 ((True /\ q1) /\ True) /\
 (∃ (x_1 : Nat), (x_1 <= q5 /\ ¬x.2.1 ∈ List.take x_1 x.1) /\ q2 = (↑x_1 : Int) /\ q7) /\
 ∀ (x_1 : Nat),
 let q9 : Bool := decide ((↑x_1 : Int) < q6);
 let q10 : Bool := x.2.1 == x.1.getD (↑x_1 : Int).toNat q2;
 let q11 : Int := (↑x_1 : Int) + q4;
 x_1 <= q5 /\ ¬x.2.1 ∈ List.take x_1 x.1 -> dFact tI (↑x_1 : Int) /\ dFact tI q6 /\ True -> q0 /\ (q9 = true -> q3 /\ ((True /\ True /\ True /\ inN (↑x_1 : Int) q5 /\ q1) /\ True) /\ (q10 = true -> q3 /\ (↑x_1 : Int) = q8) /\ (q10 = false -> ((inK IntKind.i64 q11 /\ True /\ True) /\ True) /\ ∃ (y : Nat), (y <= q5 /\ ¬x.2.1 ∈ List.take y x.1) /\ q5 - y < q5 - x_1 /\ q11 = (↑y : Int) /\ q7)) /\ (q9 = false -> q0 /\ -q4 = q8)) := by kernel_rfl
theorem vc61 : (funI C61 (stpS C61) S61 L61 Try.f61) = (
∀ (x : List Int × Int × Unit), True -> dFact tI.slice x.1 /\ dFact tI x.2.1 /\ True -> ((True /\ True) /\ True) /\ ((True /\ True /\ True /\ True /\ True /\ True) /\ True) /\ decide (Sp.idxL x.1 x.2.1 ≥ (0 : Int)) = Sp.mem x.1 x.2.1) := by kernel_rfl
theorem vc39 : (funI C39 (stpS C39) S39 L39 Try.f39) = (
let q0 : Prop := (True /\ True) /\ True;
let q1 : Prop := True /\ True /\ True;
let q2 : Prop := True /\ q1;
let q3 : Int := (0 : Int);
let q4 : Sp.Arr := (([] : List UInt8), q3, q3, q3, ());
let q5 : Int := (1 : Int);
∀ (x : List Sp.Arr × List Sp.Arr × Unit),
 let q6 : Nat := x.1.length;
 let q7 : Int := (↑q6 : Int);
 let q8 : Nat := x.2.1.length;
 let q9 : Bool := q7 != (↑q8 : Int);
 let q10 : Bool := Sp.eqArrs x.1 x.2.1;
 let q11 : Prop := q0 /\ false = q10;
 let q12 : Int := (↑x.1.length : Int);
 let q13 : Prop := x.1 = x.1 /\ x.2.1 = x.2.1 /\ True;
 True ->
 dFact tArr.slice x.1 /\ dFact tArr.slice x.2.1 /\ True ->
 q0 /\
 ((True /\ True /\ q2) /\ True) /\
 (q9 = true -> q11) /\
 (q9 = false ->
 (q2 /\ True) /\
 (∃ (x_1 : Nat), (x_1 <= x.1.length /\ x.1.length = x.2.1.length /\ List.take x_1 x.1 = List.take x_1 x.2.1) /\ q3 = (↑x_1 : Int) /\ q7 = q12 /\ q13) /\
 ∀ (x_1 : Nat),
 let q14 : Bool := decide ((↑x_1 : Int) < q12);
 let q15 : Nat := (↑x_1 : Int).toNat;
 let q16 : Sp.Arr := x.1.getD q15 q4;
 let q17 : Sp.Arr := x.2.1.getD q15 q4;
 let q18 : Sp.Opd := q16.2;
 let q19 : Sp.Opd := q17.2;
 let q20 : Int × Int × Unit := q18.2;
 let q21 : Int × Int × Unit := q19.2;
 let q22 : Bool := !(decide (q16.1 = q17.1) && (decide (q18.1 = q19.1) && (decide (q20.1 = q21.1) && (decide (q20.2.1 = q21.2.1) && true))));
 let q23 : Int := (↑x_1 : Int) + q5;
 x_1 <= x.1.length /\ x.1.length = x.2.1.length /\ List.take x_1 x.1 = List.take x_1 x.2.1 -> dFact tI (↑x_1 : Int) /\ dFact tI q12 /\ True -> q0 /\ (q14 = true -> (q1 /\ True) /\ ((True /\ True /\ inN (↑x_1 : Int) q6 /\ True /\ True /\ True /\ inN (↑x_1 : Int) q8 /\ q1) /\ True) /\ (q22 = true -> q11) /\ (q22 = false -> ((inK IntKind.i64 q23 /\ True /\ True) /\ True) /\ ∃ (y : Nat), (y <= x.1.length /\ x.1.length = x.2.1.length /\ List.take y x.1 = List.take y x.2.1) /\ x.1.length - y < x.1.length - x_1 /\ q23 = (↑y : Int) /\ q12 = q12 /\ q13)) /\ (q14 = false -> q0 /\ true = q10))) := by kernel_rfl
theorem vc40 : (funI C40 (stpS C40) S40 L40 Try.f40) = (
let q0 : Prop := (True /\ True) /\ True;
let q1 : Prop := True /\ True /\ True;
let q2 : Prop := True /\ q1;
let q3 : Int := (0 : Int);
let q4 : Sp.Opd := (q3, q3, q3, ());
let q5 : Int := (1 : Int);
∀ (x : List Sp.Opd × List Sp.Opd × Unit),
 let q6 : Nat := x.1.length;
 let q7 : Int := (↑q6 : Int);
 let q8 : Nat := x.2.1.length;
 let q9 : Bool := q7 != (↑q8 : Int);
 let q10 : Bool := Sp.eqLps x.1 x.2.1;
 let q11 : Prop := q0 /\ false = q10;
 let q12 : Int := (↑x.1.length : Int);
 let q13 : Prop := x.1 = x.1 /\ x.2.1 = x.2.1 /\ True;
 True ->
 dFact tLoop.slice x.1 /\ dFact tLoop.slice x.2.1 /\ True ->
 q0 /\
 ((True /\ True /\ q2) /\ True) /\
 (q9 = true -> q11) /\
 (q9 = false ->
 (q2 /\ True) /\
 (∃ (x_1 : Nat), (x_1 <= x.1.length /\ x.1.length = x.2.1.length /\ List.take x_1 x.1 = List.take x_1 x.2.1) /\ q3 = (↑x_1 : Int) /\ q7 = q12 /\ q13) /\
 ∀ (x_1 : Nat),
 let q14 : Bool := decide ((↑x_1 : Int) < q12);
 let q15 : Nat := (↑x_1 : Int).toNat;
 let q16 : Sp.Opd := x.1.getD q15 q4;
 let q17 : Sp.Opd := x.2.1.getD q15 q4;
 let q18 : Int × Int × Unit := q16.2;
 let q19 : Int × Int × Unit := q17.2;
 let q20 : Bool := !(decide (q16.1 = q17.1) && (decide (q18.1 = q19.1) && (decide (q18.2.1 = q19.2.1) && true)));
 let q21 : Int := (↑x_1 : Int) + q5;
 x_1 <= x.1.length /\ x.1.length = x.2.1.length /\ List.take x_1 x.1 = List.take x_1 x.2.1 -> dFact tI (↑x_1 : Int) /\ dFact tI q12 /\ True -> q0 /\ (q14 = true -> (q1 /\ True) /\ ((True /\ True /\ inN (↑x_1 : Int) q6 /\ True /\ True /\ True /\ inN (↑x_1 : Int) q8 /\ q1) /\ True) /\ (q20 = true -> q11) /\ (q20 = false -> ((inK IntKind.i64 q21 /\ True /\ True) /\ True) /\ ∃ (y : Nat), (y <= x.1.length /\ x.1.length = x.2.1.length /\ List.take y x.1 = List.take y x.2.1) /\ x.1.length - y < x.1.length - x_1 /\ q21 = (↑y : Int) /\ q12 = q12 /\ q13)) /\ (q14 = false -> q0 /\ true = q10))) := by kernel_rfl
theorem vc42 : (funI C42 (stpS C42) S42 L42 Try.f42) = (
let q0 : Prop := (True /\ True) /\ True;
let q1 : Prop := True /\ True /\ True;
let q2 : Prop := True /\ q1;
let q3 : Int := (0 : Int);
let q4 : Sp.Opd := (q3, q3, q3, ());
let q5 : Sp.Inst := (q3, q3, q3, q4, q4, q4, q4, ());
let q6 : Int := (1 : Int);
∀ (x : List Sp.Inst × List Sp.Inst × Unit),
 let q7 : Nat := x.1.length;
 let q8 : Int := (↑q7 : Int);
 let q9 : Nat := x.2.1.length;
 let q10 : Bool := q8 != (↑q9 : Int);
 let q11 : Bool := Sp.eqIns x.1 x.2.1;
 let q12 : Prop := q0 /\ false = q11;
 let q13 : Int := (↑x.1.length : Int);
 let q14 : Prop := x.1 = x.1 /\ x.2.1 = x.2.1 /\ True;
 True ->
 dFact tInst.slice x.1 /\ dFact tInst.slice x.2.1 /\ True ->
 q0 /\
 ((True /\ True /\ q2) /\ True) /\
 (q10 = true -> q12) /\
 (q10 = false ->
 (q2 /\ True) /\
 (∃ (x_1 : Nat), (x_1 <= x.1.length /\ x.1.length = x.2.1.length /\ List.take x_1 x.1 = List.take x_1 x.2.1) /\ q3 = (↑x_1 : Int) /\ q8 = q13 /\ q14) /\
 ∀ (x_1 : Nat),
 let q15 : Bool := decide ((↑x_1 : Int) < q13);
 let q16 : Nat := (↑x_1 : Int).toNat;
 let q17 : Sp.Inst := x.1.getD q16 q5;
 let q18 : Sp.Inst := x.2.1.getD q16 q5;
 let q19 : Int × Int × Sp.Opd × Sp.Opd × Sp.Opd × Sp.Opd × Unit := q17.2;
 let q20 : Int × Int × Sp.Opd × Sp.Opd × Sp.Opd × Sp.Opd × Unit := q18.2;
 let q21 : Int × Sp.Opd × Sp.Opd × Sp.Opd × Sp.Opd × Unit := q19.2;
 let q22 : Int × Sp.Opd × Sp.Opd × Sp.Opd × Sp.Opd × Unit := q20.2;
 let q23 : Sp.Opd × Sp.Opd × Sp.Opd × Sp.Opd × Unit := q21.2;
 let q24 : Sp.Opd := q23.1;
 let q25 : Sp.Opd × Sp.Opd × Sp.Opd × Sp.Opd × Unit := q22.2;
 let q26 : Sp.Opd := q25.1;
 let q27 : Int × Int × Unit := q24.2;
 let q28 : Int × Int × Unit := q26.2;
 let q29 : Sp.Opd × Sp.Opd × Sp.Opd × Unit := q23.2;
 let q30 : Sp.Opd := q29.1;
 let q31 : Sp.Opd × Sp.Opd × Sp.Opd × Unit := q25.2;
 let q32 : Sp.Opd := q31.1;
 let q33 : Int × Int × Unit := q30.2;
 let q34 : Int × Int × Unit := q32.2;
 let q35 : Sp.Opd × Sp.Opd × Unit := q29.2;
 let q36 : Sp.Opd := q35.1;
 let q37 : Sp.Opd × Sp.Opd × Unit := q31.2;
 let q38 : Sp.Opd := q37.1;
 let q39 : Int × Int × Unit := q36.2;
 let q40 : Int × Int × Unit := q38.2;
 let q41 : Sp.Opd := q35.2.1;
 let q42 : Sp.Opd := q37.2.1;
 let q43 : Int × Int × Unit := q41.2;
 let q44 : Int × Int × Unit := q42.2;
 let q45 : Bool := !(decide (q17.1 = q18.1) && (decide (q19.1 = q20.1) && (decide (q21.1 = q22.1) && (decide (q24.1 = q26.1) && (decide (q27.1 = q28.1) && (decide (q27.2.1 = q28.2.1) && true)) && (decide (q30.1 = q32.1) && (decide (q33.1 = q34.1) && (decide (q33.2.1 = q34.2.1) && true)) && (decide (q36.1 = q38.1) && (decide (q39.1 = q40.1) && (decide (q39.2.1 = q40.2.1) && true)) && (decide (q41.1 = q42.1) && (decide (q43.1 = q44.1) && (decide (q43.2.1 = q44.2.1) && true)) && true)))))));
 let q46 : Int := (↑x_1 : Int) + q6;
 x_1 <= x.1.length /\ x.1.length = x.2.1.length /\ List.take x_1 x.1 = List.take x_1 x.2.1 -> dFact tI (↑x_1 : Int) /\ dFact tI q13 /\ True -> q0 /\ (q15 = true -> (q1 /\ True) /\ ((True /\ True /\ inN (↑x_1 : Int) q7 /\ True /\ True /\ True /\ inN (↑x_1 : Int) q9 /\ q1) /\ True) /\ (q45 = true -> q12) /\ (q45 = false -> ((inK IntKind.i64 q46 /\ True /\ True) /\ True) /\ ∃ (y : Nat), (y <= x.1.length /\ x.1.length = x.2.1.length /\ List.take y x.1 = List.take y x.2.1) /\ x.1.length - y < x.1.length - x_1 /\ q46 = (↑y : Int) /\ q13 = q13 /\ q14)) /\ (q15 = false -> q0 /\ true = q11))) := by kernel_rfl
theorem vc56 : (funI C56 (stpS C56) S56 L56 Try.f56) = (
let q0 : Prop := (True /\ True) /\ True;
∀ (x : List Sp.Arr × Unit),
 let q1 : Nat := x.1.length;
 q1 <= (5000 : Nat) -> dFact tArr.slice x.1 /\ True -> q0 /\ ((True /\ True /\ True) /\ True) /\ (x.1 = ([] : List tArr.den) -> q0 /\ ([] : List tArr.den) = x.1) /\ (True -> ((True /\ True /\ (↑((0 : Nat) + q1) : Int) <= maxNew /\ True) /\ True /\ True) /\ x.1 = x.1)) := by kernel_rfl
theorem vc57 : (funI C57 (stpS C57) S57 L57 Try.f57) = (
let q0 : Prop := (True /\ True) /\ True;
∀ (x : List Sp.Opd × Unit),
 let q1 : Nat := x.1.length;
 q1 <= (5000 : Nat) -> dFact tLoop.slice x.1 /\ True -> q0 /\ ((True /\ True /\ True) /\ True) /\ (x.1 = ([] : List tLoop.den) -> q0 /\ ([] : List tLoop.den) = x.1) /\ (True -> ((True /\ True /\ (↑((0 : Nat) + q1) : Int) <= maxNew /\ True) /\ True /\ True) /\ x.1 = x.1)) := by kernel_rfl
theorem vc58 : (funI C58 (stpS C58) S58 L58 Try.f58) = (
let q0 : Prop := (True /\ True) /\ True;
∀ (x : List Sp.Block × Unit),
 let q1 : Nat := x.1.length;
 q1 <= (5000 : Nat) -> dFact tBlk.slice x.1 /\ True -> q0 /\ ((True /\ True /\ True) /\ True) /\ (x.1 = ([] : List tBlk.den) -> q0 /\ ([] : List tBlk.den) = x.1) /\ (True -> ((True /\ True /\ (↑((0 : Nat) + q1) : Int) <= maxNew /\ True) /\ True /\ True) /\ x.1 = x.1)) := by kernel_rfl
theorem vc68 : (funI C68 (stpS C68) S68 L68 Try.f68) = (
let q0 : Prop := True /\ True /\ True;
let q1 : Prop := (True /\ q0) /\ True;
∀ (x : Sp.Opd × Unit),
 let q2 : Bool := x.1.1 != (2 : Int);
 True -> dFact tOpd x.1 /\ True -> (q0 /\ True) /\ q1 /\ (q2 = true -> ((True /\ True) /\ True) /\ (-1 : Int) = Sp.def0 x.1) /\ (q2 = false -> q1 /\ x.1.2.1 = Sp.def0 x.1)) := by kernel_rfl
theorem vc60 : (funI C60 (stpS C60) S60 L60 Try.f60) = (
let q0 : Prop := True /\ True /\ True;
∀ (x : Sp.Inst × Unit), True -> dFact tInst x.1 /\ True -> (q0 /\ True) /\ ((True /\ True /\ q0) /\ True) /\ Sp.def0 x.1.2.2.2.1 = Sp.defI x.1) := by kernel_rfl
theorem vc63 : (funI C63 (stpS C63) S63 L63 Try.f63) = (
let q0 : Prop := True /\ True /\ True;
let q1 : Prop := (True /\ True /\ q0) /\ True;
∀ (x : Sp.Inst × Unit),
 let q2 : Sp.Opd := x.1.2.2.2.1;
 let q3 : Bool := q2.1 == (2 : Int);
 True -> dFact tInst x.1 /\ True -> (q0 /\ True) /\ q1 /\ (q3 = true -> q1 /\ q2.2.1 = Sp.defI x.1) /\ (q3 = false -> ((True /\ True) /\ True) /\ (-1 : Int) = Sp.defI x.1)) := by kernel_rfl
theorem vc34 : (funI C34 (stpS C34) S34 L34 Try.f34) = (
let q0 : Prop := True /\ True /\ True;
∀ (x : Sp.Inst × Unit),
 let q1 : Bool := x.1.1 == (7 : Int);
 let q2 : Prop := (true && bif q1 then false else true) = true -> True;
 let q3 : Bool := bif q1 then true else x.1.1 == (8 : Int);
 let q4 : Prop := (true && bif q3 then false else true) = true -> True;
 True -> dFact tInst x.1 /\ True -> (q0 /\ True) /\ ((True /\ True /\ True /\ True /\ q2 /\ q2 /\ q2 /\ True /\ True /\ q4 /\ q4 /\ q4 /\ q0) /\ True) /\ (bif q3 then true else x.1.1 == (9 : Int)) = Sp.arrB x.1) := by kernel_rfl
theorem vc36 : (funI C36 (stpS C36) S36 L36 Try.f36) = (
let q0 : Prop := True /\ True /\ True;
∀ (x : Sp.Inst × Unit),
 let q1 : Bool := x.1.1 == (11 : Int);
 let q2 : Prop := (true && bif q1 then false else true) = true -> True;
 True -> dFact tInst x.1 /\ True -> (q0 /\ True) /\ ((True /\ True /\ True /\ True /\ q2 /\ q2 /\ q2 /\ q0) /\ True) /\ (bif q1 then true else x.1.1 == (12 : Int)) = Sp.sltB x.1) := by kernel_rfl
theorem vc37 : (funI C37 (stpS C37) S37 L37 Try.f37) = (
let q0 : Prop := True /\ True /\ True;
∀ (x : Sp.Inst × Unit),
 let q1 : Bool := x.1.1 == (10 : Int);
 let q2 : Prop := (true && bif q1 then false else true) = true -> True;
 True -> dFact tInst x.1 /\ True -> (q0 /\ True) /\ ((True /\ True /\ True /\ True /\ q2 /\ q2 /\ q2 /\ q0) /\ True) /\ (bif q1 then true else x.1.1 == (9 : Int)) = Sp.strB x.1) := by kernel_rfl
theorem vc35 : (funI C35 (stpS C35) S35 L35 Try.f35) = (
let q0 : Int := (0 : Int);
let q1 : Prop := True /\ True /\ True;
∀ (x : Sp.Code × Sp.Inst × Unit),
 let q2 : Bool := true && bif Sp.strB x.2.1 then false else true;
 let q3 : Prop := q2 = true -> True;
 let q4 : Prop := (q2 && bif Sp.arrB x.2.1 then true else false) = true;
 let q5 : Prop := q4 -> True;
 let q6 : Int := x.2.1.2.2.1;
 let q7 : List Sp.Arr := x.1.2.2.2.2.2.1;
 (Sp.opI x.2.1 = (7 : Int) ∨ Sp.opI x.2.1 = (8 : Int) ∨ Sp.opI x.2.1 = (9 : Int) -> q0 <= Sp.nI x.2.1 /\ Sp.nI x.2.1 < (↑(Sp.cA x.1).length : Int)) -> dFact tCode x.1 /\ dFact tInst x.2.1 /\ True -> ((True /\ q1) /\ True) /\ ((True /\ True /\ True /\ q3 /\ q3 /\ q3 /\ q5 /\ q5 /\ q5 /\ q5 /\ (q4 -> inN q6 q7.length) /\ q5 /\ q5 /\ q5 /\ q3 /\ q1) /\ True) /\ (bif Sp.strB x.2.1 then true else bif Sp.arrB x.2.1 then (q7.getD q6.toNat (([] : List UInt8), q0, q0, q0, ())).2.1 != (3 : Int) else false) = Sp.visB x.1 x.2.1) := by kernel_rfl
theorem vc75 : (funI C75 (stpS C75) S75 L75 Try.f75) = (
let q0 : Prop := (True /\ True) /\ True;
let q1 : Prop := True /\ True /\ True;
let q2 : Int := (0 : Int);
let q3 : Int := (1 : Int);
∀ (x : List Int × Int × Unit),
 let q4 : Nat := x.1.length;
 let q5 : Bool := Sp.mem x.1 x.2.1;
 let q6 : List Int := Sp.addN x.1 x.2.1;
 let q7 : Prop := x.1 = x.1 /\ x.2.1 = x.2.1 /\ True;
 let q8 : Int := (↑q4 : Int);
 let q9 : List Int := x.2.1 :: ([] : List tI.den);
 q4 <= (5000 : Nat) ->
 dFact tI.slice x.1 /\ dFact tI x.2.1 /\ True ->
 q0 /\
 ((True /\ q1) /\ True) /\
 (q5 = true -> (q1 /\ True) /\ x.1 = q6) /\
 (q5 = false ->
 q0 /\
 (∃ (x_1 : Nat), x_1 <= (List.takeWhile (fun (v : (AK.val tI).den) => decide (v < x.2.1)) x.1).length /\ q2 = (↑x_1 : Int) /\ q7) /\
 ∀ (x_1 : Nat),
 let q10 : Bool := decide ((↑x_1 : Int) < q8);
 let q11 : Prop := (true && bif q10 then true else false) = true;
 let q12 : Prop := q11 -> True;
 let q13 : Bool := bif q10 then decide (x.1.getD (↑x_1 : Int).toNat q2 < x.2.1) else false;
 let q14 : Int := (↑x_1 : Int) + q3;
 let q15 : List Int := win q2 (↑x_1 : Int) x.1;
 let q16 : Nat := q15.length;
 let q17 : List Int := q15 ++ q9;
 let q18 : List Int := win (↑x_1 : Int) q8 x.1;
 x_1 <= (List.takeWhile (fun (v : (AK.val tI).den) => decide (v < x.2.1)) x.1).length -> dFact tI (↑x_1 : Int) /\ True -> ((True /\ True /\ True /\ True /\ True /\ q12 /\ q12 /\ (q11 -> inN (↑x_1 : Int) q4) /\ q12 /\ q12 /\ q12 /\ True /\ True) /\ True) /\ (q13 = true -> ((True /\ inK IntKind.i64 q14 /\ True /\ True) /\ True) /\ ∃ (y : Nat), y <= (List.takeWhile (fun (v : (AK.val tI).den) => decide (v < x.2.1)) x.1).length /\ q4 - y < q4 - x_1 /\ q14 = (↑y : Int) /\ q7) /\ (q13 = false -> ((True /\ True /\ True /\ winI q2 (↑x_1 : Int) q4 /\ (↑((0 : Nat) + q16) : Int) <= maxNew /\ True /\ True /\ (↑(q16 + q9.length) : Int) <= maxNew /\ True /\ True /\ winI (↑x_1 : Int) q8 q4 /\ (↑(q17.length + q18.length) : Int) <= maxNew /\ True) /\ True /\ True) /\ q17 ++ q18 = q6))) := by kernel_rfl
theorem vc71 : (funI C71 (stpS C71) S71 L71 Try.f71) = (
let q0 : Prop := (True /\ True) /\ True;
let q1 : Prop := True /\ True /\ True;
let q2 : Prop := q1 /\ True;
let q3 : Int := (0 : Int);
let q4 : Prop := True /\ q1;
let q5 : Sp.Opd := (q3, q3, q3, ());
let q6 : Int := (1 : Int);
∀ (x : List Sp.Opd × Unit),
 let q7 : Nat := x.1.length;
 let q8 : List Int := Sp.regL x.1 (([] : List Int));
 let q9 : Prop := x.1 = x.1 /\ True;
 q7 <= (1000 : Nat) ->
 dFact tOpd.slice x.1 /\ True ->
 q0 /\
 q2 /\
 q0 /\
 (∃ (x_1 : Nat × List Int), (x_1.1 <= q7 /\ x_1.2.length <= x_1.1 /\ Sp.regL (List.drop x_1.1 x.1) x_1.2 = q8) /\ ([] : List tI.den) = x_1.2 /\ q3 = (↑x_1.1 : Int) /\ q9) /\
 ∀ (x_1 : Nat × List Int),
 let q10 : Int := (↑x_1.1 : Int);
 let q11 : Bool := decide (q10 < (↑q7 : Int));
 let q12 : Prop := inN q10 q7;
 let q13 : Sp.Opd := x.1.getD q10.toNat q5;
 let q14 : Bool := q13.1 == (2 : Int);
 let q15 : Int := q10 + q6;
 let q16 : Prop := (True /\ inK IntKind.i64 q15 /\ True /\ True) /\ True;
 x_1.1 <= q7 /\ x_1.2.length <= x_1.1 /\ Sp.regL (List.drop x_1.1 x.1) x_1.2 = q8 -> dFact tI.slice x_1.2 /\ dFact tI q10 /\ True -> ((True /\ q4) /\ True) /\ (q11 = true -> ((True /\ True /\ q12 /\ q4) /\ True) /\ (q14 = true -> ((True /\ True /\ True /\ q12 /\ True /\ True /\ x_1.2.length <= (5000 : Nat) /\ True /\ True) /\ True) /\ q16 /\ ∃ (y : Nat × List Int), (y.1 <= q7 /\ y.2.length <= y.1 /\ Sp.regL (List.drop y.1 x.1) y.2 = q8) /\ q7 - y.1 < q7 - x_1.1 /\ Sp.addN x_1.2 q13.2.1 = y.2 /\ q15 = (↑y.1 : Int) /\ q9) /\ (q14 = false -> q16 /\ ∃ (y : Nat × List Int), (y.1 <= q7 /\ y.2.length <= y.1 /\ Sp.regL (List.drop y.1 x.1) y.2 = q8) /\ q7 - y.1 < q7 - x_1.1 /\ x_1.2 = y.2 /\ q15 = (↑y.1 : Int) /\ q9)) /\ (q11 = false -> q2 /\ x_1.2 = q8)) := by kernel_rfl
theorem vc64 : (funI C64 (stpS C64) S64 L64 Try.f64) = (
∀ (x : Sp.Inst × Unit),
 let q0 : Sp.Opd × Sp.Opd × Sp.Opd × Unit := x.1.2.2.2.2;
 let q1 : Sp.Opd × Sp.Opd × Unit := q0.2;
 let q2 : List Sp.Opd := q0.1 :: q1.1 :: q1.2.1 :: ([] : List tOpd.den);
 True -> dFact tInst x.1 /\ True -> ((True /\ True /\ True) /\ True) /\ ((True /\ True /\ True /\ True /\ True /\ True /\ True /\ q2.length <= (1000 : Nat) /\ True /\ True) /\ True) /\ Sp.regL q2 (([] : List Int)) = Sp.useI x.1) := by kernel_rfl
theorem vc33 : (funI C33 (stpS C33) S33 L33 Try.f33) = (
let q0 : Prop := True /\ True /\ True;
let q1 : Prop := (True /\ q0) /\ True;
∀ (x : Sp.Inst × Sp.Inst × Unit),
 let q2 : Bool := decide (Sp.defI x.1 ≥ (0 : Int));
 let q3 : Bool := true && bif q2 then true else false;
 let q4 : Prop := q3 = true -> True;
 let q5 : Bool := Sp.defI x.2.1 == Sp.defI x.1;
 let q6 : Prop := (q3 && bif q5 then false else true) = true -> True;
 True -> dFact tInst x.1 /\ dFact tInst x.2.1 /\ True -> q1 /\ q1 /\ ((True /\ True /\ True /\ q4 /\ q4 /\ q4 /\ q4 /\ q4 /\ q6 /\ q6 /\ q6 /\ q6 /\ q4 /\ q0) /\ True) /\ (bif q2 then bif q5 then true else Sp.mem (Sp.useI x.2.1) (Sp.defI x.1) else false) = Sp.hitB x.1 x.2.1) := by kernel_rfl
theorem vc15 : (funI C15 (stpS C15) S15 L15 Try.f15) = (
let q0 : Int := (7 : Int);
let q1 : Int := (8 : Int);
let q2 : Int := (9 : Int);
let q3 : Int := (0 : Int);
let q4 : Prop := True /\ True /\ True;
let q5 : Prop := (True /\ True) /\ True;
let q6 : Int := (11 : Int);
∀ (x : Sp.Code × Sp.Inst × Sp.Inst × Unit),
 let q7 : Int := (↑(Sp.cA x.1).length : Int);
 let q8 : Prop := Sp.opI x.2.1 = q0 ∨ Sp.opI x.2.1 = q1 ∨ Sp.opI x.2.1 = q2 -> q3 <= Sp.nI x.2.1 /\ Sp.nI x.2.1 < q7;
 let q9 : Int := Sp.opI x.2.2.1;
 let q10 : Int := Sp.nI x.2.2.1;
 let q11 : Prop := q9 = q0 ∨ q9 = q1 ∨ q9 = q2 -> q3 <= q10 /\ q10 < q7;
 let q12 : Bool := Sp.hitB x.2.1 x.2.2.1;
 let q13 : Prop := (true && bif q12 then false else true) = true -> True;
 let q14 : Bool := bif q12 then true else Sp.hitB x.2.2.1 x.2.1;
 let q15 : Bool := Sp.depR x.1 x.2.1 x.2.2.1;
 let q16 : Prop := q5 /\ true = q15;
 let q17 : Prop := (true && bif Sp.arrB x.2.1 then true else false) = true -> True;
 let q18 : Bool := bif Sp.arrB x.2.1 then Sp.arrB x.2.2.1 else false;
 let q19 : Prop := (true && bif q18 then true else false) = true -> True;
 let q20 : Bool := x.2.1.2.2.1 == x.2.2.1.2.2.1;
 let q21 : Bool := bif q18 then q20 else false;
 let q22 : Bool := true && bif q21 then true else false;
 let q23 : Prop := q22 = true -> True;
 let q24 : Bool := x.2.1.1 != q0;
 let q25 : Prop := (q22 && bif q24 then false else true) = true -> True;
 let q26 : Bool := bif q24 then true else x.2.2.1.1 != q0;
 let q27 : Prop := (q22 && bif q26 then false else true) = true;
 let q28 : Prop := q27 -> True;
 let q29 : Bool := Sp.visB x.1 x.2.1;
 let q30 : Bool := bif q21 then bif q26 then true else q29 else false;
 let q31 : Prop := (true && bif Sp.sltB x.2.1 then true else false) = true -> True;
 let q32 : Bool := bif Sp.sltB x.2.1 then Sp.sltB x.2.2.1 else false;
 let q33 : Prop := (true && bif q32 then true else false) = true -> True;
 let q34 : Bool := bif q32 then q20 else false;
 let q35 : Bool := true && bif q34 then true else false;
 let q36 : Prop := q35 = true -> True;
 let q37 : Bool := x.2.1.1 != q6;
 let q38 : Prop := (q35 && bif q37 then false else true) = true -> True;
 let q39 : Bool := bif q34 then bif q37 then true else x.2.2.1.1 != q6 else false;
 let q40 : Prop := (true && bif Sp.strB x.2.1 then true else false) = true;
 let q41 : Prop := q40 -> True;
 let q42 : Bool := bif Sp.strB x.2.1 then Sp.visB x.1 x.2.2.1 else false;
 let q43 : Bool := true && bif q42 then false else true;
 let q44 : Prop := q43 = true -> True;
 let q45 : Bool := Sp.strB x.2.2.1;
 let q46 : Prop := (q43 && bif q45 then true else false) = true;
 let q47 : Prop := q46 -> True;
 q8 /\ q11 -> dFact tCode x.1 /\ dFact tInst x.2.1 /\ dFact tInst x.2.2.1 /\ True -> ((True /\ True /\ q4) /\ True) /\ ((True /\ True /\ True /\ True /\ q13 /\ q13 /\ q13 /\ True /\ True) /\ True) /\ (q14 = true -> q16) /\ (q14 = false -> ((True /\ True /\ True /\ q17 /\ q17 /\ True /\ True /\ q19 /\ q19 /\ q19 /\ q19 /\ q19 /\ True /\ True /\ q23 /\ q23 /\ q23 /\ q23 /\ q25 /\ q25 /\ q25 /\ q23 /\ q23 /\ q28 /\ q28 /\ (q27 -> q8) /\ q23 /\ True /\ True) /\ True) /\ (q30 = true -> q16) /\ (q30 = false -> ((True /\ True /\ True /\ q31 /\ q31 /\ True /\ True /\ q33 /\ q33 /\ q33 /\ q33 /\ q33 /\ True /\ True /\ q36 /\ q36 /\ q36 /\ q36 /\ q38 /\ q38 /\ q38 /\ q36 /\ True /\ True) /\ True) /\ (q39 = true -> q16) /\ (q39 = false -> ((True /\ True /\ True /\ q41 /\ q41 /\ (q40 -> q11) /\ True /\ True /\ q44 /\ q44 /\ q44 /\ q47 /\ q47 /\ (q46 -> q8) /\ q44 /\ q4) /\ True) /\ (bif q42 then true else bif q45 then q29 else false) = q15)))) := by kernel_rfl
theorem vc62 : (funI C62 (stpS C62) S62 L62 Try.f62) = (
∀ (x : Sp.Inst × Unit),
 let q0 : Sp.Opd × Sp.Opd × Sp.Opd × Unit := x.1.2.2.2.2;
 let q1 : Sp.Opd × Sp.Opd × Unit := q0.2;
 let q2 : List Sp.Opd := q0.1 :: q1.1 :: q1.2.1 :: ([] : List tOpd.den);
 True -> dFact tInst x.1 /\ True -> ((True /\ True /\ True) /\ True) /\ ((True /\ True /\ True /\ True /\ True /\ True /\ True /\ q2.length <= (3 : Nat) /\ True /\ True) /\ True) /\ Sp.regL q2 (([] : List Int)) = Sp.useI x.1) := by kernel_rfl
theorem vc32 : (funI C32 (stpS C32) S32 L32 Try.f32) = (
let q0 : Prop := True /\ True /\ True;
let q1 : Prop := (True /\ q0) /\ True;
∀ (x : Sp.Inst × Sp.Inst × Unit),
 let q2 : Bool := decide (Sp.defI x.1 ≥ (0 : Int));
 let q3 : Bool := true && bif q2 then true else false;
 let q4 : Prop := q3 = true -> True;
 let q5 : Bool := Sp.defI x.2.1 == Sp.defI x.1;
 let q6 : Prop := (q3 && bif q5 then false else true) = true -> True;
 True -> dFact tInst x.1 /\ dFact tInst x.2.1 /\ True -> q1 /\ q1 /\ ((True /\ True /\ True /\ q4 /\ q4 /\ q4 /\ q4 /\ q4 /\ q6 /\ q6 /\ q6 /\ q6 /\ q4 /\ q0) /\ True) /\ (bif q2 then bif q5 then true else Sp.mem (Sp.useI x.2.1) (Sp.defI x.1) else false) = Sp.hitB x.1 x.2.1) := by kernel_rfl
theorem vc31 : (funI C31 (stpS C31) S31 L31 Try.f31) = (
let q0 : Int := (7 : Int);
let q1 : Int := (8 : Int);
let q2 : Int := (9 : Int);
let q3 : Int := (0 : Int);
let q4 : Prop := True /\ True /\ True;
let q5 : Prop := True /\ q4;
let q6 : Prop := q4 /\ True;
let q7 : Prop := True /\ q5;
let q8 : Prop := True /\ True /\ q7;
let q9 : Prop := True /\ True /\ True /\ q8;
let q10 : Nat := (3 : Nat);
let q11 : Prop := q10 = q10;
let q12 : List Step := Step.fst :: ([] : List Step);
let q13 : List Step := Step.snd :: q12;
let q14 : List Step := Step.snd :: q13;
let q15 : Prop := q14 = q14;
let q16 : Prop := q11 /\ q15;
let q17 : Prop := True /\ q16;
let q18 : Prop := q12 = q12;
let q19 : Prop := q11 /\ q18;
let q20 : Prop := True /\ q19;
let q21 : Nat := (5 : Nat);
let q22 : Prop := q21 = q21;
let q23 : Prop := (True /\ q22 /\ q18) /\ True;
let q24 : Prop := (True /\ q22 /\ q15) /\ True;
let q25 : List Step := Step.snd :: q14;
let q26 : Prop := (True /\ q22 /\ q25 = q25) /\ True;
let q27 : Prop := (True /\ True) /\ True /\ True;
let q28 : Int := (-1 : Int);
let q29 : Sp.Arr := (([] : List UInt8), q3, q3, q3, ());
let q30 : Int := (3 : Int);
let q31 : Int := (11 : Int);
let q32 : Prop := (q22 /\ q13 = q13) /\ True;
let q33 : Bool × Bool × Unit := (false, false, ());
let q34 : Int := (10 : Int);
let q35 : Prop := (True /\ True) /\ q5;
let q36 : Int × Int × Bool × Bool × Bool × Unit := (q28, q28, false, true, true, ());
let q37 : Int × Int × Bool × Bool × Bool × Unit := (q28, q28, false, q33);
let q38 : Int := (12 : Int);
∀ (x : Sp.Code × Sp.Inst × Unit),
 let q39 : Bool := x.2.1.1 == q0;
 let q40 : Prop := q39 = true;
 let q41 : Int := x.2.1.2.2.1;
 let q42 : Prop := q41 = q41;
 let q43 : Prop := x.2.1.1 = x.2.1.1;
 let q44 : Prop := True /\ q43;
 let q45 : Prop := True /\ q39 = q39;
 let q46 : Bool := x.2.1.1 == q2;
 let q47 : Prop := True /\ q46 = q46;
 let q48 : List Sp.Arr := x.1.2.2.2.2.2.1;
 let q49 : Int × Int × Bool × Bool × Bool × Unit := Sp.accI x.1 x.2.1;
 let q50 : Prop := q9 /\ (q17 /\ (True /\ q42) /\ q20 /\ q44 /\ q45 /\ q20 /\ q44 /\ q47 /\ q23) /\ (True /\ (True /\ True) /\ (q20 /\ q44 /\ q45 /\ q20 /\ q44 /\ q47 /\ q24) /\ (True /\ (True /\ True) /\ (q20 /\ q44 /\ q47 /\ q26) /\ (True /\ True /\ True /\ ((True /\ True /\ True /\ True /\ inN q41 q48.length /\ q7) /\ True /\ True) /\ q27 /\ (q41, q28, q39, q46, (q48.getD q41.toNat q29).2.1 != q30, ()) = q49) /\ True) /\ True /\ True) /\ q4;
 let q51 : Prop := q39 = false;
 let q52 : Bool := x.2.1.1 == q31;
 let q53 : Prop := q52 = true;
 let q54 : Prop := ((q8 /\ q8 /\ q16 /\ q42 /\ q19 /\ q43 /\ q52 = q52 /\ q32) /\ q4) /\ q27 /\ (q28, q41, q52, q33) = q49;
 let q55 : Prop := q52 = false;
 let q56 : Bool := x.2.1.1 == q34;
 let q57 : Prop := q6 /\ (q56 = true -> q35 /\ q27 /\ q36 = q49) /\ (q56 = false -> q27 /\ q37 = q49);
 let q58 : Bool := x.2.1.1 == q38;
 let q59 : Prop := q6 /\ (q53 -> (q53 -> q54) /\ (q55 -> q57)) /\ (q55 -> q6 /\ (q58 = true -> q54) /\ (q58 = false -> q57));
 let q60 : Bool := x.2.1.1 == q1;
 let q61 : Prop := q60 = true;
 let q62 : Prop := q60 = false;
 (Sp.opI x.2.1 = q0 ∨ Sp.opI x.2.1 = q1 ∨ Sp.opI x.2.1 = q2 -> q3 <= Sp.nI x.2.1 /\ Sp.nI x.2.1 < (↑(Sp.cA x.1).length : Int)) -> dFact tCode x.1 /\ dFact tInst x.2.1 /\ True -> (q5 /\ True) /\ (q4 /\ True /\ True) /\ q6 /\ q6 /\ (q40 -> (q40 -> q50) /\ (q51 -> q59)) /\ (q51 -> q6 /\ (q61 -> (q61 -> q50) /\ (q62 -> q59)) /\ (q62 -> q6 /\ (q46 = true -> q50) /\ (q46 = false -> q59)))) := by kernel_rfl
theorem vc14 : (funI C14 (stpS C14) S14 L14 Try.f14) = (
let q0 : Int := (7 : Int);
let q1 : Int := (8 : Int);
let q2 : Int := (9 : Int);
let q3 : Int := (0 : Int);
let q4 : Prop := True /\ True /\ True;
∀ (x : Sp.Code × Sp.Inst × Sp.Inst × Unit),
 let q5 : Int := (↑(Sp.cA x.1).length : Int);
 let q6 : Prop := Sp.opI x.2.1 = q0 ∨ Sp.opI x.2.1 = q1 ∨ Sp.opI x.2.1 = q2 -> q3 <= Sp.nI x.2.1 /\ Sp.nI x.2.1 < q5;
 let q7 : Int := Sp.opI x.2.2.1;
 let q8 : Int := Sp.nI x.2.2.1;
 let q9 : Prop := q7 = q0 ∨ q7 = q1 ∨ q7 = q2 -> q3 <= q8 /\ q8 < q5;
 let q10 : Int × Int × Bool × Bool × Bool × Unit := Sp.accI x.1 x.2.1;
 let q11 : Int := q10.1;
 let q12 : Bool := decide (q11 ≥ q3);
 let q13 : Prop := (true && bif q12 then true else false) = true -> True;
 let q14 : Int × Int × Bool × Bool × Bool × Unit := Sp.accI x.1 x.2.2.1;
 let q15 : Bool := bif q12 then q11 == q14.1 else false;
 let q16 : Bool := true && bif q15 then false else true;
 let q17 : Prop := q16 = true -> True;
 let q18 : Int × Bool × Bool × Bool × Unit := q10.2;
 let q19 : Int := q18.1;
 let q20 : Bool := decide (q19 ≥ q3);
 let q21 : Prop := (q16 && bif q20 then true else false) = true -> True;
 let q22 : Bool := Sp.hitB x.2.1 x.2.2.1;
 let q23 : Prop := (true && bif q22 then false else true) = true -> True;
 let q24 : Bool := bif q22 then true else Sp.hitB x.2.2.1 x.2.1;
 let q25 : Bool := true && bif q24 then false else true;
 let q26 : Prop := q25 = true -> True;
 let q27 : Int × Bool × Bool × Bool × Unit := q14.2;
 let q28 : Bool := bif q15 then true else bif q20 then q19 == q27.1 else false;
 let q29 : Bool := q25 && bif q28 then true else false;
 let q30 : Prop := q29 = true -> True;
 let q31 : Bool × Bool × Bool × Unit := q18.2;
 let q32 : Bool × Bool × Unit := q31.2;
 let q33 : Bool := q32.2.1;
 let q34 : Prop := (q29 && bif q33 then false else true) = true -> True;
 let q35 : Bool := bif q33 then true else !q31.1;
 let q36 : Prop := (q29 && bif q35 then false else true) = true -> True;
 let q37 : Bool × Bool × Bool × Unit := q27.2;
 let q38 : Bool := bif q24 then true else bif q28 then bif q35 then true else !q37.1 else false;
 let q39 : Bool := true && bif q38 then false else true;
 let q40 : Prop := q39 = true -> True;
 let q41 : Bool := q32.1;
 let q42 : Prop := (q39 && bif q41 then true else false) = true -> True;
 let q43 : Bool × Bool × Unit := q37.2;
 let q44 : Bool := bif q38 then true else bif q41 then q43.2.1 else false;
 let q45 : Bool := true && bif q44 then false else true;
 let q46 : Prop := q45 = true -> True;
 let q47 : Bool := q43.1;
 let q48 : Prop := (q45 && bif q47 then true else false) = true -> True;
 q6 /\ q9 -> dFact tCode x.1 /\ dFact tInst x.2.1 /\ dFact tInst x.2.2.1 /\ True -> ((True /\ True /\ q4) /\ True) /\ ((True /\ True /\ q6 /\ True /\ True /\ q9 /\ q4) /\ q4) /\ ((True /\ True /\ True /\ True /\ q13 /\ q13 /\ q13 /\ q13 /\ q13 /\ True /\ True /\ q17 /\ q17 /\ q17 /\ q17 /\ q21 /\ q21 /\ q21 /\ q21 /\ q21 /\ q17 /\ q4) /\ True) /\ ((True /\ True /\ True /\ True /\ q23 /\ q23 /\ q23 /\ True /\ True /\ q26 /\ q26 /\ q30 /\ q30 /\ q30 /\ q34 /\ q34 /\ q34 /\ q30 /\ q30 /\ q36 /\ q36 /\ q36 /\ q30 /\ q26 /\ True /\ True /\ q40 /\ q40 /\ q40 /\ q42 /\ q42 /\ q40 /\ True /\ True /\ q46 /\ q46 /\ q46 /\ q48 /\ q48 /\ q46 /\ q4) /\ True) /\ (bif q44 then true else bif q47 then q33 else false) = Sp.depP x.1 x.2.1 x.2.2.1) := by kernel_rfl
end Go.User
namespace Sp
theorem eqL_step {α : Type} {a b : List α} {i : Nat} {d : α} (hi : (i : Int) < (a.length : Int)) (hl : a.length = b.length) (h : a.take i = b.take i) (e : a.getD i d = b.getD i d) : a.take (i + 1) = b.take (i + 1) := by
 have h1 : i < a.length := by omega
 have h2 : i < b.length := by omega
 rw [List.take_add_one, List.take_add_one, h]
 rw [List.getD_eq_getElem?_getD, List.getD_eq_getElem?_getD, List.getElem?_eq_getElem h1, List.getElem?_eq_getElem h2] at e
 rw [List.getElem?_eq_getElem h1, List.getElem?_eq_getElem h2]
 simp only [Option.getD_some] at e
 rw [e]
theorem eqL_end {α : Type} {a b : List α} {i : Nat} (hi : (a.length : Int) <= (i : Int)) (hl : a.length = b.length) (h : a.take i = b.take i) : a = b := by
 rwa [List.take_of_length_le (by omega), List.take_of_length_le (by omega)] at h
theorem opd_ext {a b : Opd} (h1 : a.1 = b.1) (h2 : a.2.1 = b.2.1) (h3 : a.2.2.1 = b.2.2.1) : a = b := by
 obtain ⟨a1, a2, a3, _⟩ := a
 obtain ⟨b1, b2, b3, _⟩ := b
 dsimp only at h1 h2 h3
 rw [h1, h2, h3]
theorem inst_ext {a b : Inst} (h1 : a.1 = b.1) (h2 : a.2.1 = b.2.1) (h3 : a.2.2.1 = b.2.2.1) (h4 : a.2.2.2.1 = b.2.2.2.1) (h5 : a.2.2.2.2.1 = b.2.2.2.2.1) (h6 : a.2.2.2.2.2.1 = b.2.2.2.2.2.1) (h7 : a.2.2.2.2.2.2.1 = b.2.2.2.2.2.2.1) : a = b := by
 obtain ⟨a1, a2, a3, a4, a5, a6, a7, _⟩ := a
 obtain ⟨b1, b2, b3, b4, b5, b6, b7, _⟩ := b
 dsimp only at h1 h2 h3 h4 h5 h6 h7
 rw [h1, h2, h3, h4, h5, h6, h7]
theorem term_ext {a b : Term} (h1 : a.1 = b.1) (h2 : a.2.1 = b.2.1) (h3 : a.2.2.1 = b.2.2.1) (h4 : a.2.2.2.1 = b.2.2.2.1) (h5 : a.2.2.2.2.1 = b.2.2.2.2.1) (h6 : a.2.2.2.2.2.1 = b.2.2.2.2.2.1) : a = b := by
 obtain ⟨a1, a2, a3, a4, a5, a6, _⟩ := a
 obtain ⟨b1, b2, b3, b4, b5, b6, _⟩ := b
 dsimp only at h1 h2 h3 h4 h5 h6
 rw [h1, h2, h3, h4, h5, h6]
theorem arr_ext {a b : Arr} (h1 : a.1 = b.1) (h2 : a.2.1 = b.2.1) (h3 : a.2.2.1 = b.2.2.1) (h4 : a.2.2.2.1 = b.2.2.2.1) : a = b := by
 obtain ⟨a1, a2, a3, a4, _⟩ := a
 obtain ⟨b1, b2, b3, b4, _⟩ := b
 dsimp only at h1 h2 h3 h4
 rw [h1, h2, h3, h4]
theorem loop_ext {a b : Loop} (h1 : a.1 = b.1) (h2 : a.2.1 = b.2.1) (h3 : a.2.2.1 = b.2.2.1) : a = b := opd_ext h1 h2 h3
theorem eqIns_iff (a b : List Inst) : eqIns a b = true ↔ a = b := by unfold eqIns; exact @decide_eq_true_iff _ (Classical.propDecidable _)
theorem eqArrs_iff (a b : List Arr) : eqArrs a b = true ↔ a = b := decide_eq_true_iff
theorem eqLps_iff (a b : List Loop) : eqLps a b = true ↔ a = b := decide_eq_true_iff
theorem eqInt_iff (a b : List Int) : eqInt a b = true ↔ a = b := decide_eq_true_iff
theorem mem_iff (l : List Int) (n : Int) : mem l n = true ↔ n ∈ l := decide_eq_true_iff
theorem headB_iff (a b : Code) : headB a b = true ↔ a.1 = b.1 /\ a.2.1 = b.2.1 /\ a.2.2.1 = b.2.2.1 /\ a.2.2.2.1 = b.2.2.2.1 /\ a.2.2.2.2.1 = b.2.2.2.2.1 /\ cA a = cA b /\ cL a = cL b := by
 unfold headB
 simp only [Bool.and_eq_true, decide_eq_true_iff, and_assoc]
theorem fa_of {b : Bool} (h : ¬ b = true) : false = b := by cases b <;> simp at h ⊢
theorem tr_of {b : Bool} (h : b = true) : true = b := h.symm
end Sp
namespace Go.User
open Go.Lf Go.Proofs
theorem ok26 : FOk Try.prog 26 S26 := by
 have hC : CtxOK Try.prog C26 := okA fns_nil
 refine FOk.intro hC (stpS_ok hC) Try.call26 Try.func26 (by kernel_rfl) (by kernel_rfl) L26 ?_
 rw [vc26]
 simp only [zz, zy]
 rintro ⟨a, b, u⟩ ⟨ha, hb⟩
 dsimp only
 refine ⟨fun h => Sp.fa_of fun e => h (by rw [(Sp.eqInt_iff a b).1 e]), fun h => ⟨⟨0, ⟨Nat.zero_le _, by have : (List.length a : Int) = (List.length b : Int) := h; omega, rfl⟩, rfl⟩, ?_⟩⟩
 intro i hi _
 obtain ⟨h1, h2, h3⟩ := hi
 refine ⟨fun hlt => ⟨⟨inN_of hlt, inN_of (by rw [<- h2]; exact hlt)⟩, fun c => Sp.fa_of fun e => c (by rw [(Sp.eqInt_iff a b).1 e]), fun c => ⟨inK_succ hlt ha.1, i + 1, ⟨by have : (i : Int) < (List.length a : Int) := hlt; omega, h2, Sp.eqL_step hlt h2 h3 c⟩, by have : (i : Int) < (List.length a : Int) := hlt; omega, rfl⟩⟩, fun hge => Sp.tr_of ((Sp.eqInt_iff a b).2 (Sp.eqL_end hge h2 h3))⟩
theorem ok39 : FOk Try.prog 39 S39 := by
 have hC : CtxOK Try.prog C39 := okA fns_nil
 refine FOk.intro hC (stpS_ok hC) Try.call39 Try.func39 (by kernel_rfl) (by kernel_rfl) L39 ?_
 rw [vc39]
 simp only [zz, zy]
 rintro ⟨a, b, u⟩ ⟨ha, hb⟩
 dsimp only
 refine ⟨fun h => Sp.fa_of fun e => h (by rw [(Sp.eqArrs_iff a b).1 e]), fun h => ⟨⟨0, ⟨Nat.zero_le _, by have : (List.length a : Int) = (List.length b : Int) := h; omega, rfl⟩, rfl⟩, ?_⟩⟩
 intro i hi _
 obtain ⟨h1, h2, h3⟩ := hi
 refine ⟨fun hlt => ⟨⟨inN_of hlt, inN_of (by rw [<- h2]; exact hlt)⟩, fun c => Sp.fa_of fun e => ?_, fun c => ⟨inK_succ hlt ha.1, i + 1, ⟨by have : (i : Int) < (List.length a : Int) := hlt; omega, h2, Sp.eqL_step hlt h2 h3 (Sp.arr_ext c.1 c.2.1 c.2.2.1 c.2.2.2)⟩, by have : (i : Int) < (List.length a : Int) := hlt; omega, rfl⟩⟩, fun hge => Sp.tr_of ((Sp.eqArrs_iff a b).2 (Sp.eqL_end hge h2 h3))⟩
 have e := (Sp.eqArrs_iff a b).1 e
 subst e
 simp at c
theorem ok40 : FOk Try.prog 40 S40 := by
 have hC : CtxOK Try.prog C40 := okA fns_nil
 refine FOk.intro hC (stpS_ok hC) Try.call40 Try.func40 (by kernel_rfl) (by kernel_rfl) L40 ?_
 rw [vc40]
 simp only [zz, zy]
 rintro ⟨a, b, u⟩ ⟨ha, hb⟩
 dsimp only
 refine ⟨fun h => Sp.fa_of fun e => h (by rw [(Sp.eqLps_iff a b).1 e]), fun h => ⟨⟨0, ⟨Nat.zero_le _, by have : (List.length a : Int) = (List.length b : Int) := h; omega, rfl⟩, rfl⟩, ?_⟩⟩
 intro i hi _
 obtain ⟨h1, h2, h3⟩ := hi
 refine ⟨fun hlt => ⟨⟨inN_of hlt, inN_of (by rw [<- h2]; exact hlt)⟩, fun c => Sp.fa_of fun e => ?_, fun c => ⟨inK_succ hlt ha.1, i + 1, ⟨by have : (i : Int) < (List.length a : Int) := hlt; omega, h2, Sp.eqL_step hlt h2 h3 (Sp.loop_ext c.1 c.2.1 c.2.2)⟩, by have : (i : Int) < (List.length a : Int) := hlt; omega, rfl⟩⟩, fun hge => Sp.tr_of ((Sp.eqLps_iff a b).2 (Sp.eqL_end hge h2 h3))⟩
 have e := (Sp.eqLps_iff a b).1 e
 subst e
 simp at c
theorem ok42 : FOk Try.prog 42 S42 := by
 have hC : CtxOK Try.prog C42 := okA fns_nil
 refine FOk.intro hC (stpS_ok hC) Try.call42 Try.func42 (by kernel_rfl) (by kernel_rfl) L42 ?_
 rw [vc42]
 simp only [zz, zy]
 rintro ⟨a, b, u⟩ ⟨ha, hb⟩
 dsimp only
 refine ⟨fun h => Sp.fa_of fun e => h (by rw [(Sp.eqIns_iff a b).1 e]), fun h => ⟨⟨0, ⟨Nat.zero_le _, by have : (List.length a : Int) = (List.length b : Int) := h; omega, rfl⟩, rfl⟩, ?_⟩⟩
 intro i hi _
 obtain ⟨h1, h2, h3⟩ := hi
 refine ⟨fun hlt => ⟨⟨inN_of hlt, inN_of (by rw [<- h2]; exact hlt)⟩, fun c => Sp.fa_of fun e => ?_, fun c => ⟨inK_succ hlt ha.1, i + 1, ⟨by have : (i : Int) < (List.length a : Int) := hlt; omega, h2, Sp.eqL_step hlt h2 h3 (Sp.inst_ext c.1 c.2.1 c.2.2.1 (Sp.opd_ext c.2.2.2.1.1 c.2.2.2.1.2.1 c.2.2.2.1.2.2) (Sp.opd_ext c.2.2.2.2.1.1 c.2.2.2.2.1.2.1 c.2.2.2.2.1.2.2) (Sp.opd_ext c.2.2.2.2.2.1.1 c.2.2.2.2.2.1.2.1 c.2.2.2.2.2.1.2.2) (Sp.opd_ext c.2.2.2.2.2.2.1 c.2.2.2.2.2.2.2.1 c.2.2.2.2.2.2.2.2))⟩, by have : (i : Int) < (List.length a : Int) := hlt; omega, rfl⟩⟩, fun hge => Sp.tr_of ((Sp.eqIns_iff a b).2 (Sp.eqL_end hge h2 h3))⟩
 have e := (Sp.eqIns_iff a b).1 e
 subst e
 simp at c
end Go.User
namespace Sp
theorem mem_take_succ {l : List Int} {n : Int} {i : Nat} {d : Int} (hi : (i : Int) < (l.length : Int)) : n ∈ l.take (i + 1) ↔ n ∈ l.take i ∨ l.getD i d = n := by
 have h1 : i < l.length := by omega
 rw [List.take_add_one, List.getElem?_eq_getElem h1, List.getD_eq_getElem?_getD, List.getElem?_eq_getElem h1]
 simp only [Option.toList_some, List.mem_append, List.mem_singleton, Option.getD_some]
 exact or_congr Iff.rfl eq_comm
theorem mem_getD {l : List Int} {i : Nat} {d : Int} (hi : (i : Int) < (l.length : Int)) : l.getD i d ∈ l := by
 have h1 : i < l.length := by omega
 rw [List.getD_eq_getElem?_getD, List.getElem?_eq_getElem h1]
 exact List.getElem_mem h1
theorem idxL_at {l : List Int} {n d : Int} {i : Nat} (hi : (i : Int) < (l.length : Int)) (h : n ∉ l.take i) (e : n = l.getD i d) : (i : Int) = idxL l n := by
 unfold idxL
 have h1 : i < l.length := by omega
 have hm : n ∈ l := by rw [e]; exact mem_getD hi
 rw [if_pos hm]
 have : l.idxOf n = i := by
  have hle : l.idxOf n <= i := by
   rcases Nat.lt_or_ge i (l.idxOf n) with hlt | hge
   ·exfalso
    have := List.not_of_lt_findIdx (p := (· == n)) (xs := l) (i := i) hlt
    rw [List.getD_eq_getElem?_getD, List.getElem?_eq_getElem h1] at e;simp only [Option.getD_some] at e;rw [<- e] at this;simp at this
   ·exact hge
  rcases Nat.lt_or_ge (l.idxOf n) i with hlt | hge
  ·exfalso
   apply h
   have hl : l.idxOf n < l.length := by omega
   have : l[l.idxOf n]'hl = n := List.getElem_idxOf hl
   rw [List.mem_take_iff_getElem];exact ⟨l.idxOf n, by omega, this⟩
  ·omega
 rw [this]
theorem tw_lt {p : Int -> Bool} : ∀ {l : List Int} {i : Nat}, i <= (l.takeWhile p).length -> i < l.length -> p (l.getD i 0) = true -> i < (l.takeWhile p).length
 | [], i, _, h, _ => by simp at h
 | a :: l, i, h1, h2, h3 => by
  cases hp : p a
  ·rw [List.takeWhile_cons_of_neg (by rw [hp]; decide)] at h1
   have : i = 0 := by simp at h1; exact h1
   subst this;have h3 : p a = true := h3;rw [hp] at h3; cases h3
  ·rw [List.takeWhile_cons_of_pos hp] at h1 ⊢
   cases i with
   | zero => simp
   | succ i =>
    simp only [List.length_cons] at h1 h2 ⊢;exact Nat.succ_lt_succ (tw_lt (by omega) (by omega) h3)
theorem tw_end {p : Int -> Bool} : ∀ {l : List Int} {i : Nat}, i <= (l.takeWhile p).length -> (i < l.length -> p (l.getD i 0) = false) -> l.take i = l.takeWhile p /\ l.drop i = l.dropWhile p
 | [], i, _, _ => by simp
 | a :: l, i, h1, h2 => by
  cases hp : p a
  ·rw [List.takeWhile_cons_of_neg (by rw [hp]; decide), List.dropWhile_cons_of_neg (by rw [hp]; decide)]
   rw [List.takeWhile_cons_of_neg (by rw [hp]; decide)] at h1;have : i = 0 := by simp at h1; exact h1
   subst this;exact ⟨rfl, rfl⟩
  ·rw [List.takeWhile_cons_of_pos hp] at h1 ⊢
   rw [List.dropWhile_cons_of_pos hp];cases i with
   | zero =>
    have : p a = false := h2 (by simp)
    rw [hp] at this; cases this
   | succ i =>
    simp only [List.length_cons] at h1 h2;obtain ⟨g1, g2⟩ := tw_end (l := l) (i := i) (p := p) (by omega) (fun h => h2 (by omega))
    rw [List.take_succ_cons, List.drop_succ_cons, g1];exact ⟨rfl, g2⟩
theorem addN_len (l : List Int) (n : Int) : (addN l n).length <= l.length + 1 := by
 unfold addN
 split
 ·omega
 ·have := congrArg List.length (List.takeWhile_append_dropWhile (p := fun v => decide (v < n)) (l := l))
  simp only [List.length_append, List.length_singleton] at this ⊢;omega
end Sp
namespace Go.User
open Go.Lf Go.Proofs
theorem maxN {n : Nat} (h : n <= 100000000) : (n : Int) <= maxNew := by rw [maxNew_eq]; omega
theorem ok38 : FOk Try.prog 38 S38 := by
 have hC : CtxOK Try.prog C38 := okA fns_nil
 refine FOk.intro hC (stpS_ok hC) Try.call38 Try.func38 (by kernel_rfl) (by kernel_rfl) L38 ?_
 rw [vc38]
 simp only [zz, zy]
 rintro ⟨l, n, u⟩ ⟨hl, hn⟩
 dsimp only
 refine ⟨⟨0, ⟨Nat.zero_le _, by simp⟩, rfl⟩, ?_⟩
 intro i hi _
 obtain ⟨h1, h2⟩ := hi
 refine ⟨fun hlt => ⟨inN_of hlt, fun c => Sp.tr_of ((Sp.mem_iff l n).2 ?_), fun c => ⟨inK_succ hlt hl.1, i + 1, ⟨?_, ?_⟩, ?_, rfl⟩⟩, fun hge => Sp.fa_of fun e => h2 ?_⟩
 ·have c : l.getD i 0 = n := c
  rw [<- c]; exact Sp.mem_getD hlt
 ·have hlt : (i : Int) < (List.length l : Int) := hlt
  omega
 ·intro hm
  rcases (Sp.mem_take_succ (d := 0) hlt).1 hm with h | h
  ·exact h2 h
  ·exact c h
 ·have hlt : (i : Int) < (List.length l : Int) := hlt
  omega
 ·have hge : (List.length l : Int) <= (i : Int) := hge
  have e := (Sp.mem_iff l n).1 e
  rwa [List.take_of_length_le (by omega)]
theorem ok69 : FOk Try.prog 69 S69 := by
 have hC : CtxOK Try.prog C69 := okA fns_nil
 refine FOk.intro hC (stpS_ok hC) Try.call69 Try.func69 (by kernel_rfl) (by kernel_rfl) L69 ?_
 rw [vc69]
 simp only [zz, zy]
 rintro ⟨l, n, u⟩ ⟨hl, hn⟩
 dsimp only
 refine ⟨⟨0, ⟨Nat.zero_le _, by simp⟩, rfl⟩, ?_⟩
 intro i hi _
 obtain ⟨h1, h2⟩ := hi
 refine ⟨fun hlt => ⟨inN_of hlt, fun c => Sp.idxL_at hlt h2 c, fun c => ⟨inK_succ hlt hl.1, i + 1, ⟨?_, ?_⟩, ?_, rfl⟩⟩, fun hge => ?_⟩
 ·have hlt : (i : Int) < (List.length l : Int) := hlt
  omega
 ·intro hm
  rcases (Sp.mem_take_succ (d := 0) hlt).1 hm with h | h
  ·exact h2 h
  ·exact c h.symm
 ·have hlt : (i : Int) < (List.length l : Int) := hlt
  omega
 ·have hge : (List.length l : Int) <= (i : Int) := hge
  show -1 = Sp.idxL l n
  unfold Sp.idxL;rw [if_neg];rw [List.take_of_length_le (by omega)] at h2;exact h2
theorem ok61 : FOk Try.prog 61 S61 := by
 have hC : CtxOK Try.prog C61 := okA (fns_cons ok69 fns_nil)
 refine FOk.intro hC (stpS_ok hC) Try.call61 Try.func61 (by kernel_rfl) (by kernel_rfl) L61 ?_
 rw [vc61]
 simp only [zz, zy]
 rintro ⟨l, n, u⟩ _
 dsimp only
 show decide (0 <= Sp.idxL l n) = Sp.mem l n
 unfold Sp.idxL Sp.mem
 split
 ·rename_i h
  rw [decide_eq_true h, decide_eq_true (by omega)]
 ·rename_i h
  rw [decide_eq_false h]; rfl
theorem ok56 : FOk Try.prog 56 S56 := by
 have hC : CtxOK Try.prog C56 := okA fns_nil
 refine FOk.intro hC (stpS_ok hC) Try.call56 Try.func56 (by kernel_rfl) (by kernel_rfl) L56 ?_
 rw [vc56]
 simp only [zz, zy]
 rintro ⟨l, u⟩ h _
 dsimp only
 exact ⟨fun h => h.symm, maxN (by have h : List.length l <= 5000 := h; omega)⟩
theorem ok57 : FOk Try.prog 57 S57 := by
 have hC : CtxOK Try.prog C57 := okA fns_nil
 refine FOk.intro hC (stpS_ok hC) Try.call57 Try.func57 (by kernel_rfl) (by kernel_rfl) L57 ?_
 rw [vc57]
 simp only [zz, zy]
 rintro ⟨l, u⟩ h _
 dsimp only
 exact ⟨fun h => h.symm, maxN (by have h : List.length l <= 5000 := h; omega)⟩
theorem ok58 : FOk Try.prog 58 S58 := by
 have hC : CtxOK Try.prog C58 := okA fns_nil
 refine FOk.intro hC (stpS_ok hC) Try.call58 Try.func58 (by kernel_rfl) (by kernel_rfl) L58 ?_
 rw [vc58]
 simp only [zz, zy]
 rintro ⟨l, u⟩ h _
 dsimp only
 exact ⟨fun h => h.symm, maxN (by have h : List.length l <= 5000 := h; omega)⟩
theorem ok68 : FOk Try.prog 68 S68 := by
 have hC : CtxOK Try.prog C68 := okA fns_nil
 refine FOk.intro hC (stpS_ok hC) Try.call68 Try.func68 (by kernel_rfl) (by kernel_rfl) L68 ?_
 rw [vc68]
 simp only [zz, zy]
 rintro ⟨o, u⟩ _
 dsimp only
 exact ⟨fun h => (if_neg h).symm, fun h => (if_pos h).symm⟩
theorem ok60 : FOk Try.prog 60 S60 := by
 have hC : CtxOK Try.prog C60 := okA (fns_cons ok68 fns_nil)
 refine FOk.intro hC (stpS_ok hC) Try.call60 Try.func60 (by kernel_rfl) (by kernel_rfl) L60 ?_
 rw [vc60]
 simp only [zz, zy]
 rintro ⟨o, u⟩ _
 rfl
theorem ok63 : FOk Try.prog 63 S63 := by
 have hC : CtxOK Try.prog C63 := okA fns_nil
 refine FOk.intro hC (stpS_ok hC) Try.call63 Try.func63 (by kernel_rfl) (by kernel_rfl) L63 ?_
 rw [vc63]
 simp only [zz, zy]
 rintro ⟨o, u⟩ _
 dsimp only
 exact ⟨fun h => (if_pos h).symm, fun h => (if_neg h).symm⟩
theorem ok34 : FOk Try.prog 34 S34 := by
 have hC : CtxOK Try.prog C34 := okA fns_nil
 refine FOk.intro hC (stpS_ok hC) Try.call34 Try.func34 (by kernel_rfl) (by kernel_rfl) L34 ?_
 rw [vc34]
 simp only [zz, zy]
 rintro ⟨o, u⟩ _
 rfl
theorem ok36 : FOk Try.prog 36 S36 := by
 have hC : CtxOK Try.prog C36 := okA fns_nil
 refine FOk.intro hC (stpS_ok hC) Try.call36 Try.func36 (by kernel_rfl) (by kernel_rfl) L36 ?_
 rw [vc36]
 simp only [zz, zy]
 rintro ⟨o, u⟩ _
 rfl
theorem ok37 : FOk Try.prog 37 S37 := by
 have hC : CtxOK Try.prog C37 := okA fns_nil
 refine FOk.intro hC (stpS_ok hC) Try.call37 Try.func37 (by kernel_rfl) (by kernel_rfl) L37 ?_
 rw [vc37]
 simp only [zz, zy]
 rintro ⟨o, u⟩ _
 rfl
theorem ok35 : FOk Try.prog 35 S35 := by
 have hC : CtxOK Try.prog C35 := okA (fns_cons ok37 (fns_cons ok34 fns_nil))
 refine FOk.intro hC (stpS_ok hC) Try.call35 Try.func35 (by kernel_rfl) (by kernel_rfl) L35 ?_
 rw [vc35]
 simp only [zz, zy]
 rintro ⟨c, i, u⟩ h _
 dsimp only at h ⊢
 refine ⟨fun hc => ?_, rfl⟩
 have hc2 := hc.2
 unfold Sp.arrB at hc2
 simp only [Bool.or_eq_true, decide_eq_true_iff, or_assoc] at hc2
 exact h hc2
theorem ok75 : FOk Try.prog 75 S75 := by
 have hC : CtxOK Try.prog C75 := okA (fns_cons ok38 fns_nil)
 refine FOk.intro hC (stpS_ok hC) Try.call75 Try.func75 (by kernel_rfl) (by kernel_rfl) L75 ?_
 rw [vc75]
 simp only [zz, zy]
 rintro ⟨l, n, u⟩ hlen ⟨hl, hn⟩
 dsimp only at hlen ⊢
 have hlen : List.length l <= 5000 := hlen
 refine ⟨fun c => ?_, fun c => ⟨⟨0, Nat.zero_le _, rfl⟩, ?_⟩⟩
 ·show l = Sp.addN l n
  unfold Sp.addN;rw [if_pos ((Sp.mem_iff l n).1 c)]
 have hnm : n ∉ l := fun h => by rw [(Sp.mem_iff l n).2 h] at c; cases c
 intro i hi _
 have hi : i <= (List.takeWhile (fun v => decide (v < n)) l).length := hi
 refine ⟨fun hlt => inN_of hlt, fun c2 => ⟨inK_succ c2.1 hl.1, i + 1, ?_, ?_, rfl⟩, fun c2 => ?_⟩
 ·have h1 : (i : Int) < (List.length l : Int) := c2.1
  have h2 : l.getD i 0 < n := c2.2
  exact Sp.tw_lt (p := fun v => decide (v < n)) hi (by omega) (decide_eq_true h2)
 ·have h1 : (i : Int) < (List.length l : Int) := c2.1
  omega
 ·obtain ⟨e1, e2⟩ := Sp.tw_end (p := fun v => decide (v < n)) (l := l) (i := i) hi (fun hlt => by
   have h0 : decide ((i : Int) < (List.length l : Int)) = true := decide_eq_true (by omega)
   rw [h0, Bool.true_and] at c2;exact c2)
  have hil : i <= l.length := Nat.le_trans hi (by
   have := congrArg List.length (List.takeWhile_append_dropWhile (p := fun v => decide (v < n)) (l := l))
   simp only [List.length_append] at this;omega)
  have w1 : win 0 (i : Int) l = l.take i := by unfold win; simp
  have w2 : win (i : Int) (List.length l : Int) l = l.drop i := by unfold win; simp
  show (winI 0 (i : Int) (List.length l) /\ ((0 + (win 0 (i : Int) l).length : Nat) : Int) <= maxNew /\ (((win 0 (i : Int) l).length + 1 : Nat) : Int) <= maxNew /\ winI (i : Int) (List.length l : Int) (List.length l) /\ (((win 0 (i : Int) l ++ n :: []).length + (win (i : Int) (List.length l : Int) l).length : Nat) : Int) <= maxNew) /\ win 0 (i : Int) l ++ n :: [] ++ win (i : Int) (List.length l : Int) l = Sp.addN l n
  rw [w1, w2];have t1 : (l.take i).length <= 5000 := by rw [List.length_take]; omega
  have t2 : (l.drop i).length <= 5000 := by rw [List.length_drop]; omega
  refine ⟨⟨⟨Int.le_refl _, by omega, by omega⟩, maxN (by omega), maxN (by omega), ⟨by omega, by omega, by omega⟩, maxN (by rw [List.length_append]; simp only [List.length_singleton]; omega)⟩, ?_⟩
  unfold Sp.addN;rw [if_neg hnm, e1, e2]
theorem ok71 : FOk Try.prog 71 S71 := by
 have hC : CtxOK Try.prog C71 := okC (fns_cons ok75 fns_nil) rfl rfl rfl rfl rfl rfl rfl
 refine FOk.intro hC (stpS_ok hC) Try.call71 Try.func71 (by kernel_rfl) (by kernel_rfl) L71 ?_
 rw [vc71]
 simp only [zz, zy]
 rintro ⟨l, u⟩ hlen hl
 dsimp only at hlen hl ⊢
 have hlen : List.length l <= 1000 := hlen
 refine ⟨⟨(0, []), ⟨Nat.zero_le _, Nat.le_refl _, rfl⟩, rfl, rfl⟩, ?_⟩
 rintro ⟨k, o⟩ ⟨h1, h2, h3⟩ _
 dsimp only at h1 h2 h3 ⊢
 have hd : ∀ h : k < List.length l, Sp.regL (List.drop k l) o = Sp.regL (List.drop (k + 1) l) (if (l.getD k (0, 0, 0, ())).1 = 2 then Sp.addN o (l.getD k (0, 0, 0, ())).2.1 else o) := by
  intro h;rw [List.drop_eq_getElem_cons h, List.getD_eq_getElem?_getD, List.getElem?_eq_getElem h]
  rfl
 refine ⟨fun hlt => ⟨inN_of hlt, fun c => ?_, fun c => ?_⟩, fun hge => ?_⟩
 ·have hlt : (k : Int) < (List.length l : Int) := hlt
  refine ⟨⟨inN_of hlt, by omega⟩, inK_mid (by omega) (by omega), (k + 1, Sp.addN o (l.getD k (0, 0, 0, ())).2.1), ⟨by dsimp only; omega, ?_, ?_⟩, by dsimp only; omega, rfl, rfl⟩
  ·have := Sp.addN_len o (l.getD k (0, 0, 0, ())).2.1
   dsimp only; omega
  ·rw [<- h3, hd (by omega), if_pos c]
 ·have hlt : (k : Int) < (List.length l : Int) := hlt
  refine ⟨inK_mid (by omega) (by omega), (k + 1, o), ⟨by dsimp only; omega, by dsimp only; omega, ?_⟩, by dsimp only; omega, rfl, rfl⟩
  rw [<- h3, hd (by omega), if_neg c]
 ·have hge : (List.length l : Int) <= (k : Int) := hge
  rw [<- h3, List.drop_of_length_le (by omega)]
  rfl
theorem ok64 : FOk Try.prog 64 S64 := by
 have hC : CtxOK Try.prog C64 := okC (fns_cons ok71 fns_nil) rfl rfl rfl rfl rfl rfl rfl
 refine FOk.intro hC (stpS_ok hC) Try.call64 Try.func64 (by kernel_rfl) (by kernel_rfl) L64 ?_
 rw [vc64]
 simp only [zz, zy]
 rintro ⟨i, u⟩ _
 exact ⟨Nat.le_of_ble_eq_true rfl, rfl⟩
theorem ok33 : FOk Try.prog 33 S33 := by
 have hC : CtxOK Try.prog C33 := okA (fns_cons ok63 (fns_cons ok38 (fns_cons ok64 fns_nil)))
 refine FOk.intro hC (stpS_ok hC) Try.call33 Try.func33 (by kernel_rfl) (by kernel_rfl) L33 ?_
 rw [vc33]
 simp only [zz, zy]
 rintro ⟨i, j, u⟩ _
 rfl
theorem ok62 (h70 : FOk Try.prog 70 S70) : FOk Try.prog 62 S62 := by
 have hC : CtxOK Try.prog C62 := okC (fns_cons h70 fns_nil) rfl rfl rfl rfl rfl rfl rfl
 refine FOk.intro hC (stpS_ok hC) Try.call62 Try.func62 (by kernel_rfl) (by kernel_rfl) L62 ?_
 rw [vc62]
 simp only [zz, zy]
 rintro ⟨i, u⟩ _
 exact ⟨Nat.le_of_ble_eq_true rfl, rfl⟩
theorem ok32 (h70 : FOk Try.prog 70 S70) : FOk Try.prog 32 S32 := by
 have hC : CtxOK Try.prog C32 := okA (fns_cons ok60 (fns_cons ok61 (fns_cons (ok62 h70) fns_nil)))
 refine FOk.intro hC (stpS_ok hC) Try.call32 Try.func32 (by kernel_rfl) (by kernel_rfl) L32 ?_
 rw [vc32]
 simp only [zz, zy]
 rintro ⟨i, j, u⟩ _
 rfl
theorem ok31 : FOk Try.prog 31 S31 := by
 have hC : CtxOK Try.prog C31 := okA fns_nil
 refine FOk.intro hC (stpS_ok hC) Try.call31 Try.func31 (by kernel_rfl) (by kernel_rfl) L31 ?_
 rw [vc31]
 simp only [zz, zy]
 rintro ⟨c, i, u⟩ h _
 dsimp only at h ⊢
 have hin : (i.1 = 7 ∨ i.1 = 8 ∨ i.1 = 9) -> inN i.2.2.1 c.2.2.2.2.2.1.length := fun hi => h hi
 have K7 : (i.1 = 7 ∨ i.1 = 8 ∨ i.1 = 9) -> (i.2.2.1, (-1 : Int), i.1 == 7, i.1 == 9, (c.2.2.2.2.2.1.getD i.2.2.1.toNat ([], 0, 0, 0, ())).2.1 != 3, ()) = Sp.accI c i := by
  intro hi;unfold Sp.accI;rw [if_pos (show Sp.opI i = 7 ∨ Sp.opI i = 8 ∨ Sp.opI i = 9 from hi)]; rfl
 have K11 : (i.1 = 11 ∨ i.1 = 12) -> ((-1 : Int), i.2.2.1, i.1 == 11, false, false, ()) = Sp.accI c i := by
  intro hi;unfold Sp.accI;rw [if_neg (by unfold Sp.opI; omega), if_pos (show Sp.opI i = 11 ∨ Sp.opI i = 12 from hi)]; rfl
 have K10 : i.1 = 10 -> ((-1 : Int), (-1 : Int), false, true, true, ()) = Sp.accI c i := by
  intro hi;unfold Sp.accI;rw [if_neg (by unfold Sp.opI; omega), if_neg (by unfold Sp.opI; omega), if_pos (show Sp.opI i = 10 from hi)]
 have K0 : ¬ (i.1 = 7 ∨ i.1 = 8 ∨ i.1 = 9) -> ¬ (i.1 = 11 ∨ i.1 = 12) -> ¬ i.1 = 10 -> ((-1 : Int), (-1 : Int), false, false, false, ()) = Sp.accI c i := by
  intro h1 h2 h3;unfold Sp.accI;rw [if_neg (show ¬ (Sp.opI i = 7 ∨ Sp.opI i = 8 ∨ Sp.opI i = 9) from h1), if_neg (show ¬ (Sp.opI i = 11 ∨ Sp.opI i = 12) from h2), if_neg (show ¬ Sp.opI i = 10 from h3)]; rfl
 have O7 : ∀ {v : Int}, i.1 = 7 -> ¬ i.1 = 7 -> False := fun a b => b a
 repeat' first
  | with_reducible refine And.intro ?_ ?_
  | intro _
  | exact hin (by omega)
  | exact K7 (by omega)
  | exact K11 (by omega)
  | exact K10 (by omega)
  | exact K0 (by omega) (by omega) (by omega)
  | (exfalso; omega)
theorem ok14 (h70 : FOk Try.prog 70 S70) : FOk Try.prog 14 S14 := by
 have hC : CtxOK Try.prog C14 := okA (fns_cons ok31 (fns_cons (ok32 h70) fns_nil))
 refine FOk.intro hC (stpS_ok hC) Try.call14 Try.func14 (by kernel_rfl) (by kernel_rfl) L14 ?_
 rw [vc14]
 simp only [zz, zy]
 rintro ⟨c, i, j, u⟩ h _
 refine ⟨h, ?_⟩
 show _ = Sp.depP c i j
 unfold Sp.depP Sp.accB
 simp only [Bool.or_assoc]
 rfl
theorem ok15 : FOk Try.prog 15 S15 := by
 have hC : CtxOK Try.prog C15 := okA (fns_cons ok33 (fns_cons ok34 (fns_cons ok35 (fns_cons ok36 (fns_cons ok37 fns_nil)))))
 refine FOk.intro hC (stpS_ok hC) Try.call15 Try.func15 (by kernel_rfl) (by kernel_rfl) L15 ?_
 rw [vc15]
 simp only [zz, zy]
 rintro ⟨c, i, j, u⟩ h _
 obtain ⟨hi, hj⟩ := h
 dsimp only at hi hj ⊢
 have E : ∀ b : Bool, (Sp.hitB i j || Sp.hitB j i || (Sp.arrB i && Sp.arrB j && decide (Sp.nI i = Sp.nI j) && (!decide (Sp.opI i = 7) || !decide (Sp.opI j = 7) || Sp.visB c i)) || (Sp.sltB i && Sp.sltB j && decide (Sp.nI i = Sp.nI j) && (!decide (Sp.opI i = 11) || !decide (Sp.opI j = 11))) || Sp.strB i && Sp.visB c j || Sp.strB j && Sp.visB c i) = b -> Sp.depR c i j = b := by
  rintro b rfl
  unfold Sp.depR
  rfl
 have e7 : (i.1 != 7) = !decide (Sp.opI i = 7) := rfl
 have e7' : (j.1 != 7) = !decide (Sp.opI j = 7) := rfl
 have e11 : (i.1 != 11) = !decide (Sp.opI i = 11) := rfl
 have e11' : (j.1 != 11) = !decide (Sp.opI j = 11) := rfl
 have en : (i.2.2.1 == j.2.2.1) = decide (Sp.nI i = Sp.nI j) := rfl
 simp only [e7, e7', e11, e11', en]
 generalize Sp.hitB i j = p1 at *
 generalize Sp.hitB j i = p2 at *
 generalize Sp.arrB i = p3 at *
 generalize Sp.arrB j = p4 at *
 generalize Sp.sltB i = p5 at *
 generalize Sp.sltB j = p6 at *
 generalize Sp.strB i = p7 at *
 generalize Sp.strB j = p8 at *
 generalize Sp.visB c i = p9 at *
 generalize Sp.visB c j = p10 at *
 generalize decide (Sp.nI i = Sp.nI j) = p11 at *
 generalize hq1 : decide (Sp.opI i = 7) = p12 at *
 generalize decide (Sp.opI j = 7) = p13 at *
 generalize decide (Sp.opI i = 11) = p14 at *
 generalize decide (Sp.opI j = 11) = p15 at *
 refine ⟨fun h => (E true ?_).symm, fun h => ⟨fun _ => hi, fun h2 => (E true ?_).symm, fun h2 => ⟨fun h3 => (E true ?_).symm, fun h3 => ⟨⟨fun _ => hj, fun _ => hi⟩, (E _ ?_).symm⟩⟩⟩⟩
 ·cases p1 <;> cases p2 <;> first | (simp at h; done) | simp
 ·obtain ⟨h2, h3⟩ := h2
  cases p3 <;> cases p4 <;> cases p11 <;> first | (simp at h2; done) | (rw [h2.2] at en; simp at en; done) | (rw [h3]; simp)
 ·obtain ⟨h3, h4⟩ := h3
  cases p5 <;> cases p6 <;> cases p11 <;> first | (simp at h3; done) | (rw [h3.2] at en; simp at en; done) | (rw [h4]; simp)
 ·obtain ⟨g1, g2⟩ := h
  subst g1; subst g2;have k2 : (p3 && p4 && p11 && (!p12 || !p13 || p9)) = false := by
   cases p3 <;> cases p4 <;> cases p11 <;> first | rfl | exact h2
  have k3 : (p5 && p6 && p11 && (!p14 || !p15)) = false := by
   cases p5 <;> cases p6 <;> cases p11 <;> first | rfl | exact h3
  rw [k2, k3];cases p7 <;> cases p8 <;> cases p9 <;> cases p10 <;> rfl
theorem take_blk {B : List Sp.Block} {i : Nat} (h : (i : Int) < (B.length : Int)) (d : Sp.Block) : B.take i ++ ((B.getD i d).1, (B.getD i d).2.1, ()) :: [] = B.take (i + 1) := by
 have h1 : i < B.length := by omega
 rw [List.take_add_one, List.getElem?_eq_getElem h1, List.getD_eq_getElem?_getD, List.getElem?_eq_getElem h1]
 rfl
theorem ok20 : FOk Try.prog 20 S20 := by
 have hC : CtxOK Try.prog C20 := okC fns_nil rfl rfl rfl rfl rfl rfl rfl
 refine FOk.intro hC (stpS_ok hC) Try.call20 Try.func20 (by kernel_rfl) (by kernel_rfl) L20 ?_
 rw [vc20]
 simp only [zz, zy]
 rintro ⟨c, u⟩ hc hd
 obtain ⟨h1, h2, h3, h4⟩ := hc
 dsimp only at h1 h2 h3 h4 ⊢
 have h1 : c.2.2.2.2.2.1.length <= 5000 := h1
 have h2 : c.2.2.2.2.2.2.1.length <= 5000 := h2
 have h3 : c.2.2.2.2.2.2.2.1.length <= 5000 := h3
 refine ⟨maxN (by omega), maxN (by omega), ⟨0, Nat.zero_le _, by simp, rfl⟩, ?_⟩
 intro i hi _
 have hi : i <= c.2.2.2.2.2.2.2.1.length := hi
 refine ⟨fun hlt => ⟨⟨⟨inN_of hlt, maxN ?_, inN_of hlt⟩, maxN ?_⟩, inK_mid (by omega) (by omega), i + 1, ?_, ?_, take_blk hlt _, rfl⟩, fun hge => ?_⟩
 ·have hm : c.2.2.2.2.2.2.2.1.getD i ([], (0, 0, (0, 0, 0, ()), (0, 0, 0, ()), (0, 0, 0, ()), List.replicate 2 0, ()), ()) ∈ c.2.2.2.2.2.2.2.1 := by
   have hl : i < c.2.2.2.2.2.2.2.1.length := by omega
   rw [List.getD_eq_getElem?_getD, List.getElem?_eq_getElem hl];exact List.getElem_mem hl
  have := h4 _ hm
  exact Nat.le_trans (Nat.le_of_eq (Nat.zero_add _)) (Nat.le_trans this (by decide))
 ·have : (List.take i (Sp.cB c)).length <= i := by rw [List.length_take]; omega
  omega
 ·show i + 1 <= c.2.2.2.2.2.2.2.1.length
  omega
 ·show c.2.2.2.2.2.2.2.1.length - (i + 1) < c.2.2.2.2.2.2.2.1.length - i
  omega
 ·have e : List.take i (Sp.cB c) = c.2.2.2.2.2.2.2.1 := List.take_of_length_le (by show c.2.2.2.2.2.2.2.1.length <= i; omega)
  rw [e]
end Go.User
namespace Go.User
open Go Go.Proofs Go.RowKit Go.Lib Go.Lf Go.Sort
theorem putRow_heap (w : World) (b off : Nat) (d : Array Int) (k : Nat) : (putRow (Value.int .i64) w b off d).heap[k]? = if b = k then (w.heap[k]?).map (onCells (putCells (Value.int .i64) off d)) else w.heap[k]? := by
 unfold putRow mapBlock
 rw [Array.getElem?_modify]
theorem grow_heap (w : World) (os : Array Obj) {k : Nat} (h : k < w.heap.size) : (Go.Sort.grow w os).heap[k]? = w.heap[k]? := by
 unfold Go.Sort.grow
 rw [Array.getElem?_append_left h]
theorem putRow_size (w : World) (b off : Nat) (d : Array Int) : (putRow (Value.int .i64) w b off d).heap.size = w.heap.size := by
 unfold putRow mapBlock
 simp
theorem putCells_at (off : Nat) (d : Array Int) (c : Array Value) {j : Nat} (h : j < d.size) (hc : off + j < c.size) : (putCells (Value.int .i64) off d c)[off + j]? = some (.int .i64 d[j]!) := by
 unfold putCells
 rw [Array.getElem?_mapIdx, Array.getElem?_eq_getElem hc]
 simp only [Option.map_some]
 rw [if_pos ⟨by omega, by omega⟩, Nat.add_sub_cancel_left]
theorem putCells_size (off : Nat) (d : Array Int) (c : Array Value) : (putCells (Value.int .i64) off d c).size = c.size := by
 unfold putCells
 rw [Array.size_mapIdx]
theorem row_ints {w : World} {F S0 : NSet} {v : Value} {x : List Int} (h : OwnV F w (.slice tI) (.own .shr) S0 v x) :
  (∃ cap, v = .slice none 0 cap /\ x = []) ∨ ∃ b off cap row T, v = .slice (some ⟨b, off, none⟩) x.length cap /\ x.length <= cap /\ S0 b /\ w.heap[b]? = some (.cells row T (0, 0)) /\ off + cap <= row.size /\ (∀ j, j < x.length -> row[off + j]? = some (.int .i64 x[j]!)) /\ ∀ z ∈ x, inK .i64 z := by
 obtain ⟨cs, rfl, ao, cap, rfl, h1, h2, h3⟩ := h
 rcases h3 with ⟨rfl, rfl⟩ | ⟨b, off, row, T, Si, rfl, h4, h5, h6, _, _, _, h7⟩
 ·left
  have : x = [] := List.eq_nil_of_length_eq_zero (by omega)
  subst this;exact ⟨0, rfl, rfl⟩
 ·right
  have hs : Ty.size tI = 1 := rfl
  have hel : ∀ j (hj : j < x.length), row[off + j]? = some (.int .i64 x[j]!) /\ inK .i64 x[j]! := by
   intro j hj;have := h7 j _ (List.getElem?_eq_getElem hj);obtain ⟨q1, q2⟩ := this;rw [hs, Nat.mul_one] at q1;have e : (seg row.toList (off + j) 1)[0]? = some (.int .i64 (x[j]'hj)) := by rw [q1]; rfl
   have e2 : x[j]! = x[j]'hj := getElem!_pos x j hj
   rw [e2];exact ⟨by simpa [seg] using e, q2⟩
  refine ⟨b, off, cap, row, T, rfl, h1, h4, h5, by rw [hs, Nat.mul_one] at h6; exact h6, fun j hj => (hel j hj).1, fun z hz => ?_⟩
  obtain ⟨j, hj, rfl⟩ := List.mem_iff_getElem.1 hz;have := (hel j hj).2
  rwa [getElem!_pos x j hj] at this
theorem own_ints {w : World} {F S0 : NSet} {b off cap : Nat} {row : Array Value} {T : TypeId} {x : List Int} (h1 : x.length <= cap) (hl : x.length <= lim) (h4 : S0 b) (h5 : w.heap[b]? = some (.cells row T (0, 0))) (h6 : off + cap <= row.size)
  (h7 : ∀ j, j < x.length -> row[off + j]? = some (.int .i64 x[j]!)) (h8 : ∀ z ∈ x, inK .i64 z) : OwnV F w (.slice tI) (.own .shr) S0 (.slice (some ⟨b, off, none⟩) x.length cap) x := by
 have hs : Ty.size tI = 1 := rfl
 refine ⟨[.slice (some ⟨b, off, none⟩) x.length cap], rfl, some ⟨b, off, none⟩, cap, rfl, h1, hl, .inr ⟨b, off, row, T, fun _ => none', rfl, h4, h5, by rw [hs, Nat.mul_one]; exact h6, fun _ _ h => h.elim, fun _ h => h, fun _ _ _ _ h _ => h, ?_⟩⟩
 intro i z hz
 obtain ⟨hi, rfl⟩ := List.getElem?_eq_some_iff.1 hz
 have h := h7 i hi
 rw [getElem!_pos x i hi] at h
 rw [hs, Nat.mul_one]
 refine ⟨?_, h8 _ (List.getElem_mem hi)⟩
 obtain ⟨hlt, hval⟩ := Array.getElem?_eq_some_iff.1 h
 show List.take 1 (List.drop (off + i) row.toList) = [.int .i64 (x[i]'hi)]
 rw [List.drop_eq_getElem_cons (by simpa using hlt)]
 simp [hval]
def vSort : VSpec := { e := tI, pre := fun x => List.length x <= 1000000, fn := fun (x : List Int) => x.mergeSort (fun a b => decide (a <= b)), ret := false }
def vCmp : VSpec := { e := tI, pre := fun x => List.length x <= 1000000, fn := fun (x : List Int) => Lib.compact x, ret := true }
theorem holds_row {w : World} {b off : Nat} {row : Array Value} {T : TypeId} {x : List Int} (h5 : w.heap[b]? = some (.cells row T (0, 0))) (h7 : ∀ j, j < x.length -> row[off + j]? = some (.int .i64 x[j]!)) : Holds (Value.int .i64) w b off x.toArray := by
 intro j hj
 have hj : j < x.length := by simpa using hj
 refine ⟨?_, by simp [World.frozen?, h5]⟩
 rw [cell_of h5, h7 j hj]
 simp [getElem!_pos, hj]
theorem vk73 : VOk Try.prog 73 vSort := by
 refine ⟨Try.call73, ?_⟩
 intro w F S0 v (x : List Int) hF hS0 (hown : OwnV F w (.slice tI) (.own .shr) S0 v x) hpre
 have hpre : List.length x <= 1000000 := hpre
 rcases row_ints hown with ⟨cap, rfl, rfl⟩ | ⟨b, off, cap, row, T, rfl, h1, h4, h5, h6, h7, h8⟩
 ·refine (AnyM.slices_Sort_int_none Try.sortA none cap w).mono ?_
  rintro e w' ⟨rfl, rfl⟩
  refine ⟨_, S0, rfl, fun _ => rfl, rfl, rfl, rfl, Nat.le_refl _, fun _ _ _ => rfl, fun k hk => ⟨.inr hk, (hS0 k hk).1, (hS0 k hk).2⟩, ?_⟩
  simpa [vSort] using hown
 ·have hb := hS0 b h4
  refine (AnyM.slices_Sort_int Try.sortA b off cap x w (holds_row h5 h7) hb.1 (by omega)).mono ?_
  rintro e w' ⟨rfl, n, os, rfl⟩
  have hsz : (Go.Sort.grow (putRow (Value.int .i64) (Sort.ahead w n) b off (x.mergeSort fun x y => decide (x <= y)).toArray) os).heap.size = w.heap.size + os.size := by
   unfold Go.Sort.grow;rw [Array.size_append, putRow_size]; rfl
  have hk : ∀ k, k < w.heap.size -> (Go.Sort.grow (putRow (Value.int .i64) (Sort.ahead w n) b off (x.mergeSort fun x y => decide (x <= y)).toArray) os).heap[k]? = if b = k then (w.heap[k]?).map (onCells (putCells (Value.int .i64) off (x.mergeSort fun x y => decide (x <= y)).toArray)) else w.heap[k]? := by
   intro k hk;rw [grow_heap _ _ (by rw [putRow_size]; exact hk), putRow_heap]
   rfl
  have hlen : (x.mergeSort fun x y => decide (x <= y)).length = x.length := List.length_mergeSort x
  refine ⟨_, S0, rfl, fun _ => rfl, rfl, rfl, rfl, by rw [hsz]; omega, fun k h1 h2 => ?_, fun k hk => ⟨.inr hk, by rw [hsz]; have := (hS0 k hk).1; omega, (hS0 k hk).2⟩, ?_⟩
  ·rw [hk k h1, if_neg (fun (e : b = k) => h2 (by rw [<- e]; exact h4))]
  ·have hlim : x.length <= lim := by rw [lim_eq]; omega
   have := own_ints (F := F) (S0 := S0) (x := x.mergeSort fun x y => decide (x <= y)) (cap := cap) (by rw [hlen]; exact h1) (by rw [hlen]; exact hlim) h4 (by rw [hk b hb.1, if_pos rfl, h5]; rfl) (by rw [putCells_size]; exact h6) (fun j hj => by
    have hj2 : j < x.length := by rw [<- hlen]; exact hj
    rw [putCells_at off _ _ (by simpa using hj) (by omega)];simp [getElem!_pos, hj, hj2]) (fun z hz => h8 z (List.mem_mergeSort.1 hz))
   rw [hlen] at this;exact this
theorem compact_mem {x : List Int} {z : Int} (h : z ∈ Lib.compact x) : z ∈ x := by
 unfold Lib.compact compactUpTo at h
 obtain ⟨j, hj, rfl⟩ := List.mem_map.1 h
 have hj := List.mem_range.1 (List.mem_filter.1 hj).1
 simp [getElem!_pos, hj]
theorem vk74 : VOk Try.prog 74 vCmp := by
 refine ⟨Try.call74, ?_⟩
 intro w F S0 v (x : List Int) hF hS0 (hown : OwnV F w (.slice tI) (.own .shr) S0 v x) hpre
 have hpre : List.length x <= 1000000 := hpre
 rcases row_ints hown with ⟨cap, rfl, rfl⟩ | ⟨b, off, cap, row, T, rfl, h1, h4, h5, h6, h7, h8⟩
 ·refine (AnyG.slices_Compact_int_empty Try.cmpA none cap w).mono ?_
  rintro e w' ⟨rfl, rfl⟩
  refine ⟨_, S0, rfl, fun h => (Bool.noConfusion h), rfl, rfl, rfl, Nat.le_refl _, fun _ _ _ => rfl, fun k hk => ⟨.inr hk, (hS0 k hk).1, (hS0 k hk).2⟩, hown⟩
 ·have hb := hS0 b h4
  have hcl : (Lib.compact x).length <= x.length := by
   unfold Lib.compact compactUpTo;rw [List.length_map];have := List.length_filter_le (keeps x.toArray) (List.range x.length)
   rwa [List.length_range] at this
  refine (AnyG.slices_Compact_int Try.cmpA b off cap x w (holds_row h5 h7) (by omega) h1).mono ?_
  rintro e w' ⟨rfl, n, rfl⟩
  generalize hD : (Lib.compact x ++ List.replicate (x.length - (Lib.compact x).length) 0).toArray = D
  have hDs : D.size = x.length := by rw [<- hD]; simp; omega
  have hDj : ∀ j : Nat, j < (Lib.compact x).length -> D[j]! = (Lib.compact x)[j]! := by
   intro j hj;rw [<- hD];have : j < (Lib.compact x ++ List.replicate (x.length - (Lib.compact x).length) 0).toArray.size := by simp; omega
   simp [List.getElem!_eq_getElem?_getD, List.getElem?_append_left hj]
  have hk : ∀ k, (putRow (Value.int .i64) (Sort.ahead w n) b off D).heap[k]? = if b = k then (w.heap[k]?).map (onCells (putCells (Value.int .i64) off D)) else w.heap[k]? := by
   intro k;rw [putRow_heap]
   rfl
  have hsz : (putRow (Value.int .i64) (Sort.ahead w n) b off D).heap.size = w.heap.size := by rw [putRow_size]; rfl
  refine ⟨_, S0, rfl, fun h => (Bool.noConfusion h), rfl, rfl, rfl, by rw [hsz]; omega, fun k h1 h2 => ?_, fun k hk => ⟨.inr hk, by rw [hsz]; exact (hS0 k hk).1, (hS0 k hk).2⟩, ?_⟩
  ·rw [hk k, if_neg (fun (e : b = k) => h2 (by rw [<- e]; exact h4))]
  ·have hlim : x.length <= lim := by rw [lim_eq]; omega
   exact own_ints (F := F) (S0 := S0) (x := Lib.compact x) (cap := cap) (by omega) (by omega) h4 (by rw [hk b, if_pos rfl, h5]; rfl) (by rw [putCells_size]; exact h6) (fun j hj => by
    rw [putCells_at off _ _ (by omega) (by omega), hDj j hj]) (fun z hz => h8 z (compact_mem hz))
end Go.User
namespace Sp
def regF (l : List Opd) : List Int := (l.filter fun o => decide (o.1 = 2)).map fun o => o.2.1
end Sp
namespace Go.User
open Go.Lf
def places : List (FuncId × VSpec) := [(73, vSort), (74, vCmp)]
def C70 : Ctx := mkC 25 []
def L70 (x : kdens S70.args) : List LoopI := [{ ι := Nat, inv := fun i => i <= List.length x.1, dec := fun i => List.length x.1 - i, ovr := fun i => [(8, .shr tI (i : Int)), (7, .shr tI (List.length x.1 : Int)), (3, .own (.slice tI) (.own .shr) (Sp.regF (List.take i x.1)))], keep := [6] }]
end Go.User
namespace Go.User
open Go.Proofs Go.Lf
set_option maxRecDepth 100000
theorem vc70 : (funI C70 (stpV places C70) S70 L70 Try.f70) = (
let q0 : Prop := (True /\ True) /\ True;
let q1 : Prop := True /\ True /\ True;
let q2 : Prop := True /\ q1;
let q3 : Prop := q2 /\ True;
let q4 : Int := (0 : Int);
let q5 : Sp.Opd := (q4, q4, q4, ());
let q6 : Int := (1 : Int);
let q7 : Nat := (1000000 : Nat);
∀ (x : List Sp.Opd × Unit),
 let q8 : Nat := x.1.length;
 let q9 : Int := (↑q8 : Int);
 let q10 : Prop := q9 = q9;
 let q11 : Prop := x.1 = x.1 /\ True;
 q8 <= (3 : Nat) ->
 dFact tOpd.slice x.1 /\ True ->
 q0 /\
 q0 /\
 q3 /\
 (∃ (x_1 : Nat), x_1 <= q8 /\ q4 = (↑x_1 : Int) /\ q10 /\ Sp.regF (List.take x_1 x.1) = ([] : List tI.den) /\ q11) /\
 ∀ (x_1 : Nat),
 let q12 : List Int := Sp.regF (List.take x_1 x.1);
 let q13 : Bool := decide ((↑x_1 : Int) < q9);
 let q14 : Sp.Opd := x.1.getD (↑x_1 : Int).toNat q5;
 let q15 : Bool := q14.1 == (2 : Int);
 let q16 : Nat := q12.length;
 let q17 : List Int := q14.2.1 :: ([] : List tI.den);
 let q18 : Int := (↑x_1 : Int) + q6;
 let q19 : Prop := (inK IntKind.i64 q18 /\ True /\ True) /\ True;
 let q20 : List Int := q12.mergeSort fun (a b : Int) => decide (a <= b);
 let q21 : Nat := q20.length;
 x_1 <= q8 -> dFact tI (↑x_1 : Int) /\ dFact tI q9 /\ dFact tI.slice q12 /\ True -> q0 /\ (q13 = true -> ((inN (↑x_1 : Int) q8 /\ q1) /\ True /\ True) /\ q3 /\ (q15 = true -> ((True /\ q2) /\ (↑(q16 + q17.length) : Int) <= maxNew /\ True /\ True) /\ q19 /\ ∃ (y : Nat), y <= q8 /\ q8 - y < q8 - x_1 /\ q18 = (↑y : Int) /\ q10 /\ q12 ++ q17 = Sp.regF (List.take y x.1) /\ q11) /\ (q15 = false -> q19 /\ ∃ (y : Nat), y <= q8 /\ q8 - y < q8 - x_1 /\ q18 = (↑y : Int) /\ q10 /\ q12 = Sp.regF (List.take y x.1) /\ q11)) /\ (q13 = false -> ((True /\ True) /\ q16 <= q7 /\ True) /\ ((True /\ True) /\ q21 <= q7 /\ True /\ True) /\ List.map (fun (x : Nat) => q20.toArray[x]!) (List.filter (fun (j : Nat) => decide (j = (0 : Nat) ∨ q20.toArray[j]! ≠ q20.toArray[j - (1 : Nat)]!)) (List.range q21)) = Sp.regL x.1 (([] : List Int)))) := by kernel_rfl
end Go.User
namespace Sp
def insAt (l : List Inst) (n : Nat) : Inst := l.getD n inst0
def ldB (l : List Inst) (n : Nat) : Bool := decide (opI (insAt l n) = 7)
def rdyB (dep : Inst -> Inst -> Bool) (l : List Inst) (out : List Int) (n : Nat) : Bool := !mem out (n : Int) && (List.range n).all fun i => mem out (i : Int) || !dep (insAt l i) (insAt l n)
def nxS (rdy ld : Nat -> Bool) : Nat -> Int
 | 0 => -1
 | k + 1 => if (rdy k && (decide (nxS rdy ld k < 0) || ld k && !ld (nxS rdy ld k).toNat)) = true then (k : Int) else nxS rdy ld k
def stpO (dep : Inst -> Inst -> Bool) (l : List Inst) (out : List Int) : Int := nxS (rdyB dep l out) (ldB l) l.length
def ordN (f : List Int -> Int) : Nat -> List Int
 | 0 => []
 | k + 1 => ordN f k ++ [f (ordN f k)]
def lstO (dep : Inst -> Inst -> Bool) (l : List Inst) : List Int := ordN (stpO dep l) l.length
def xAt (x : List Int) (n : Nat) : Int := x.getD n 0
def badP (dep : Inst -> Inst -> Bool) (l : List Inst) (x : List Int) (i j : Nat) : Bool := decide (i < j) && decide (xAt x j < xAt x i) && dep (insAt l (xAt x i).toNat) (insAt l (xAt x j).toNat)
def rgtB (dep : Inst -> Inst -> Bool) (l : List Inst) (x : List Int) : Bool :=
 decide (x.length = l.length) && ((List.range l.length).all fun n => mem x (n : Int)) && (List.range x.length).all fun i => (List.range x.length).all fun j => !badP dep l x i j
def reoL (l : List Inst) (x : List Int) : List Inst := x.map fun k => insAt l k.toNat
def blkAt (c : Code) (b : Nat) : Block := (cB c).getD b blk0
def xsAt (X : List (List Int)) (b : Nat) : List Int := X.getD b []
def reoK (c : Code) (X : List (List Int)) (b : Nat) : Block := (reoL (blkAt c b).1 (xsAt X b), (blkAt c b).2)
def reoN (c : Code) (X : List (List Int)) (n : Nat) : List Block := (List.range (cB c).length).map fun b => if b < n then reoK c X b else blkAt c b
def reoC (c : Code) (X : List (List Int)) : Code := setB c (reoN c X (cB c).length)
def reoM (c : Code) (X : List (List Int)) (n k : Nat) : List Block := (reoN c X n).set n (reoL (blkAt c n).1 ((xsAt X n).take k), (blkAt c n).2)
def rgtA (dep : Code -> Inst -> Inst -> Bool) (c : Code) (X : List (List Int)) : Bool := decide (X.length = (cB c).length) && (List.range (cB c).length).all fun b => rgtB (dep c) (blkAt c b).1 (xsAt X b)
def depQ (c : Code) (i j : Inst) : Bool := depP c j i
noncomputable def chkP (c d : Code) (X : List (List Int)) : Int := if (rgtA depQ c X && eqCode (reoC c X) d) = true then 0 else 100
def xsR (dep : Code -> Inst -> Inst -> Bool) (c : Code) (n : Nat) : List (List Int) := ((cB c).take n).map fun b => lstO (dep c) b.1
def runX (dep : Code -> Inst -> Inst -> Bool) (c : Code) : List (List Int) := (cB c).map fun b => lstO (dep c) b.1
def runC (dep : Code -> Inst -> Inst -> Bool) (c : Code) : Code := reoC c (runX dep c)
def canL (c : Code) (l : List Inst) (out : List Int) (n : Nat) : List Int := ((List.range n).filter fun i => rdyB (depR c) l out i).map fun (i : Nat) => (i : Int)
def choK (ch : List Int) (at0 : Nat) (can : List Int) : Int := if (at0 : Int) < (ch.length : Int) then Int.tmod (ch.getD at0 0) (can.length : Int) else 0
def somL (c : Code) (ch : List Int) (at0 : Nat) (l : List Inst) : Nat -> List Int
 | 0 => []
 | k + 1 => somL c ch at0 l k ++ [(canL c l (somL c ch at0 l k) l.length).getD (choK ch (at0 + k) (canL c l (somL c ch at0 l k) l.length)).toNat 0]
def lenTo (c : Code) : Nat -> Nat
 | 0 => 0
 | b + 1 => lenTo c b + (blkAt c b).1.length
def somX (c : Code) (ch : List Int) (n : Nat) : List (List Int) := (List.range n).map fun b => somL c ch (lenTo c b) (blkAt c b).1 (blkAt c b).1.length
def mskI (dep : Inst -> Inst -> Bool) (l : List Inst) (i : Nat) : List Bool := (List.range i).map fun j => dep (insAt l j) (insAt l i)
def mskL (dep : Inst -> Inst -> Bool) (l : List Inst) : List (List Bool) := (List.range l.length).map fun i => mskI dep l i
def doneL (out : List Int) (n : Nat) : List Bool := (List.range n).map fun (i : Nat) => mem out (i : Int)
def atL (x : List Int) (n k : Nat) : List Int := (List.range n).map fun (i : Nat) => if (i : Int) ∈ x.take k then (((x.take k).idxOf (i : Int) : Nat) : Int) else -1
end Sp
namespace Go.User
open Go.Lf
noncomputable section
def lOK (c : Sp.Code) (l : List Sp.Inst) : Prop := l.length <= 3000 /\ ∀ i ∈ l, instOK c i
def vOK (c : Sp.Code) : Prop := codeOK 3000 c /\ ∀ b ∈ Sp.cB c, ∀ i ∈ b.1, instOK c i
def S53 : FSpec := { args := [.val tCode, .val (.slice tInst), .val (.slice tI), .val tI], multi := false, res := .bool, mode := .shr, pre := fun x => lOK x.1 x.2.1 /\ 0 <= x.2.2.2.1 /\ x.2.2.2.1 < (List.length x.2.1 : Int), fn := fun x => Sp.rdyB (Sp.depR x.1) x.2.1 x.2.2.1 (Int.toNat x.2.2.2.1) }
def C53 : Ctx := mkC 34 [(38, S38), (15, S15)]
def L53 (x : kdens S53.args) : List LoopI := [{ ι := Nat, inv := fun i => i <= Int.toNat x.2.2.2.1 /\ ((List.range i).all fun i => Sp.mem x.2.2.1 (i : Int) || !Sp.depR x.1 (Sp.insAt x.2.1 i) (Sp.insAt x.2.1 (Int.toNat x.2.2.2.1))) = true, dec := fun i => Int.toNat x.2.2.2.1 - i, ovr := fun i => [(9, .shr tI (i : Int))], keep := [4, 1, 2, 3] }]
def S43 : FSpec := { args := [.val (.slice tInst), .val (.slice tI)], multi := false, res := .slice tInst, mode := .shr, pre := fun x => List.length x.2.1 <= 5000 /\ ∀ k ∈ (x.2.1 : List Int), 0 <= k /\ k < (List.length x.1 : Int), fn := fun x => Sp.reoL x.1 x.2.1 }
def C43 : Ctx := mkC 27 []
def L43 (x : kdens S43.args) : List LoopI := [{ ι := Nat, inv := fun i => i <= List.length x.2.1, dec := fun i => List.length x.2.1 - i, ovr := fun i => [(13, .shr tI (i : Int)), (12, .shr tI (List.length x.2.1 : Int)), (5, .own (.slice tInst) (.own .shr) (Sp.reoL x.1 (List.take i x.2.1) ++ List.replicate (List.length x.2.1 - i) Sp.inst0))], keep := [11, 0, 1] }]
def orOK (c : Sp.Code) (X : List (List Int)) : Prop := ∀ b, b < (Sp.cB c).length -> b < X.length /\ (Sp.xsAt X b).length <= 3000 /\ ∀ k ∈ Sp.xsAt X b, 0 <= k /\ k < ((Sp.blkAt c b).1.length : Int)
def S23 : FSpec := { args := [.val tCode, .val tOrd], multi := false, res := tCode, mode := .shr, pre := fun x => codeOK 3000 x.1 /\ orOK x.1 x.2.1.1, fn := fun x => Sp.reoC x.1 x.2.1.1 }
def C23 : Ctx := { mkC 63 [(20, S20)] with mds := [(4, .shr), (5, mCp)], fzs := [5] }
def L23 (x : kdens S23.args) : List LoopI := [
 {ι := Nat, inv := fun b => b <= (Sp.cB x.1).length, dec := fun b => (Sp.cB x.1).length - b, ovr := fun b => [(5, .box tCode mCp (Sp.setB x.1 (Sp.reoN x.1 x.2.1.1 b))), (6, .shr tI (b : Int))], keep := [2, 3, 4], sub := fun b => [{ ι := Nat, inv := fun k => k <= (Sp.xsAt x.2.1.1 b).length, dec := fun k => (Sp.xsAt x.2.1.1 b).length - k, ovr := fun k => [(5, .box tCode mCp (Sp.setB x.1 (Sp.reoM x.1 x.2.1.1 b k))), (7, .shr tI (k : Int))], keep := [2, 3, 4, 6] }] }]
def S22 : FSpec := { args := [.val tCode, .val (.slice tU8)], multi := false, res := tOrd, mode := .shr, pre := fun x => vOK x.1, fn := fun x => (Sp.somX x.1 x.2.1 (Sp.cB x.1).length, ()) }
def C22 : Ctx := { mkC 77 [(53, S53)] with mds := [(4, .shr), (5, .pair (.own .shr) .shr)], fz1 := [9], fzs := [5] }
def L22 (x : kdens S22.args) : List LoopI := [
 {ι := Nat, inv := fun b => b <= (Sp.cB x.1).length, dec := fun b => (Sp.cB x.1).length - b, ovr := fun b => [(5, .box tOrd (.pair (.own .shr) .shr) (Sp.somX x.1 x.2.1 b, ())), (6, .shr tI (Sp.lenTo x.1 b : Int)), (7, .shr tI (b : Int))], keep := [2, 1, 4], sub := fun b => [{ ι := Nat, inv := fun k => k <= (Sp.blkAt x.1 b).1.length, dec := fun k => (Sp.blkAt x.1 b).1.length - k, ovr := fun k => [(6, .shr tI ((Sp.lenTo x.1 b + k : Nat) : Int)), (9, .own (.slice tI) (.own .shr) (Sp.somL x.1 x.2.1 (Sp.lenTo x.1 b) (Sp.blkAt x.1 b).1 k))], keep := [2, 1, 4, 5, 7, 8], sub := fun k => [{ ι := Nat, inv := fun n => n <= (Sp.blkAt x.1 b).1.length, dec := fun n => (Sp.blkAt x.1 b).1.length - n, ovr := fun n => [(10, .own (.slice tI) (.own .shr) (Sp.canL x.1 (Sp.blkAt x.1 b).1 (Sp.somL x.1 x.2.1 (Sp.lenTo x.1 b) (Sp.blkAt x.1 b).1 k) n)), (11, .shr tI (n : Int))], keep := [2, 1, 4, 5, 6, 7, 8, 9] }] }] }]
def S65 : FSpec := { args := [.val tCode, .val (.slice tInst)], multi := false, res := .slice (.slice .bool), mode := .shr, pre := fun x => lOK x.1 x.2.1, fn := fun x => Sp.mskL (Sp.depP x.1) x.2.1 }
def S59 : FSpec := { args := [.val tCode, .val (.slice tInst)], multi := false, res := .slice tI, mode := .shr, pre := fun x => lOK x.1 x.2.1, fn := fun x => Sp.lstO (Sp.depP x.1) x.2.1 }
def C59 : Ctx := mkC 70 [(65, S65)]
def T59 (x : kdens S59.args) : KT :=
 let f := Sp.stpO (Sp.depP x.1) x.2.1
 let n := List.length x.2.1
 .s (.i []) (.s (.i []) (.s (.i []) (.s (.i []) (.s (.b (.l
  {ι := Nat, inv := fun k => k <= n, dec := fun k => n - k, ovr := fun k => [(7, .own (.slice tI) (.own .shr) (Sp.ordN f k)), (6, .own (.slice .bool) (.own .shr) (Sp.doneL (Sp.ordN f k) n))], keep := [1, 5, 2] }
  (fun k =>
   let rdy := Sp.rdyB (Sp.depP x.1) x.2.1 (Sp.ordN f k)
   .s (.i []) (.b (.o (.s (.i []) (.s .m (.c
    {ι := Unit, inv := fun _ => True, dec := fun _ => 0, ovr := fun _ => [(8, .shr tI (f (Sp.ordN f k)))], keep := [1, 2, 5, 6, 7] }
    (.i [{ ι := Nat, inv := fun i => i <= n /\ ∀ k, k < i -> ¬(rdy k = true /\ Sp.ldB x.2.1 k = true), dec := fun i => n - i, ovr := fun i => [(25, .shr tI (i : Int)), (24, .shr tI (n : Int)), (8, .shr tI (Sp.nxS rdy (Sp.ldB x.2.1) i))], keep := [1, 2, 5, 6, 7], sub := fun i => [{ ι := Nat, inv := fun j => j <= i /\ ((List.range j).all fun j => Sp.mem (Sp.ordN f k) (j : Int) || !Sp.depP x.1 (Sp.insAt x.2.1 j) (Sp.insAt x.2.1 i)) = true, dec := fun j => i - j, ovr := fun j => [(37, .shr tI (j : Int)), (36, .shr tI (i : Int))], keep := [1, 2, 5, 6, 7, 8, 9, 24, 25, 35] }] }])
    (fun _ => .i []))))))))) (.i [])))))
def S41 : FSpec := { args := [.val tCode, .val (.slice tInst), .val (.slice tI)], multi := false, res := .bool, mode := .shr, pre := fun x => lOK x.1 x.2.1, fn := fun x => Sp.rgtB (Sp.depQ x.1) x.2.1 x.2.2.1 }
def C41 : Ctx := mkC 89 [(65, S65)]
def perOK (x : List Int) (n : Nat) : Prop := x.Nodup /\ ∀ k ∈ x, 0 <= k /\ k < (n : Int)
def L41 (x : kdens S41.args) : List LoopI := [
 {ι := Nat, inv := fun k => k <= List.length x.2.1, dec := fun k => List.length x.2.1 - k, ovr := fun k => [(20, .shr tI (k : Int)), (19, .shr tI (List.length x.2.1 : Int)), (7, .own (.slice tI) (.own .shr) (List.replicate k (-1 : Int) ++ List.replicate (List.length x.2.1 - k) (0 : Int)))], keep := [3, 1, 2] },
 {ι := Nat, inv := fun k => k <= List.length x.2.2.1 /\ perOK (List.take k x.2.2.1) (List.length x.2.1), dec := fun k => List.length x.2.2.1 - k, ovr := fun k => [(29, .shr tI (k : Int)), (28, .shr tI (List.length x.2.2.1 : Int)), (7, .own (.slice tI) (.own .shr) (Sp.atL x.2.2.1 (List.length x.2.1) k))], keep := [27, 3, 1, 2] },
 {ι := Nat, inv := fun i => i <= List.length x.2.1 /\ ∀ k, k < i -> ∀ j, j < k -> Sp.depP x.1 (Sp.insAt x.2.1 j) (Sp.insAt x.2.1 k) = true -> Sp.xAt (Sp.atL x.2.2.1 (List.length x.2.1) (List.length x.2.2.1)) j <= Sp.xAt (Sp.atL x.2.2.1 (List.length x.2.1) (List.length x.2.2.1)) k, dec := fun i => List.length x.2.1 - i, ovr := fun i => [(63, .shr tI (i : Int)), (62, .shr tI (List.length x.2.1 : Int))], keep := [61, 7, 3, 1, 2], sub := fun i => [{ ι := Nat, inv := fun j => j <= i /\ ∀ k, k < j -> Sp.depP x.1 (Sp.insAt x.2.1 k) (Sp.insAt x.2.1 i) = true -> Sp.xAt (Sp.atL x.2.2.1 (List.length x.2.1) (List.length x.2.2.1)) k <= Sp.xAt (Sp.atL x.2.2.1 (List.length x.2.1) (List.length x.2.2.1)) i, dec := fun j => i - j, ovr := fun j => [(70, .shr tI (j : Int)), (69, .shr tI (i : Int))], keep := [68, 61, 62, 63, 7, 11, 12, 3, 1, 2] }] }]
abbrev mRun : Md := .pair .shr (.pair .shr (.pair .shr (.pair .shr (.pair .shr (.pair (.own .shr) (.pair (.own .shr) (.pair (.own .shr) .shr)))))))
def S28 : FSpec := { args := [.val tCode], multi := true, res := .prod tCode (.prod tOrd .unit), mode := .shr, pre := fun x => vOK x.1, fn := fun x => (Sp.runC Sp.depP x.1, (Sp.runX Sp.depP x.1, ()), ()) }
def C28 : Ctx := { mkC 57 [(56, S56), (57, S57), (58, S58), (59, S59), (43, S43)] with mds := [(2, .shr), (3, .shr), (4, .pair (.own .shr) .shr), (5, mRun)], fzs := [4, 5] }
def L28 (x : kdens S28.args) : List LoopI := [{ ι := Nat, inv := fun b => b <= (Sp.cB x.1).length, dec := fun b => (Sp.cB x.1).length - b, ovr := fun b => [(24, .shr tI (b : Int)), (23, .shr tI ((Sp.cB x.1).length : Int)), (4, .box tOrd (.pair (.own .shr) .shr) (Sp.xsR Sp.depP x.1 b, ())), (5, .box tCode mRun (Sp.setB x.1 (Sp.reoN x.1 (Sp.runX Sp.depP x.1) b)))], keep := [1, 2, 3] }]
def S18 : FSpec := { args := [.val tCode, .val tCode, .val tOrd], multi := false, res := tI, mode := .shr, pre := fun x => vOK x.1, fn := fun x => Sp.chkP x.1 x.2.1 x.2.2.1.1 }
def C18 : Ctx := mkC 131 [(39, S39), (40, S40), (41, S41), (42, S42), (43, S43)]
def L18 (x : kdens S18.args) : List LoopI := [{ ι := Nat, inv := fun b => b <= (Sp.cB x.1).length /\ Sp.headB x.1 x.2.1 = true /\ (Sp.cB x.2.1).length = (Sp.cB x.1).length /\ List.length x.2.2.1.1 = (Sp.cB x.1).length /\ ∀ k, k < b -> Sp.rgtB (Sp.depQ x.1) (Sp.blkAt x.1 k).1 (Sp.xsAt x.2.2.1.1 k) = true /\ Sp.reoK x.1 x.2.2.1.1 k = Sp.blkAt x.2.1 k, dec := fun b => (Sp.cB x.1).length - b, ovr := fun b => [(80, .shr tI (b : Int)), (79, .shr tI ((Sp.cB x.1).length : Int))], keep := [3, 4, 5] }]
end
end Go.User
