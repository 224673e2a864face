/- Written by gen.py: what is left to show of each function. Plain facts about lists, places, numbers: free of any seat. The machine of views, its reference: the small functions compute what they should. The reference of the machine of views: comparisons and lists of outcomes are as they should be. The machine of views, its reference: aE, steps: what is computed. The machine of views, its reference: plain facts about aE and steps. Calls of functions that are known at a nil slice and a number alone. The library's Concat and Repeat: what they compute. Written by gen.py: what is left to show of each function. Concat is as it should be. Written by gen.py: what is left to show of each function. -/
import Derived.Test.YthhclebbpbkgdaaLfh
set_option linter.unusedVariables false
set_option linter.unusedSimpArgs false
namespace Go.User
open Go.Proofs Go.Lf
set_option maxRecDepth 100000
theorem vc83 : (bV C83 (stpS C83) S83 L83 Try.f83) = (
let q0 : Prop := (True /\ True) /\ True;
∀ (x : List Int × Unit),
 let q1 : Nat := x.1.length;
 q1 <= (1000000 : Nat) -> aD tI.slice x.1 /\ True -> q0 /\ ((True /\ True /\ True) /\ True) /\ (x.1 = ([] : List tI.den) -> q0 /\ ([] : List tI.den) = x.1) /\ (True -> ((True /\ True /\ (↑((0 : Nat) + q1) : Int) <= aN /\ True) /\ True /\ True) /\ x.1 = x.1)) := by kernel_rfl
theorem vc86 : (bV C86 (stpS C86) S86 L86 Try.f86) = (
let q0 : Prop := (True /\ True) /\ True;
∀ (x : List (List Int) × Unit),
 let q1 : Nat := x.1.length;
 q1 <= (1000000 : Nat) -> aD tV3.slice x.1 /\ True -> q0 /\ ((True /\ True /\ True) /\ True) /\ (x.1 = ([] : List tV3.den) -> q0 /\ ([] : List tV3.den) = x.1) /\ (True -> ((True /\ True /\ (↑((0 : Nat) + q1) : Int) <= aN /\ True) /\ True /\ True) /\ x.1 = x.1)) := by kernel_rfl
theorem vc98 : (bV C98 (stpS C98) S98 L98 Try.f98) = (
let q0 : Prop := True /\ True /\ True;
∀ (x : Sp.Msg × Int × Unit), True -> aD tMsg x.1 /\ aD tI x.2.1 /\ True -> (q0 /\ True) /\ ((True /\ True /\ True /\ q0) /\ True) /\ (x.1.1 == x.2.1) = decide (x.1.1 = x.2.1)) := by kernel_rfl
theorem vc97 : (bV C97 (stpS C97) S97 L97 Try.f97) = (
let q0 : List Ty := tMsg :: ([] : List Ty);
let q1 : Prop := (True /\ True) /\ True;
let q2 : Prop := True /\ True /\ True;
let q3 : Int := (0 : Int);
let q4 : Prop := q0 = q0;
let q5 : Prop := q2 /\ True;
let q6 : Int := (1 : Int);
∀ (x : List Sp.Msg × Fun q0 Ty.bool × Unit),
 let q7 : Nat := x.1.length;
 let q8 : Int := (↑q7 : Int);
 let q9 : Prop := x.1 = x.1 /\ (∃ (h1 : q4), ∃ (h2 : Ty.bool = Ty.bool), x.2.1 = x.2.1) /\ q8 = q8 /\ True;
 let q10 : Int := Sp.findM (fun (e : Sp.Msg) => x.2.1.2 (e, ())) x.1;
 (∀ (e : Sp.Msg), x.2.1.1 (e, ())) ->
 aD tMsg.slice x.1 /\ True ->
 q1 /\
 ((True /\ q2) /\ True) /\
 (∃ (x_1 : Nat), (x_1 <= q7 /\ ∀ (e : Sp.Msg), e ∈ List.take x_1 x.1 -> x.2.1.2 (e, ()) = false) /\ q3 = (↑x_1 : Int) /\ q9) /\
 ∀ (x_1 : Nat),
 let q11 : Bool := decide ((↑x_1 : Int) < q8);
 let q12 : Sp.Msg × Unit := (x.1.getD (↑x_1 : Int).toNat (q3, q3, false, ()), ());
 let q13 : Bool := x.2.1.2 q12;
 let q14 : Int := (↑x_1 : Int) + q6;
 (x_1 <= q7 /\ ∀ (e : Sp.Msg), e ∈ List.take x_1 x.1 -> x.2.1.2 (e, ()) = false) -> aD tI (↑x_1 : Int) /\ True -> q1 /\ (q11 = true -> q5 /\ ((True /\ True /\ True /\ inN (↑x_1 : Int) q7 /\ True /\ x.2.1.1 q12 /\ True) /\ True) /\ (q13 = true -> q5 /\ (↑x_1 : Int) = q10) /\ (q13 = false -> ((inK IntKind.i64 q14 /\ True /\ True) /\ True) /\ ∃ (y : Nat), (y <= q7 /\ ∀ (e : Sp.Msg), e ∈ List.take y x.1 -> x.2.1.2 (e, ()) = false) /\ q7 - y < q7 - x_1 /\ q14 = (↑y : Int) /\ q9)) /\ (q11 = false -> q1 /\ -q6 = q10)) := by kernel_rfl
theorem vc84 : (bV C84 (stpS C84) S84 L84 Try.f84) = (
∀ (x : List Sp.Msg × Int × Unit), True -> aD tMsg.slice x.1 /\ aD tI x.2.1 /\ True -> ((True /\ True /\ True) /\ True) /\ ((True /\ True) /\ True /\ (∀ (e : Sp.Msg), True) /\ True /\ True) /\ Sp.findM (fun (e : Sp.Msg) => decide (e.1 = x.2.1)) x.1 = Sp.plc x.1 x.2.1) := by kernel_rfl
theorem vc75 : (bV C75 (stpS C75) S75 L75 Try.f75) = (
let q0 : Prop := True /\ True /\ True;
let q1 : Prop := q0 /\ True;
let q2 : Int := (0 : Int);
let q3 : Int := (3 : Int);
let q4 : Int := (2 : Int);
let q5 : Int := (100 : Int);
∀ (x : Sp.LOp × Unit),
 let q6 : Bool := x.1.1 == (1 : Int);
 let q7 : Bool := decide (q2 <= x.1.2.1);
 let q8 : Prop := (true && bif q7 then true else false) = true -> True;
 let q9 : Bool := bif q7 then decide (x.1.2.1 < q3) else false;
 let q10 : Prop := (true && bif q9 then true else false) = true -> True;
 let q11 : Bool := x.1.1 == q4;
 let q12 : Prop := q11 = true;
 let q13 : Bool := bif q9 then decide (-q5 <= x.1.2.2.1) else false;
 let q14 : Prop := (true && bif q13 then true else false) = true -> True;
 let q15 : Prop := ((True /\ True /\ True /\ True /\ q8 /\ q8 /\ q8 /\ True /\ True /\ q10 /\ q10 /\ q10 /\ True /\ True /\ q14 /\ q14 /\ q14 /\ q0) /\ True) /\ (bif q13 then decide (x.1.2.2.1 <= q5) else false) = Sp.usual x.1;
 let q16 : Prop := q11 = false;
 let q17 : Prop := ((True /\ True /\ q0) /\ True) /\ (decide (x.1.1 = (4 : Int)) && (decide (x.1.2.1 = q2) && (decide (x.1.2.2.1 = q2) && true))) = Sp.usual x.1;
 let q18 : Bool := x.1.1 == q3;
 True -> aD a9 x.1 /\ True -> q1 /\ q1 /\ q1 /\ (q6 = true -> ((True /\ True /\ True /\ True /\ q8 /\ q8 /\ q8 /\ True /\ True /\ q10 /\ q10 /\ q10 /\ q0) /\ True) /\ (bif q9 then x.1.2.2.1 == q2 else false) = Sp.usual x.1) /\ (q6 = false -> q1 /\ (q12 -> (q12 -> q15) /\ (q16 -> q17)) /\ (q16 -> q1 /\ (q18 = true -> q15) /\ (q18 = false -> q17)))) := by kernel_rfl
theorem vc76 : (bV C76 (stpS C76) S76 L76 Try.f76) = (
let q0 : Nat × List Int := ((75 : Go.FuncId), ([] : List Int));
let q1 : Prop := True /\ True /\ True;
∀ (x : Sp.LOp × Option (Nat × List Int) × Unit),
 let q2 : Bool := !Sp.usual x.1;
 x.2.1 = Option.some q0 -> aD a9 x.1 /\ aD (Ty.abs Abs.clo) x.2.1 /\ True -> (q1 /\ True) /\ ((True /\ True /\ (x.2.1.isSome = true /\ Option.rec ((0 : Go.FuncId), ([] : List Int)) (fun (val : Go.FuncId × List Int) => (fun (x : Go.FuncId × List Int) => x) val) x.2.1 = q0) /\ q1) /\ True) /\ q2 = q2) := by kernel_rfl
theorem vc94 : (bV C94 (stpS C94) S94 L94 Try.f94) = (
let q0 : List Ty := a9 :: ([] : List Ty);
let q1 : Prop := (True /\ True) /\ True;
let q2 : Prop := True /\ True /\ True;
let q3 : Int := (0 : Int);
let q4 : Prop := q0 = q0;
let q5 : Prop := q2 /\ True;
let q6 : Int := (1 : Int);
∀ (x : List Sp.LOp × Fun q0 Ty.bool × Unit),
 let q7 : Nat := x.1.length;
 let q8 : Int := (↑q7 : Int);
 let q9 : Prop := x.1 = x.1 /\ (∃ (h1 : q4), ∃ (h2 : Ty.bool = Ty.bool), x.2.1 = x.2.1) /\ q8 = q8 /\ True;
 let q10 : Int := Sp.findO (fun (e : Sp.LOp) => x.2.1.2 (e, ())) x.1;
 (∀ (e : Sp.LOp), x.2.1.1 (e, ())) ->
 aD a9.slice x.1 /\ True ->
 q1 /\
 ((True /\ q2) /\ True) /\
 (∃ (x_1 : Nat), (x_1 <= q7 /\ ∀ (e : Sp.LOp), e ∈ List.take x_1 x.1 -> x.2.1.2 (e, ()) = false) /\ q3 = (↑x_1 : Int) /\ q9) /\
 ∀ (x_1 : Nat),
 let q11 : Bool := decide ((↑x_1 : Int) < q8);
 let q12 : Sp.LOp × Unit := (x.1.getD (↑x_1 : Int).toNat (q3, q3, q3, ()), ());
 let q13 : Bool := x.2.1.2 q12;
 let q14 : Int := (↑x_1 : Int) + q6;
 (x_1 <= q7 /\ ∀ (e : Sp.LOp), e ∈ List.take x_1 x.1 -> x.2.1.2 (e, ()) = false) -> aD tI (↑x_1 : Int) /\ True -> q1 /\ (q11 = true -> q5 /\ ((True /\ True /\ True /\ inN (↑x_1 : Int) q7 /\ True /\ x.2.1.1 q12 /\ True) /\ True) /\ (q13 = true -> q5 /\ (↑x_1 : Int) = q10) /\ (q13 = false -> ((inK IntKind.i64 q14 /\ True /\ True) /\ True) /\ ∃ (y : Nat), (y <= q7 /\ ∀ (e : Sp.LOp), e ∈ List.take y x.1 -> x.2.1.2 (e, ()) = false) /\ q7 - y < q7 - x_1 /\ q14 = (↑y : Int) /\ q9)) /\ (q11 = false -> q1 /\ -q6 = q10)) := by kernel_rfl
theorem vc77 : (bV C77 (stpS C77) S77 L77 Try.f77) = (
∀ (x : List Sp.LOp × Fun (a9 :: ([] : List Ty)) Ty.bool × Unit),
 let q0 : Prop := ∀ (e : Sp.LOp), x.2.1.1 (e, ());
 q0 -> aD a9.slice x.1 /\ True -> ((True /\ True) /\ True) /\ ((True /\ True /\ q0 /\ True /\ True /\ True) /\ True) /\ decide (Sp.findO (fun (e : Sp.LOp) => x.2.1.2 (e, ())) x.1 ≥ (0 : Int)) = x.1.any fun (e : a9.den) => x.2.1.2 (e, ())) := by kernel_rfl
theorem vc100 : (bV C100 (stpS C100) S100 L100 Try.f100) = (
∀ (x : Int × Unit), True -> aD tI x.1 /\ True -> ((True /\ True) /\ True) /\ ((True /\ True /\ True /\ True /\ True) /\ True) /\ (x.1 != x.1) = false) := by kernel_rfl
theorem vc91 : (bV C91 (stpS C91) S91 L91 Try.f91) = (
let q0 : Prop := (True /\ True) /\ True;
let q1 : Prop := (True /\ True /\ True /\ True) /\ True;
let q2 : Prop := false = true;
let q3 : Int := (0 : Int);
let q4 : Prop := false = false;
let q5 : Int := (1 : Int);
let q6 : Int := -q5;
∀ (x : Int × Int × Unit),
 let q7 : Int := Sp.cmp3 x.1 x.2.1;
 let q8 : Prop := q0 /\ q3 = q7;
 let q9 : Prop := q0 /\ q6 = q7;
 let q10 : Prop := q0 /\ q5 = q7;
 let q11 : Bool := decide (x.1 < x.2.1);
 let q12 : Bool := decide (x.1 > x.2.1);
 True -> aD tI x.1 /\ aD tI x.2.1 /\ True -> q0 /\ q1 /\ q1 /\ q0 /\ (q2 -> q0 /\ (q2 -> q8) /\ (q4 -> q9)) /\ (q4 -> q0 /\ (q2 -> q10) /\ (q4 -> q1 /\ (q11 = true -> q9) /\ (q11 = false -> q1 /\ (q12 = true -> q10) /\ (q12 = false -> q8))))) := by kernel_rfl
theorem vc70 : (bV C70 (stpS C70) S70 L70 Try.f70) = (
let q0 : Prop := (True /\ True) /\ True;
let q1 : Prop := True /\ True /\ True;
let q2 : Prop := True /\ q1;
let q3 : Int := (0 : Int);
let q4 : Prop := True /\ q2;
let q5 : Prop := q4 /\ True;
let q6 : Int := (1 : Int);
let q7 : Prop := q1 /\ True;
∀ (x : Sp.Out),
 let q8 : Nat := x.1.length;
 let q9 : Nat := x.2.1.length;
 let q10 : Int := Sp.cmpI x.1 x.2.1;
 let q11 : Prop := x.1 = x.1;
 let q12 : Int := (↑q8 : Int);
 let q13 : Prop := q11 /\ x.2.1 = x.2.1 /\ q11 /\ q12 = q12 /\ True;
 let q14 : Int := (↑q9 : Int);
 let q15 : Bool := decide (q12 < q14);
 True ->
 aD tI.slice x.1 /\ aD tI.slice x.2.1 /\ True ->
 q0 /\
 (q2 /\ True) /\
 (∃ (x_1 : Nat), (x_1 <= q8 /\ x_1 <= q9 /\ Sp.cmpI (List.drop x_1 x.1) (List.drop x_1 x.2.1) = q10) /\ q3 = (↑x_1 : Int) /\ q13) /\
 ∀ (x_1 : Nat),
 let q16 : Bool := decide ((↑x_1 : Int) < q12);
 let q17 : Bool := decide ((↑x_1 : Int) ≥ q14);
 let q18 : Nat := (↑x_1 : Int).toNat;
 let q19 : Int := Sp.cmp3 (x.1.getD q18 q3) (x.2.1.getD q18 q3);
 let q20 : Bool := q19 != q3;
 let q21 : Int := (↑x_1 : Int) + q6;
 x_1 <= q8 /\ x_1 <= q9 /\ Sp.cmpI (List.drop x_1 x.1) (List.drop x_1 x.2.1) = q10 -> aD tI (↑x_1 : Int) /\ True -> q0 /\ (q16 = true -> ((True /\ inN (↑x_1 : Int) q8 /\ q2) /\ True) /\ q5 /\ (q17 = true -> q0 /\ q6 = q10) /\ (q17 = false -> ((True /\ True /\ inN (↑x_1 : Int) q9 /\ q1) /\ True) /\ q5 /\ q7 /\ (q20 = true -> q7 /\ q19 = q10) /\ (q20 = false -> ((inK IntKind.i64 q21 /\ True /\ True) /\ True) /\ ∃ (y : Nat), (y <= q8 /\ y <= q9 /\ Sp.cmpI (List.drop y x.1) (List.drop y x.2.1) = q10) /\ q8 - y < q8 - x_1 /\ q21 = (↑y : Int) /\ q13))) /\ (q16 = false -> ((True /\ q4) /\ True) /\ (q15 = true -> q0 /\ -q6 = q10) /\ (q15 = false -> q0 /\ q3 = q10))) := by kernel_rfl
theorem vc69 : (bV C69 (stpS C69) S69 L69 Try.f69) = (
let q0 : Prop := (True /\ True) /\ True;
let q1 : Prop := True /\ True /\ True;
let q2 : Prop := (True /\ q1) /\ True;
let q3 : Int := (0 : Int);
let q4 : Prop := q3 = q3;
let q5 : Prop := q1 /\ True;
let q6 : Int := (1 : Int);
∀ (x : List Int × Unit),
 let q7 : Nat := x.1.length;
 let q8 : Prop := x.1 = x.1;
 let q9 : Int := (↑q7 : Int);
 let q10 : Prop := q8 /\ q4 /\ q8 /\ q9 = q9 /\ True;
 True ->
 aD tI.slice x.1 /\ True ->
 q0 /\
 q0 /\
 q2 /\
 (∃ (x_1 : Nat), (x_1 <= q7 /\ Sp.orI (List.drop x_1 x.1) = Sp.orI x.1) /\ q3 = (↑x_1 : Int) /\ q10) /\
 ∀ (x_1 : Nat),
 let q11 : Bool := decide ((↑x_1 : Int) < q9);
 let q12 : Int := x.1.getD (↑x_1 : Int).toNat q3;
 let q13 : Bool := q12 != q3;
 let q14 : Int := (↑x_1 : Int) + q6;
 x_1 <= q7 /\ Sp.orI (List.drop x_1 x.1) = Sp.orI x.1 -> aD tI (↑x_1 : Int) /\ True -> q0 /\ (q11 = true -> ((inN (↑x_1 : Int) q7 /\ q1) /\ True) /\ q2 /\ (q13 = true -> q5 /\ q12 = Sp.orI x.1) /\ (q13 = false -> ((inK IntKind.i64 q14 /\ True /\ True) /\ True) /\ ∃ (y : Nat), (y <= q7 /\ Sp.orI (List.drop y x.1) = Sp.orI x.1) /\ q7 - y < q7 - x_1 /\ q14 = (↑y : Int) /\ q10)) /\ (q11 = false -> q5 /\ q3 = Sp.orI x.1)) := by kernel_rfl
theorem vc68 : (bV C68 (stpS C68) S68 L68 Try.f68) = (
let q0 : Prop := True /\ True /\ True /\ True;
∀ (x : Sp.Out × Sp.Out × Unit), True -> aD bO x.1 /\ aD bO x.2.1 /\ True -> (q0 /\ True) /\ ((True /\ True /\ True /\ True /\ True /\ True /\ True /\ True /\ True /\ True /\ q0) /\ True) /\ Sp.orI (Sp.cmpI x.1.1 x.2.1.1 :: Sp.cmpI x.1.2.1 x.2.1.2.1 :: ([] : List tI.den)) = Sp.cmpO x.1 x.2.1) := by kernel_rfl
theorem vc73 : (bV C73 (stpS C73) S73 L73 Try.f73) = (
let q0 : Nat × List Int := ((68 : Go.FuncId), ([] : List Int));
let q1 : Prop := True /\ True /\ True;
let q2 : Prop := True /\ q1;
let q3 : Prop := q2 /\ True;
let q4 : Int := (0 : Int);
let q5 : Int := (1 : Int);
let q6 : Int := (2 : (Ty.int IntKind.u64).den) ^ shiftN IntKind.u64 q5;
let q7 : Nat × List Int := ((0 : Go.FuncId), ([] : List Int));
let q8 : Sp.Out := (([] : List tI.den), ([] : List tI.den), ());
∀ (x : List Sp.Out × Sp.Out × Option (Nat × List Int) × Unit),
 let q9 : Nat := x.1.length;
 let q10 : Int := (↑q9 : Int);
 let q11 : Prop := x.1 = x.1 /\ x.2.2.1 = x.2.2.1 /\ x.2.1 = x.2.1 /\ q10 = q10 /\ True;
 let q12 : Prop := x.2.2.1.isSome = true /\ Option.rec q7 (fun (val : Go.FuncId × List Int) => (fun (x : Go.FuncId × List Int) => x) val) x.2.2.1 = q0;
 x.2.2.1 = Option.some q0 /\ q9 <= (500000000 : Nat) /\ Sp.sortedO x.1 ->
 aD bO.slice x.1 /\ aD bO x.2.1 /\ aD (Ty.abs Abs.clo) x.2.2.1 /\ True ->
 q3 /\
 q3 /\
 q3 /\
 (∃ (x_1 : Nat × Nat), (x_1.1 <= x_1.2 /\ x_1.2 <= q9 /\ (∀ (k : Nat), k < x_1.1 -> Sp.cmpO (x.1.getD k Sp.out0) x.2.1 < q4) /\ ∀ (k : Nat), x_1.2 <= k -> k < q9 -> ¬Sp.cmpO (x.1.getD k Sp.out0) x.2.1 < q4) /\ q4 = (↑x_1.1 : Int) /\ q10 = (↑x_1.2 : Int) /\ q11) /\
 ∀ (x_1 : Nat × Nat),
 let q13 : Int := (↑x_1.1 : Int);
 let q14 : Int := (↑x_1.2 : Int);
 let q15 : Bool := decide (q13 < q14);
 let q16 : Int := q13 + q14;
 let q17 : Int := IntKind.i64.wrap (IntKind.u64.wrap q16 / q6);
 let q18 : Bool := decide (Sp.cmpO (x.1.getD q17.toNat q8) x.2.1 < q4);
 let q19 : Int := q17 + q5;
 let q20 : Bool := decide (q13 < q10);
 let q21 : Prop := (true && bif q20 then true else false) = true;
 let q22 : Prop := q21 -> True;
 (x_1.1 <= x_1.2 /\ x_1.2 <= q9 /\ (∀ (k : Nat), k < x_1.1 -> Sp.cmpO (x.1.getD k Sp.out0) x.2.1 < q4) /\ ∀ (k : Nat), x_1.2 <= k -> k < q9 -> ¬Sp.cmpO (x.1.getD k Sp.out0) x.2.1 < q4) -> aD tI q13 /\ aD tI q14 /\ True -> q3 /\ (q15 = true -> ((True /\ True /\ inK IntKind.i64 q16 /\ True /\ q4 <= q5 /\ q1) /\ True) /\ ((True /\ True /\ True /\ inN q17 q9 /\ True /\ True /\ q12 /\ True /\ True) /\ True) /\ (q18 = true -> ((True /\ inK IntKind.i64 q19 /\ True /\ True) /\ True) /\ ∃ (y : Nat × Nat), (y.1 <= y.2 /\ y.2 <= q9 /\ (∀ (k : Nat), k < y.1 -> Sp.cmpO (x.1.getD k Sp.out0) x.2.1 < q4) /\ ∀ (k : Nat), y.2 <= k -> k < q9 -> ¬Sp.cmpO (x.1.getD k Sp.out0) x.2.1 < q4) /\ y.2 - y.1 < x_1.2 - x_1.1 /\ q19 = (↑y.1 : Int) /\ q14 = (↑y.2 : Int) /\ q11) /\ (q18 = false -> (q1 /\ True) /\ ∃ (y : Nat × Nat), (y.1 <= y.2 /\ y.2 <= q9 /\ (∀ (k : Nat), k < y.1 -> Sp.cmpO (x.1.getD k Sp.out0) x.2.1 < q4) /\ ∀ (k : Nat), y.2 <= k -> k < q9 -> ¬Sp.cmpO (x.1.getD k Sp.out0) x.2.1 < q4) /\ y.2 - y.1 < x_1.2 - x_1.1 /\ q13 = (↑y.1 : Int) /\ q17 = (↑y.2 : Int) /\ q11)) /\ (q15 = false -> ((True /\ True /\ True /\ True /\ True /\ q22 /\ q22 /\ q22 /\ (q21 -> inN q13 q9) /\ q22 /\ q22 /\ (q21 -> q12) /\ q22 /\ q2) /\ True) /\ (q13, bif q20 then Sp.cmpO (x.1.getD q13.toNat q8) x.2.1 == q4 else false, ()) = ((↑(Sp.below x.1 x.2.1) : Int), Sp.foundO x.1 x.2.1, ()))) := by kernel_rfl
theorem vc80 : (bV C80 (stpS C80) S80 L80 Try.f80) = (
let q0 : Prop := (True /\ True) /\ True;
let q1 : Int := (0 : Int);
let q2 : Prop := True /\ True /\ True;
let q3 : Prop := True /\ True /\ q2;
let q4 : Int := (1 : Int);
∀ (x : List Sp.Msg × Int × Unit),
 let q5 : Nat := x.1.length;
 let q6 : Prop := x.1 = x.1 /\ x.2.1 = x.2.1 /\ True;
 let q7 : Int := Sp.plc x.1 x.2.1;
 True ->
 aD tMsg.slice x.1 /\ aD tI x.2.1 /\ True ->
 q0 /\
 q0 /\
 (∃ (x_1 : Nat), (x_1 <= q5 /\ ∀ (e : Sp.Msg), e ∈ List.take x_1 x.1 -> decide (e.1 = x.2.1) = false) /\ q1 = (↑x_1 : Int) /\ q6) /\
 ∀ (x_1 : Nat),
 let q8 : Bool := decide ((↑x_1 : Int) < (↑q5 : Int));
 let q9 : Bool := (x.1.getD (↑x_1 : Int).toNat (q1, q1, false, ())).1 == x.2.1;
 let q10 : Int := (↑x_1 : Int) + q4;
 (x_1 <= q5 /\ ∀ (e : Sp.Msg), e ∈ List.take x_1 x.1 -> decide (e.1 = x.2.1) = false) -> aD tI (↑x_1 : Int) /\ True -> (q3 /\ True) /\ (q8 = true -> ((True /\ True /\ inN (↑x_1 : Int) q5 /\ q3) /\ True) /\ (q9 = true -> (q2 /\ True) /\ (↑x_1 : Int) = q7) /\ (q9 = false -> ((True /\ inK IntKind.i64 q10 /\ True /\ True) /\ True) /\ ∃ (y : Nat), (y <= q5 /\ ∀ (e : Sp.Msg), e ∈ List.take y x.1 -> decide (e.1 = x.2.1) = false) /\ q5 - y < q5 - x_1 /\ q10 = (↑y : Int) /\ q6)) /\ (q8 = false -> q0 /\ -q4 = q7)) := by kernel_rfl
theorem vc18 : (bV C18 (stpS C18) S18 L18 Try.f18) = (
let q0 : Prop := True /\ True /\ True;
let q1 : Prop := q0 /\ True;
let q2 : Prop := (True /\ True) /\ True;
let q3 : Int := (0 : Int);
let q4 : Int := (1 : Int);
∀ (x : Sp.Lit × Unit),
 let q5 : Nat := x.1.1.length;
 let q6 : Prop := x.1 = x.1 /\ True;
 Sp.aB x.1.1 <= (1000000 : Nat) ->
 aD tLit x.1 /\ True ->
 q1 /\
 q2 /\
 q2 /\
 (∃ (x_1 : Nat), x_1 <= q5 /\ q3 = (↑x_1 : Int) /\ q3 = (↑(Sp.aB (List.take x_1 x.1.1)) : Int) /\ q6) /\
 ∀ (x_1 : Nat),
 let q7 : Int := (↑(Sp.aB (List.take x_1 x.1.1)) : Int);
 let q8 : Bool := decide ((↑x_1 : Int) < (↑q5 : Int));
 let q9 : Int := q7 + (↑(List.length (x.1.1.getD (↑x_1 : Int).toNat (([] : List a9.den)))) : Int);
 let q10 : Int := (↑x_1 : Int) + q4;
 x_1 <= q5 -> aD tI (↑x_1 : Int) /\ aD tI q7 /\ True -> ((True /\ True /\ True /\ q0) /\ True) /\ (q8 = true -> ((True /\ True /\ True /\ True /\ inN (↑x_1 : Int) q5 /\ True /\ True /\ inK IntKind.i64 q9 /\ True /\ True) /\ True) /\ ((True /\ inK IntKind.i64 q10 /\ True /\ True) /\ True) /\ ∃ (y : Nat), y <= q5 /\ q5 - y < q5 - x_1 /\ q10 = (↑y : Int) /\ q9 = (↑(Sp.aB (List.take y x.1.1)) : Int) /\ q6) /\ (q8 = false -> q1 /\ q7 = (↑(Sp.aB x.1.1) : Int))) := by kernel_rfl
theorem vc49 : (bV C49 (stpS C49) S49 L49 Try.f49) = (
let q0 : Prop := (True /\ True) /\ True;
let q1 : Int := (0 : Int);
let q2 : Prop := True /\ True /\ True;
let q3 : Int := (1 : Int);
∀ (x : Sp.Out),
 let q4 : Nat := x.1.length;
 let q5 : Nat := x.2.1.length;
 let q6 : Prop := x.1 = x.1 /\ x.2.1 = x.2.1 /\ True;
 let q7 : Int := (↑q4 : Int);
 let q8 : Int := (↑q5 : Int);
 let q9 : Int := Sp.cmpR x.1 x.2.1;
 let q10 : Int := q7 - q8;
 True ->
 aD tI.slice x.1 /\ aD tI.slice x.2.1 /\ True ->
 q0 /\
 q0 /\
 (∃ (x_1 : Nat), (x_1 <= q4 /\ x_1 <= q5 /\ List.take x_1 x.1 = List.take x_1 x.2.1) /\ q1 = (↑x_1 : Int) /\ q6) /\
 ∀ (x_1 : Nat),
 let q11 : Bool := decide ((↑x_1 : Int) < q7);
 let q12 : Prop := (true && bif q11 then true else false) = true -> True;
 let q13 : Bool := bif q11 then decide ((↑x_1 : Int) < q8) else false;
 let q14 : Prop := inN (↑x_1 : Int) q4;
 let q15 : Prop := inN (↑x_1 : Int) q5;
 let q16 : Nat := (↑x_1 : Int).toNat;
 let q17 : Int := x.1.getD q16 q1;
 let q18 : Int := x.2.1.getD q16 q1;
 let q19 : Bool := q17 != q18;
 let q20 : Int := (↑x_1 : Int) + q3;
 x_1 <= q4 /\ x_1 <= q5 /\ List.take x_1 x.1 = List.take x_1 x.2.1 -> aD tI (↑x_1 : Int) /\ True -> ((True /\ True /\ True /\ True /\ True /\ q12 /\ q12 /\ q12 /\ q12 /\ True /\ True) /\ True) /\ (q13 = true -> ((True /\ True /\ q14 /\ True /\ True /\ True /\ q15 /\ q2) /\ True) /\ (q19 = true -> ((True /\ True /\ q14 /\ True /\ True /\ True /\ q15 /\ True /\ q2) /\ True) /\ IntKind.i64.wrap (q17 - q18) = q9) /\ (q19 = false -> ((True /\ inK IntKind.i64 q20 /\ True /\ True) /\ True) /\ ∃ (y : Nat), (y <= q4 /\ y <= q5 /\ List.take y x.1 = List.take y x.2.1) /\ q4 - y < q4 - x_1 /\ q20 = (↑y : Int) /\ q6)) /\ (q13 = false -> ((True /\ True /\ True /\ True /\ inK IntKind.i64 q10 /\ True /\ True) /\ True) /\ q10 = q9)) := by kernel_rfl
theorem vc41 : (bV C41 (stpS C41) S41 L41 Try.f41) = (
∀ (x : Sp.Out),
 let q0 : Bool := (↑x.1.length : Int) == (↑x.2.1.length : Int);
 let q1 : Prop := (true && bif q0 then true else false) = true -> True;
 True -> aD tI.slice x.1 /\ aD tI.slice x.2.1 /\ True -> ((True /\ True) /\ True) /\ ((True /\ True /\ True /\ True /\ True /\ True /\ q1 /\ q1 /\ q1 /\ q1 /\ True /\ True /\ True) /\ True) /\ (bif q0 then Sp.cmpR x.1 x.2.1 == (0 : Int) else false) = Sp.sameI x.1 x.2.1) := by kernel_rfl
theorem vc38 : (bV C38 (stpS C38) S38 L38 Try.f38) = (
let q0 : Prop := (True /\ True) /\ True;
let q1 : Prop := True /\ True /\ True /\ True /\ True;
let q2 : Int := (1 : Int);
∀ (x : List Sp.Out × Int × Int × Unit),
 let q3 : Nat := x.1.length;
 let q4 : Prop := x.1 = x.1 /\ x.2.1 = x.2.1 /\ x.2.2.1 = x.2.2.1 /\ True;
 let q5 : Bool := Sp.rds x.1 x.2.1 x.2.2.1;
 True ->
 aD bO.slice x.1 /\ aD tI x.2.1 /\ aD tI x.2.2.1 /\ True ->
 q0 /\
 q0 /\
 (∃ (x_1 : Nat), (x_1 <= q3 /\ Sp.rds (List.take x_1 x.1) x.2.1 x.2.2.1 = false) /\ (0 : Int) = (↑x_1 : Int) /\ q4) /\
 ∀ (x_1 : Nat),
 let q6 : Bool := decide ((↑x_1 : Int) < (↑q3 : Int));
 let q7 : Bool := Sp.sameI (x.1.getD (↑x_1 : Int).toNat (([] : List tI.den), ([] : List tI.den), ())).1 (x.2.1 :: x.2.2.1 :: ([] : List tI.den));
 let q8 : Int := (↑x_1 : Int) + q2;
 x_1 <= q3 /\ Sp.rds (List.take x_1 x.1) x.2.1 x.2.2.1 = false -> aD tI (↑x_1 : Int) /\ True -> (q1 /\ True) /\ (q6 = true -> ((True /\ True /\ inN (↑x_1 : Int) q3 /\ True /\ True /\ q1) /\ True) /\ (q7 = true -> q0 /\ true = q5) /\ (q7 = false -> ((True /\ inK IntKind.i64 q8 /\ True /\ True) /\ True) /\ ∃ (y : Nat), (y <= q3 /\ Sp.rds (List.take y x.1) x.2.1 x.2.2.1 = false) /\ q3 - y < q3 - x_1 /\ q8 = (↑y : Int) /\ q4)) /\ (q6 = false -> q0 /\ false = q5)) := by kernel_rfl
end Go.User
namespace Pl
variable {α : Type}
theorem take_all {l : List α} {i : Nat} (h1 : i <= l.length) (h2 : (l.length : Int) <= (i : Int)) : l.take i = l := List.take_of_length_le (by omega)
theorem b8 {l : List α} {i : Nat} (h : i < l.length) (d : α) : l.getD i d = l[i] := by rw [List.getD_eq_getElem?_getD, List.getElem?_eq_getElem h]; rfl
theorem getD_out {l : List α} {i : Nat} (h : l.length <= i) (d : α) : l.getD i d = d := by rw [List.getD_eq_getElem?_getD, List.getElem?_eq_none h]; rfl
theorem bK {l : List α} {i : Nat} (h : i < l.length) (d : α) : l.getD i d ∈ l := by rw [b8 h]; exact List.getElem_mem _
theorem take_succ {l : List α} {i : Nat} (h : i < l.length) (d : α) : l.take (i + 1) = l.take i ++ [l.getD i d] := by rw [List.take_succ_eq_append_getElem h, b8 h]
theorem drop_cons {l : List α} {i : Nat} (h : i < l.length) (d : α) : l.drop i = l.getD i d :: l.drop (i + 1) := by rw [List.drop_eq_getElem_cons h, b8 h]
theorem find_at {l : List α} {p : α -> Bool} {i : Nat} {d : α} (h : ∀ e ∈ l.take i, p e = false) (hi : i < l.length) (hp : p (l.getD i d) = true) : l.findIdx? p = some i := by
 rw [b8 hi] at hp
 rw [List.findIdx?_eq_some_iff_getElem]
 refine ⟨hi, hp, fun j hj => ?_⟩
 have := h l[j] (List.mem_take_iff_getElem.2 ⟨j, by omega, rfl⟩)
 rw [this]; simp
theorem find_none {l : List α} {p : α -> Bool} (h : ∀ e ∈ l, p e = false) : l.findIdx? p = none := by
 rw [List.findIdx?_eq_none_iff]; exact h
theorem all_take_succ {l : List α} {p : α -> Prop} {i : Nat} {d : α} (h : ∀ e ∈ l.take i, p e) (hi : i < l.length) (hp : p (l.getD i d)) : ∀ e ∈ l.take (i + 1), p e := by
 intro e he
 rw [take_succ hi d] at he
 rcases List.mem_append.1 he with he | he
 ·exact h e he
 ·rw [List.mem_singleton.1 he]; exact hp
theorem take_eq_succ {a b : List α} {i : Nat} {d : α} (ha : i < a.length) (hb : i < b.length) (h : a.take i = b.take i) (he : a.getD i d = b.getD i d) : a.take (i + 1) = b.take (i + 1) := by
 rw [take_succ ha d, take_succ hb d, h, he]
theorem bY {l : List α} {n : Nat} {a d : α} (c : Nat) (h : n < l.length) : (l.set n a).getD c d = if c = n then a else l.getD c d := by
 rw [List.getD_eq_getElem?_getD, List.getElem?_set, List.getD_eq_getElem?_getD]
 by_cases e : n = c
 ·rw [if_pos e, if_pos e.symm, if_pos (e ▸ h)]; rfl
 ·rw [if_neg e, if_neg (fun h => e h.symm)]
theorem tw_le (p : α -> Bool) (l : List α) : (l.takeWhile p).length <= l.length := (List.takeWhile_sublist p).length_le
theorem tw_get {p : α -> Bool} : ∀ {l : List α} {k : Nat} {d : α}, k < (l.takeWhile p).length -> p (l.getD k d) = true
 | x :: l, k, d, h => by
  rw [List.takeWhile_cons] at h;split at h
  ·rename_i hx
   cases k with
   | zero => exact hx
   | succ k => exact tw_get (l := l) (by simpa using h)
  ·simp at h
theorem tw_stop {p : α -> Bool} : ∀ {l : List α} {d : α}, (l.takeWhile p).length < l.length -> p (l.getD (l.takeWhile p).length d) = false
 | x :: l, d, h => by
  rw [List.takeWhile_cons] at h ⊢;split
  ·rename_i hx
   rw [if_pos hx] at h;exact tw_stop (l := l) (by simpa using h)
  ·rename_i hx
   simpa using hx
theorem win_take {l : List α} {i : Nat} : Go.Lf.win 0 (i : Int) l = l.take i := by unfold Go.Lf.win; simp
theorem win_drop {l : List α} {i : Nat} : Go.Lf.win (i : Int) (l.length : Int) l = l.drop i := by unfold Go.Lf.win; simp
theorem countP_at {l : List α} {p : α -> Bool} {i : Nat} {d : α} (hi : i <= l.length) (h1 : ∀ k, k < i -> p (l.getD k d) = true) (h2 : ∀ k, i <= k -> k < l.length -> p (l.getD k d) = false) : l.countP p = i := by
 rw [<- List.take_append_drop i l, List.countP_append]
 have e1 : (l.take i).countP p = i := by
  have : (l.take i).countP p = (l.take i).length := by
   rw [List.countP_eq_length];intro a ha;obtain ⟨k, hk, rfl⟩ := List.mem_take_iff_getElem.1 ha;rw [<- b8 (by omega) d];exact h1 k (by omega)
  rw [this, List.length_take]; omega
 have e2 : (l.drop i).countP p = 0 := by
  rw [List.countP_eq_zero];intro a ha;obtain ⟨k, hk, rfl⟩ := List.getElem_of_mem ha;rw [List.getElem_drop];rw [List.length_drop] at hk;have := h2 (i + k) (by omega) (by omega);rw [b8 (by omega) d] at this;rw [this]; decide
 omega
theorem wrap_in {z : Int} (h0 : -1000000000 <= z) (h1 : z <= 1000000000) : Go.IntKind.wrap .i64 z = z := Go.Lf.inK_wrap (k := .i64) ⟨by show (-9223372036854775808 : Int) <= z; omega, by show z <= 9223372036854775807; omega⟩
end Pl
namespace Sp
theorem cmpI_cons (x y : Int) (a b : List Int) : cmpI (x :: a) (y :: b) = if cmp3 x y = 0 then cmpI a b else cmp3 x y := by
 show (if x < y then -1 else if y < x then 1 else cmpI a b) = _
 unfold cmp3
 by_cases h1 : x < y
 ·rw [if_pos h1, if_pos h1, if_neg (by decide)]
 ·rw [if_neg h1, if_neg h1]
  by_cases h2 : y < x
  ·rw [if_pos h2, if_pos h2, if_neg (by decide)]
  ·rw [if_neg h2, if_neg h2, if_pos rfl]
theorem wrap_zero {z : Int} (h : Go.IntKind.wrap .i64 z = 0) (h1 : -18446744073709551616 < z) (h2 : z < 18446744073709551616) : z = 0 := by
 rw [Go.IntKind.wrap_i64] at h
 omega
theorem cmpR_self : ∀ (a : List Int), cmpR a a = 0
 | [] => rfl
 | x :: a => by
  show (if x = x then cmpR a a else _) = 0
  rw [if_pos rfl]; exact cmpR_self a
theorem cmpR_zero : ∀ {a b : List Int}, a.length = b.length -> (∀ x ∈ a, Go.Lf.inK .i64 x) -> (∀ x ∈ b, Go.Lf.inK .i64 x) -> cmpR a b = 0 -> a = b
 | [], [], _, _, _, _ => rfl
 | x :: a, y :: b, h, ha, hb, hz => by
  have hz : (if x = y then cmpR a b else Go.IntKind.wrap .i64 (x - y)) = 0 := hz
  by_cases hxy : x = y
  ·rw [if_pos hxy] at hz
   rw [hxy, cmpR_zero (by simpa using h) (fun z hz => ha z (by simp [hz])) (fun z hz => hb z (by simp [hz])) hz]
  ·rw [if_neg hxy] at hz
   have h1 := (Go.Lf.inK_i64 x).1 (ha x (by simp))
   have h2 := (Go.Lf.inK_i64 y).1 (hb y (by simp))
   have := wrap_zero hz (by omega) (by omega)
   omega
theorem cmpR_take {a b : List Int} {i : Nat} (h1 : i < a.length) (h2 : i < b.length) (h : a.take i = b.take i) (hn : ¬ a.getD i 0 = b.getD i 0) : Go.IntKind.wrap .i64 (a.getD i 0 - b.getD i 0) = cmpR a b := by
 induction i generalizing a b with
 | zero =>
  match a, b, h1, h2 with
  | x :: a, y :: b, _, _ =>
   show _ = if x = y then cmpR a b else Go.IntKind.wrap .i64 (x - y)
   have hn : ¬ x = y := hn
   rw [if_neg hn]; rfl
 | succ i ih =>
  match a, b, h1, h2 with
  | x :: a, y :: b, h1, h2 =>
   simp only [List.take_succ_cons, List.cons.injEq] at h;show _ = if x = y then cmpR a b else Go.IntKind.wrap .i64 (x - y);rw [if_pos h.1];exact ih (by simpa using h1) (by simpa using h2) h.2 hn
theorem cmpR_end : ∀ {a b : List Int} {i : Nat}, i <= a.length -> i <= b.length -> (a.length <= i ∨ b.length <= i) -> a.take i = b.take i -> (a.length : Int) - (b.length : Int) = cmpR a b
 | [], b, i, _, _, _, _ => by cases b <;> rfl
 | x :: a, [], i, _, _, _, _ => rfl
 | x :: a, y :: b, 0, _, _, h, _ => by simp at h
 | x :: a, y :: b, i + 1, h1, h2, h3, h => by
  simp only [List.take_succ_cons, List.cons.injEq] at h;have ih := cmpR_end (a := a) (b := b) (i := i) (by simpa using h1) (by simpa using h2) (by simpa using h3) h.2;show _ = if x = y then cmpR a b else Go.IntKind.wrap .i64 (x - y);rw [if_pos h.1, <- ih, List.length_cons, List.length_cons];omega
theorem cmpI_trans : ∀ {a b c : List Int}, cmpI a b <= 0 -> cmpI b c <= 0 -> cmpI a c <= 0 /\ (cmpI a c = 0 -> cmpI a b = 0 /\ cmpI b c = 0)
 | [], [], c, h1, h2 => ⟨h2, fun h => ⟨rfl, h⟩⟩
 | [], y :: b, [], h1, h2 => by
  have : (1 : Int) <= 0 := h2
  omega
 | [], y :: b, z :: c, h1, h2 => ⟨by show (-1 : Int) <= 0; omega, fun h => by have : (-1 : Int) = 0 := h; omega⟩
 | x :: a, [], c, h1, h2 => by
  have : (1 : Int) <= 0 := h1
  omega
 | x :: a, y :: b, [], h1, h2 => by
  have : (1 : Int) <= 0 := h2
  omega
 | x :: a, y :: b, z :: c, h1, h2 => by
  rw [cmpI_cons] at h1 h2;rw [cmpI_cons, cmpI_cons, cmpI_cons];have ih := cmpI_trans (a := a) (b := b) (c := c);have e : ∀ u v : Int, cmp3 u v = if u < v then -1 else if v < u then 1 else 0 := fun _ _ => rfl
  rw [e] at h1 h2;rw [e, e, e];rcases Int.lt_trichotomy x y with hxy | hxy | hxy
  ·rcases Int.lt_trichotomy y z with hyz | hyz | hyz
   ·simp only [hxy, hyz, show x < z from by omega, if_true] at *
    simp
   ·subst hyz
    simp only [hxy, if_true] at *
    simp
   ·simp only [show ¬ y < z from by omega, hyz, if_true, if_false] at h2
    simp at h2
  ·subst hxy
   rcases Int.lt_trichotomy x z with hyz | hyz | hyz
   ·simp only [hyz, if_true] at *
    simp
   ·subst hyz
    simp only [Int.lt_irrefl, if_false, if_true] at *;exact ih h1 h2
   ·simp only [show ¬ x < z from by omega, hyz, if_true, if_false] at h2
    simp at h2
  ·simp only [show ¬ x < y from by omega, hxy, if_true, if_false] at h1
   simp at h1
theorem cmpO_trans {a b c : Out} (h1 : cmpO a b < 0) (h2 : cmpO b c < 0) : cmpO a c < 0 := by
 unfold cmpO at *
 by_cases e1 : cmpI a.1 b.1 = 0
 ·rw [if_pos e1] at h1
  by_cases e2 : cmpI b.1 c.1 = 0
  ·rw [if_pos e2] at h2
   obtain ⟨k1, k2⟩ := cmpI_trans (a := a.1) (b := b.1) (c := c.1) (by omega) (by omega);obtain ⟨k3, k4⟩ := cmpI_trans (a := a.2.1) (b := b.2.1) (c := c.2.1) (by omega) (by omega);split
   ·refine Classical.byContradiction fun h => ?_
    have := k4 (by omega)
    omega
   ·omega
  ·rw [if_neg e2] at h2
   obtain ⟨k1, k2⟩ := cmpI_trans (a := a.1) (b := b.1) (c := c.1) (by omega) (by omega);rw [if_neg (fun h => e2 (k2 h).2)]
   refine Classical.byContradiction fun h => ?_
   exact e2 (k2 (by omega)).2
 ·rw [if_neg e1] at h1
  by_cases e2 : cmpI b.1 c.1 = 0
  ·obtain ⟨k1, k2⟩ := cmpI_trans (a := a.1) (b := b.1) (c := c.1) (by omega) (by omega)
   rw [if_neg (fun h => e1 (k2 h).1)]
   refine Classical.byContradiction fun h => ?_
   exact e1 (k2 (by omega)).1
  ·rw [if_neg e2] at h2
   obtain ⟨k1, k2⟩ := cmpI_trans (a := a.1) (b := b.1) (c := c.1) (by omega) (by omega);rw [if_neg (fun h => e1 (k2 h).1)]
   refine Classical.byContradiction fun h => ?_
   exact e1 (k2 (by omega)).1
theorem total_take_succ {p : List (List LOp)} {i : Nat} (h : i < p.length) : aB (p.take (i + 1)) = aB (p.take i) + (p.getD i []).length := by
 unfold aB
 rw [Pl.take_succ h [], List.map_append, List.sum_append]
 simp
theorem bR (p : List (List LOp)) (i : Nat) : aB (p.take i) <= aB p := by
 have : aB p = aB (p.take i) + aB (p.drop i) := by
  unfold aB;rw [<- List.sum_append, <- List.map_append, List.take_append_drop]
 omega
theorem orI_cons (x : Int) (l : List Int) : orI (x :: l) = if x = 0 then orI l else x := by
 unfold orI
 rw [List.find?_cons]
 by_cases h : x = 0
 ·rw [if_pos h, h]; rfl
 ·rw [if_neg h, decide_eq_true h]; rfl
end Sp
namespace Go.User
open Go.Lf Go.Proofs
theorem ok83 : FOk Try.prog 83 S83 := by
 refine FOk.intro (okA fns_nil) (aW (okA fns_nil)) Try.call83 Try.func83 (by kernel_rfl) (by kernel_rfl) L83 (vc83.mpr ?_)
 simp only [zz, zy]
 intro x hp hx
 exact ⟨fun h => h.symm, by rw [maxNew_eq]; omega⟩
theorem ok86 : FOk Try.prog 86 S86 := by
 refine FOk.intro (okA fns_nil) (aW (okA fns_nil)) Try.call86 Try.func86 (by kernel_rfl) (by kernel_rfl) L86 (vc86.mpr ?_)
 simp only [zz, zy]
 intro x hp hx
 exact ⟨fun h => h.symm, by rw [maxNew_eq]; omega⟩
theorem ok98 : FOk Try.prog 98 S98 := by
 refine FOk.intro (okA fns_nil) (aW (okA fns_nil)) Try.call98 Try.func98 (by kernel_rfl) (by kernel_rfl) L98 (vc98.mpr ?_)
 simp only [zz, zy]
 intro x hx
 rfl
theorem ok97 : FOk Try.prog 97 S97 := by
 refine FOk.intro (okA fns_nil) (aW (okA fns_nil)) Try.call97 Try.func97 (by kernel_rfl) (by kernel_rfl) L97 (vc97.mpr ?_)
 simp only [zz, zy]
 intro x hp hx
 refine ⟨⟨0, ⟨Nat.zero_le _, by simp⟩, rfl⟩, ?_⟩
 intro i hi hk
 refine ⟨fun hlt => ⟨⟨inN_of hlt, hp _⟩, fun h => ?_, fun h => ⟨inK_succ hlt hx.1, i + 1, ⟨by omega, Pl.all_take_succ hi.2 (by omega) h⟩, by omega, by omega⟩⟩, fun hge => ?_⟩
 ·unfold Sp.findM; rw [Pl.find_at hi.2 (by omega) h]
 ·have := hi.2
  rw [Pl.take_all hi.1 hge] at this;unfold Sp.findM; rw [Pl.find_none this]
theorem ok84 : FOk Try.prog 84 S84 := by
 have hC : aJ Try.prog C84 := okA (aG ok98 (aG ok97 fns_nil))
 refine FOk.intro hC (aW hC) Try.call84 Try.func84 (by kernel_rfl) (by kernel_rfl) L84 (vc84.mpr ?_)
 simp only [zz, zy]
 intro x hx
 first | trivial | rfl | exact ⟨trivial, rfl⟩
theorem ok75 : FOk Try.prog 75 S75 := by
 refine FOk.intro (okA fns_nil) (aW (okA fns_nil)) Try.call75 Try.func75 (by kernel_rfl) (by kernel_rfl) L75 (vc75.mpr ?_)
 simp only [zz, zy]
 rintro ⟨o, u⟩ hx
 have k4 : ∀ h1 : ¬ o.1 = 1, ∀ h2 : ¬ o.1 = 2, ∀ h3 : ¬ o.1 = 3, (decide (o.1 = 4) && (decide (o.2.1 = 0) && decide (o.2.2.1 = 0))) = Sp.usual o := by
  intro h1 h2 h3;unfold Sp.usual;rw [if_neg h1, if_neg (by rintro (h | h) <;> contradiction), Bool.and_assoc]
 refine ⟨fun h1 => ?_, fun h1 => ⟨fun h2 => ⟨fun _ => ?_, fun h => absurd h2 h⟩, fun h2 => ⟨fun h3 => ?_, fun h3 => k4 h1 h2 h3⟩⟩⟩
 ·unfold Sp.usual; rw [if_pos h1]; rfl
 ·unfold Sp.usual; rw [if_neg h1, if_pos (.inl h2)]
 ·unfold Sp.usual; rw [if_neg h1, if_pos (.inr h3)]
theorem val_ok : ClOk Try.prog tVal := by
 rintro ⟨f, l⟩ w F caps vs xs hF hc hv hp
 have hp : (f, l) = (75, []) := hp
 injection hp with h1 h2
 subst h1; subst h2
 have hc : caps = [] := by
  cases caps with
  | nil => rfl
  | cons c caps => obtain ⟨n, r, h, _⟩ := hc; cases h
 subst hc
 refine ⟨ok75.1, ?_⟩
 obtain ⟨v, r, rfl, h1, h2⟩ := hv
 have h2 : r = [] := h2
 subst h2
 exact ok75.2 w F [v] (xs.1, ()) hF ⟨v, [], rfl, h1, rfl⟩ trivial
theorem ok76 : FOk Try.prog 76 S76 := by
 have hC : aJ Try.prog C76 := ctx_okQ 0 rfl rfl fns_nil ptrs_nil (fun _ h => by cases h) (fun t h => by injection h with h; subst h; exact val_ok) ins_nil (fun _ h => by cases h)
 refine FOk.intro hC (aW hC) Try.call76 Try.func76 (by kernel_rfl) (by kernel_rfl) L76 (vc76.mpr ?_)
 simp only [zz, zy]
 rintro ⟨o, z, u⟩ hz hx
 have hz : z = some (75, []) := hz
 subst hz
 exact ⟨rfl, rfl⟩
theorem ok94 : FOk Try.prog 94 S94 := by
 refine FOk.intro (okA fns_nil) (aW (okA fns_nil)) Try.call94 Try.func94 (by kernel_rfl) (by kernel_rfl) L94 (vc94.mpr ?_)
 simp only [zz, zy]
 intro x hp hx
 refine ⟨⟨0, ⟨Nat.zero_le _, by simp⟩, rfl⟩, ?_⟩
 intro i hi hk
 refine ⟨fun hlt => ⟨⟨inN_of hlt, hp _⟩, fun h => ?_, fun h => ⟨inK_succ hlt hx.1, i + 1, ⟨by omega, Pl.all_take_succ hi.2 (by omega) h⟩, by omega, by omega⟩⟩, fun hge => ?_⟩
 ·unfold Sp.findO; rw [Pl.find_at hi.2 (by omega) h]
 ·have := hi.2
  rw [Pl.take_all hi.1 hge] at this;unfold Sp.findO; rw [Pl.find_none this]
theorem ok77 : FOk Try.prog 77 S77 := by
 have hC : aJ Try.prog C77 := okA (aG ok94 fns_nil)
 refine FOk.intro hC (aW hC) Try.call77 Try.func77 (by kernel_rfl) (by kernel_rfl) L77 (vc77.mpr ?_)
 simp only [zz, zy]
 intro x hp hx
 refine ⟨hp, ?_⟩
 unfold Sp.findO
 cases h : x.1.findIdx? fun e => x.2.1.fn (e, ()) with
 | none =>
  rw [List.findIdx?_eq_none_iff] at h;have : (x.1.any fun e => x.2.1.fn (e, ())) = false := by rw [List.any_eq_false]; intro y hy; rw [h y hy]; simp
  rw [this]; rfl
 | some i =>
  rw [List.findIdx?_eq_some_iff_getElem] at h;obtain ⟨hi, hp, _⟩ := h;have : (x.1.any fun e => x.2.1.fn (e, ())) = true := List.any_eq_true.2 ⟨_, List.getElem_mem hi, hp⟩
  rw [this]
  simp
theorem ok100 : FOk Try.prog 100 S100 := by
 refine FOk.intro (okA fns_nil) (aW (okA fns_nil)) Try.call100 Try.func100 (by kernel_rfl) (by kernel_rfl) L100 (vc100.mpr ?_)
 intro x _ hx
 exact ⟨⟨⟨trivial, trivial⟩, trivial⟩, ⟨⟨trivial, trivial, trivial, trivial, trivial⟩, trivial⟩, by simp⟩
theorem ok91 : FOk Try.prog 91 S91 := by
 have hC : aJ Try.prog C91 := okA (aG ok100 fns_nil)
 refine FOk.intro hC (aW hC) Try.call91 Try.func91 (by kernel_rfl) (by kernel_rfl) L91 (vc91.mpr ?_)
 simp only [zz, zy]
 intro x hx
 refine ⟨fun h => ?_, fun h => ⟨fun h2 => ?_, fun h2 => ?_⟩⟩
 ·unfold Sp.cmp3; rw [if_pos h]
 ·unfold Sp.cmp3; rw [if_neg (by omega), if_pos h2]
 ·unfold Sp.cmp3; rw [if_neg (by omega), if_neg (by omega)]
theorem ok70 : FOk Try.prog 70 S70 := by
 have hC : aJ Try.prog C70 := okA (aG ok91 fns_nil)
 refine FOk.intro hC (aW hC) Try.call70 Try.func70 (by kernel_rfl) (by kernel_rfl) L70 (vc70.mpr ?_)
 simp only [zz, zy]
 rintro ⟨a, b, u⟩ hx
 have ha : a.length <= lim := hx.1.1
 refine ⟨⟨0, ⟨Nat.zero_le _, Nat.zero_le _, rfl⟩, rfl⟩, ?_⟩
 rintro i ⟨h1, h2, h3⟩ hk
 have h1 : i <= a.length := h1
 have h2 : i <= b.length := h2
 have h3 : Sp.cmpI (a.drop i) (b.drop i) = Sp.cmpI a b := h3
 refine ⟨fun hlt => ?_, fun hge => ⟨fun hl => ?_, fun hl => ?_⟩⟩
 ·have hlt : (i : Int) < (a.length : Int) := hlt
  refine ⟨inN_of hlt, fun hge => ?_, fun hlb => ?_⟩
  ·have hge : (b.length : Int) <= (i : Int) := hge
   show (1 : Int) = Sp.cmpI a b
   rw [<- h3, Pl.drop_cons (d := 0) (by omega : i < a.length), List.drop_eq_nil_of_le (by omega : b.length <= i)]
   rfl
  ·have hlb : (i : Int) < (b.length : Int) := hlb
   have e := h3
   rw [Pl.drop_cons (d := 0) (by omega : i < a.length), Pl.drop_cons (d := 0) (by omega : i < b.length), Sp.cmpI_cons] at e;refine ⟨inN_of hlb, fun hn => ?_, fun hz => ⟨inK_succ hlt ha, i + 1, ⟨by show i + 1 <= a.length; omega, by show i + 1 <= b.length; omega, ?_⟩, by show a.length - (i + 1) < a.length - i; omega, by omega⟩⟩
   ·show _ = Sp.cmpI a b
    rw [<- e, if_neg hn]
   ·show Sp.cmpI (a.drop (i + 1)) (b.drop (i + 1)) = Sp.cmpI a b
    rw [<- e, if_pos hz]
 ·have hge : (a.length : Int) <= (i : Int) := hge
  have hl : (a.length : Int) < (b.length : Int) := hl
  show (-1 : Int) = Sp.cmpI a b
  rw [<- h3, List.drop_eq_nil_of_le (by omega : a.length <= i), Pl.drop_cons (d := 0) (by omega : i < b.length)]
  rfl
 ·have hge : (a.length : Int) <= (i : Int) := hge
  have hl : (b.length : Int) <= (a.length : Int) := hl
  show (0 : Int) = Sp.cmpI a b
  rw [<- h3, List.drop_eq_nil_of_le (by omega : a.length <= i), List.drop_eq_nil_of_le (by omega : b.length <= i)]
  rfl
theorem ok69 : FOk Try.prog 69 S69 := by
 refine FOk.intro (okA fns_nil) (aW (okA fns_nil)) Try.call69 Try.func69 (by kernel_rfl) (by kernel_rfl) L69 (vc69.mpr ?_)
 simp only [zz, zy]
 rintro ⟨a, u⟩ hx
 have ha : a.length <= lim := hx.1
 refine ⟨⟨0, ⟨Nat.zero_le _, rfl⟩, rfl⟩, ?_⟩
 rintro i ⟨h1, h3⟩ hk
 have h1 : i <= a.length := h1
 have h3 : Sp.orI (a.drop i) = Sp.orI a := h3
 refine ⟨fun hlt => ?_, fun hge => ?_⟩
 ·have hlt : (i : Int) < (a.length : Int) := hlt
  have e := h3
  rw [Pl.drop_cons (d := 0) (by omega : i < a.length), Sp.orI_cons] at e;refine ⟨inN_of hlt, fun hn => ?_, fun hz => ⟨inK_succ hlt ha, i + 1, ⟨by show i + 1 <= a.length; omega, ?_⟩, by show a.length - (i + 1) < a.length - i; omega, by omega⟩⟩
  ·show _ = Sp.orI a
   rw [<- e, if_neg hn]
  ·show Sp.orI (a.drop (i + 1)) = Sp.orI a
   rw [<- e, if_pos hz]
 ·have hge : (a.length : Int) <= (i : Int) := hge
  show (0 : Int) = Sp.orI a
  rw [<- h3, List.drop_eq_nil_of_le (by omega : a.length <= i)]
  rfl
theorem ok68 : FOk Try.prog 68 S68 := by
 have hC : aJ Try.prog C68 := okA (aG ok70 (aG ok69 fns_nil))
 refine FOk.intro hC (aW hC) Try.call68 Try.func68 (by kernel_rfl) (by kernel_rfl) L68 (vc68.mpr ?_)
 simp only [zz, zy]
 intro x hx
 show Sp.orI [_, _] = Sp.cmpO _ _
 unfold Sp.cmpO
 rw [Sp.orI_cons, Sp.orI_cons]
 by_cases h : Sp.cmpI x.1.1 x.2.1.1 = 0
 ·rw [if_pos h, if_pos h]
  by_cases h2 : Sp.cmpI x.1.2.1 x.2.1.2.1 = 0
  ·rw [if_pos h2, h2]; rfl
  ·rw [if_neg h2]
 ·rw [if_neg h, if_neg h]
theorem cmp_ok : ClOk Try.prog tCmp := by
 rintro ⟨f, l⟩ w F caps vs xs hF hc hv hp
 have hp : (f, l) = (68, []) := hp
 injection hp with h1 h2
 subst h1; subst h2
 have hc : caps = [] := by
  cases caps with
  | nil => rfl
  | cons c caps => obtain ⟨n, r, h, _⟩ := hc; cases h
 subst hc
 refine ⟨ok68.1, ?_⟩
 obtain ⟨v, r, rfl, h1, v2, r2, rfl, h2, h3⟩ := hv
 have h3 : r2 = [] := h3
 subst h3
 exact ok68.2 w F [v, v2] (xs.1, xs.2.1, ()) hF ⟨v, [v2], rfl, h1, v2, [], rfl, h2, rfl⟩ trivial
theorem mid_eq {i j : Nat} (h : i + j <= 1000000000) : IntKind.i64.wrap (IntKind.u64.wrap ((i : Int) + (j : Int)) / 2 ^ shiftN IntKind.u64 1) = (((i + j) / 2 : Nat) : Int) := by
 have e1 : IntKind.u64.wrap ((i : Int) + (j : Int)) = (i : Int) + (j : Int) := inK_wrap (k := .u64) ⟨by show (0 : Int) <= _; omega, by show _ <= (18446744073709551615 : Int); omega⟩
 have e2 : shiftN IntKind.u64 1 = 1 := by decide
 rw [e1, e2, Pl.wrap_in (by omega) (by omega)]
 omega
theorem ok73 : FOk Try.prog 73 S73 := by
 have hC : aJ Try.prog C73 := ctx_okQ 0 rfl rfl fns_nil ptrs_nil (fun _ h => by cases h) (fun t h => by injection h with h; subst h; exact cmp_ok) ins_nil (fun _ h => by cases h)
 refine FOk.intro hC (aW hC) Try.call73 Try.func73 (by kernel_rfl) (by kernel_rfl) L73 (vc73.mpr ?_)
 simp only [zz, zy]
 rintro ⟨l, t, z, u⟩ ⟨hz, hl, hs⟩ hx
 have hz : z = some (68, []) := hz
 subst hz
 have hl : l.length <= 500000000 := hl
 have hs : Sp.sortedO l := hs
 have tr : ∀ {a b c : Sp.Out}, True := trivial
 have q0 : ∀ k, k < 0 -> Sp.cmpO (l.getD k Sp.out0) t < 0 := fun k hk => by omega
 have q1 : ∀ k, l.length <= k -> k < l.length -> 0 <= Sp.cmpO (l.getD k Sp.out0) t := fun k h1 h2 => by omega
 refine ⟨⟨(0, l.length), ⟨Nat.zero_le _, Nat.le_refl _, q0, q1⟩, rfl, rfl⟩, ?_⟩
 rintro ⟨i, j⟩ ⟨h1, h2, h3, h4⟩ hk
 have h1 : i <= j := h1
 have h2 : j <= l.length := h2
 have h3 : ∀ k, k < i -> Sp.cmpO (l.getD k Sp.out0) t < 0 := h3
 have h4 : ∀ k, j <= k -> k < l.length -> 0 <= Sp.cmpO (l.getD k Sp.out0) t := h4
 have hmid : IntKind.i64.wrap (IntKind.u64.wrap ((i : Int) + (j : Int)) / 2 ^ shiftN IntKind.u64 1) = (((i + j) / 2 : Nat) : Int) := mid_eq (by omega)
 simp only
 rw [hmid]
 have htr : ∀ {a b : Nat}, a < b -> b < l.length -> Sp.cmpO (l.getD a Sp.out0) (l.getD b Sp.out0) < 0 := fun h1 h2 => hs _ _ h1 h2
 refine ⟨fun hlt => ?_, fun hge => ?_⟩
 ·have hlt : (i : Int) < (j : Int) := hlt
  have hml : (i + j) / 2 < l.length := by omega
  refine ⟨⟨bE (by omega) (by omega), by decide⟩, ⟨⟨by omega, by show _ < (l.length : Int); omega⟩, rfl, trivial⟩, fun hn => ?_, fun hn => ?_⟩
  ·have hn : Sp.cmpO (l.getD ((i + j) / 2) Sp.out0) t < 0 := hn
   refine ⟨bE (by omega) (by omega), ((i + j) / 2 + 1, j), ⟨by show (i + j) / 2 + 1 <= j; omega, h2, ?_, h4⟩, by show j - ((i + j) / 2 + 1) < j - i; omega, by show _ = (((i + j) / 2 + 1 : Nat) : Int); omega, rfl⟩
   intro k hk;have hk : k < (i + j) / 2 + 1 := hk;rcases Nat.lt_or_ge k ((i + j) / 2) with h | h
   ·exact Sp.cmpO_trans (htr h hml) hn
   ·rw [show k = (i + j) / 2 from by omega]; exact hn
  ·have hn : 0 <= Sp.cmpO (l.getD ((i + j) / 2) Sp.out0) t := hn
   refine ⟨(i, (i + j) / 2), ⟨by show i <= (i + j) / 2; omega, by show (i + j) / 2 <= l.length; omega, h3, ?_⟩, by show (i + j) / 2 - i < j - i; omega, rfl, rfl⟩
   intro k hk hkl;have hk : (i + j) / 2 <= k := hk;have hkl : k < l.length := hkl;refine Classical.byContradiction fun hc => ?_
   have hc : Sp.cmpO (l.getD k Sp.out0) t < 0 := by show _ < (0 : Int); omega
   rcases Nat.lt_or_ge ((i + j) / 2) k with h | h
   ·have := Sp.cmpO_trans (htr h hkl) hc
    omega
   ·rw [show k = (i + j) / 2 from by omega] at hc; omega
 ·have hij : i = j := by have hge : (j : Int) <= (i : Int) := hge; omega
  subst hij;have hb : Sp.below l t = i := Pl.countP_at (d := Sp.out0) h2 (fun k hk => decide_eq_true (h3 k hk)) (fun k h5 h6 => decide_eq_false (by have := h4 k h5 h6; omega))
  refine ⟨⟨fun h => inN_of h, fun _ => ⟨rfl, trivial⟩⟩, ?_⟩
  unfold Sp.foundO;rw [hb];have e1 : decide ((i : Int) < (l.length : Int)) = decide (i < l.length) := by
   by_cases h : i < l.length
   ·rw [decide_eq_true h, decide_eq_true (by omega)]
   ·rw [decide_eq_false h, decide_eq_false (by omega)]
  rw [e1]
  rfl
end Go.User
namespace Go.User
open Go.Lf Go.Proofs
theorem ok80 : FOk Try.prog 80 S80 := by
 refine FOk.intro (okA fns_nil) (aW (okA fns_nil)) Try.call80 Try.func80 (by kernel_rfl) (by kernel_rfl) L80 (vc80.mpr ?_)
 simp only [zz, zy]
 rintro ⟨l, e, u⟩ hx
 have hl : l.length <= lim := hx.1.1
 refine ⟨⟨0, ⟨Nat.zero_le _, by simp⟩, rfl⟩, ?_⟩
 rintro i ⟨h1, h2⟩ hk
 have h1 : i <= l.length := h1
 have h2 : ∀ m ∈ l.take i, ¬ m.1 = e := h2
 have h2' : ∀ m ∈ l.take i, decide (m.1 = e) = false := fun m hm => decide_eq_false (h2 m hm)
 refine ⟨fun hlt => ⟨inN_of hlt, fun h => ?_, fun h => ⟨inK_succ hlt hl, i + 1, ⟨by show i + 1 <= l.length; have hlt : (i : Int) < (l.length : Int) := hlt; omega, ?_⟩, by show l.length - (i + 1) < l.length - i; have hlt : (i : Int) < (l.length : Int) := hlt; omega, by omega⟩⟩, fun hge => ?_⟩
 ·have hlt : (i : Int) < (l.length : Int) := hlt
  show (i : Int) = Sp.plc l e
  unfold Sp.plc Sp.findM;rw [Pl.find_at (d := Sp.msg0) h2' (by omega) (decide_eq_true h)]
 ·have hlt : (i : Int) < (l.length : Int) := hlt
  exact Pl.all_take_succ (d := Sp.msg0) (p := fun m => ¬ m.1 = e) h2 (by omega) h
 ·show (-1 : Int) = Sp.plc l e
  rw [Pl.take_all h1 hge] at h2';unfold Sp.plc Sp.findM;rw [Pl.find_none h2']
theorem ok18 : FOk Try.prog 18 S18 := by
 refine FOk.intro (okA fns_nil) (aW (okA fns_nil)) Try.call18 Try.func18 (by kernel_rfl) (by kernel_rfl) L18 (vc18.mpr ?_)
 simp only [zz, zy]
 rintro ⟨⟨p, u⟩, u'⟩ hp hx
 have hp : Sp.aB p <= 1000000 := hp
 have hl : p.length <= lim := hx.1.1
 refine ⟨⟨0, Nat.zero_le _, rfl, by simp [Sp.aB]⟩, ?_⟩
 intro i hi hk
 have hi : i <= p.length := hi
 have hle := Sp.bR p i
 refine ⟨fun hlt => ?_, fun hge => ?_⟩
 ·have hlt : (i : Int) < (p.length : Int) := hlt
  have hs := Sp.total_take_succ (p := p) (i := i) (by omega)
  have hle2 := Sp.bR p (i + 1)
  refine ⟨⟨inN_of hlt, bE (by omega) ?_⟩, inK_succ hlt hl, i + 1, by show i + 1 <= p.length; omega, by show p.length - (i + 1) < p.length - i; omega, by omega, ?_⟩
  ·show ((Sp.aB (p.take i) : Nat) : Int) + ((p.getD i []).length : Int) <= 1000000000; omega
  ·show ((Sp.aB (p.take i) : Nat) : Int) + ((p.getD i []).length : Int) = ((Sp.aB (p.take (i + 1)) : Nat) : Int); omega
 ·show ((Sp.aB (p.take i) : Nat) : Int) = _
  rw [Pl.take_all hi hge]
theorem ok49 : FOk Try.prog 49 S49 := by
 have hC : aJ Try.prog C49 := okC fns_nil rfl rfl rfl rfl rfl rfl rfl
 refine FOk.intro hC (aW hC) Try.call49 Try.func49 (by kernel_rfl) (by kernel_rfl) L49 (vc49.mpr ?_)
 simp only [zz, zy]
 rintro ⟨a, b, u⟩ hx
 have ha : a.length <= lim := hx.1.1
 have hb : b.length <= lim := hx.2.1
 refine ⟨⟨0, ⟨Nat.zero_le _, Nat.zero_le _, rfl⟩, rfl⟩, ?_⟩
 rintro i ⟨h1, h2, h3⟩ hk
 have h1 : i <= a.length := h1
 have h2 : i <= b.length := h2
 have h3 : a.take i = b.take i := h3
 refine ⟨fun ⟨hla, hlb⟩ => ?_, fun hn => ?_⟩
 ·have hla : (i : Int) < (a.length : Int) := hla
  have hlb : (i : Int) < (b.length : Int) := hlb
  refine ⟨⟨inN_of hla, inN_of hlb⟩, fun hn => ⟨⟨inN_of hla, inN_of hlb⟩, Sp.cmpR_take (by omega) (by omega) h3 hn⟩, fun he => ⟨inK_succ hla ha, i + 1, ⟨by show i + 1 <= a.length; omega, by show i + 1 <= b.length; omega, ?_⟩, by show a.length - (i + 1) < a.length - i; omega, by omega⟩⟩
  exact Pl.take_eq_succ (d := 0) (by omega) (by omega) h3 he
 ·have hn : (decide ((i : Int) < (a.length : Int)) && decide ((i : Int) < (b.length : Int))) = false := hn
  rw [Bool.and_eq_false_iff, decide_eq_false_iff_not, decide_eq_false_iff_not] at hn;rw [lim_eq] at ha hb;refine ⟨inK_of ?_ ?_, Sp.cmpR_end (a := a) (b := b) h1 h2 (by omega) h3⟩
  ·show _ <= (a.length : Int) - (b.length : Int); omega
  ·show (a.length : Int) - (b.length : Int) <= _; omega
theorem ok41 : FOk Try.prog 41 S41 := by
 have hC : aJ Try.prog C41 := okA (aG ok49 fns_nil)
 refine FOk.intro hC (aW hC) Try.call41 Try.func41 (by kernel_rfl) (by kernel_rfl) L41 (vc41.mpr ?_)
 simp only [zz, zy]
 rintro ⟨a, b, u⟩ hx
 have ha : ∀ x ∈ a, inK .i64 x := hx.1.2
 have hb : ∀ x ∈ b, inK .i64 x := hx.2.2
 show (((a.length : Int) == (b.length : Int)) && (Sp.cmpR a b == 0)) = Sp.sameI a b
 unfold Sp.sameI
 by_cases h : a = b
 ·subst h
  rw [Sp.cmpR_self]; simp
 ·rw [decide_eq_false h]
  by_cases hl : a.length = b.length
  ·have : ¬ Sp.cmpR a b = 0 := fun hz => h (Sp.cmpR_zero hl ha hb hz)
   simp [hl, this]
  ·have : ¬ (a.length : Int) = (b.length : Int) := by omega
   simp [this]
theorem ok38 : FOk Try.prog 38 S38 := by
 have hC : aJ Try.prog C38 := okC (aG ok41 fns_nil) rfl rfl rfl rfl rfl rfl rfl
 refine FOk.intro hC (aW hC) Try.call38 Try.func38 (by kernel_rfl) (by kernel_rfl) L38 (vc38.mpr ?_)
 simp only [zz, zy]
 rintro ⟨l, p, q, u⟩ hx
 have hl : l.length <= lim := hx.1.1
 refine ⟨⟨0, ⟨Nat.zero_le _, rfl⟩, rfl⟩, ?_⟩
 rintro i ⟨h1, h2⟩ _
 have h1 : i <= l.length := h1
 have h2 : Sp.rds (l.take i) p q = false := h2
 refine ⟨fun hlt => ⟨inN_of hlt, fun he => ?_, fun he => ⟨inK_succ hlt hl, i + 1, ⟨?_, ?_⟩, ?_, by omega⟩⟩, fun hge => ?_⟩
 ·have hlt : (i : Int) < (l.length : Int) := hlt
  have he : Sp.sameI (l.getD i Sp.out0).1 [p, q] = true := he
  show true = Sp.rds l p q
  symm
  unfold Sp.rds;rw [List.any_eq_true];exact ⟨_, Pl.bK (by omega) Sp.out0, decide_eq_true (of_decide_eq_true he)⟩
 ·have hlt : (i : Int) < (l.length : Int) := hlt
  show i + 1 <= l.length; omega
 ·have hlt : (i : Int) < (l.length : Int) := hlt
  have he : Sp.sameI (l.getD i Sp.out0).1 [p, q] = false := he
  show Sp.rds (l.take (i + 1)) p q = false
  unfold Sp.rds at h2 ⊢;rw [List.any_eq_false] at h2 ⊢;exact Pl.all_take_succ (d := Sp.out0) (p := fun o : Sp.Out => ¬ decide (o.1 = [p, q]) = true) h2 (by omega) (by
   have := of_decide_eq_false he
   simpa using this)
 ·have hlt : (i : Int) < (l.length : Int) := hlt
  show l.length - (i + 1) < l.length - i; omega
 ·show false = Sp.rds l p q
  rw [Pl.take_all h1 hge] at h2;exact h2.symm
end Go.User
namespace Sp
def bJ (s : VSt) (c : Nat) : List LOp := s.1.1.getD c []
def bA (s : VSt) (c : Nat) : Int := s.2.1.getD c 0
def aC (s : VSt) (x : Nat) : List Msg := s.2.2.1.getD x []
def rowOf (s : VSt) (c : Nat) : List Int := s.2.2.2.1.getD c []
def vw (s : VSt) (c x : Nat) : Int := (rowOf s c).getD x 0
def fnc (s : VSt) (x : Nat) : Int := s.2.2.2.2.1.getD x 0
def aI (s : VSt) (c : Nat) : LOp := (bJ s c).getD (bA s c).toNat op0
def cat (p : List (List LOp)) : List LOp := p.flatten
def evt (s : VSt) (c : Int) : Int := (aB (s.1.1.take c.toNat) : Int) + bA s c.toNat
def may (o : LOp) (m : List Msg) (i : Nat) : Bool := decide (o.1 = 1) || decide (i + 1 = m.length) || !(m.getD (i + 1) msg0).2.2.1
def chI (o : LOp) (m : List Msg) (a : Int) (c : Nat) (i : Nat) : List Cho := ((List.range i).filter fun (k : Nat) => decide (a <= (k : Int)) && may o m k).map fun (k : Nat) => ((c : Int), (k : Int), ())
def plV (s : VSt) (c x : Nat) : Int := plc (aC s x) (vw s c x)
def chC (s : VSt) (c : Nat) : List Cho :=
 if bA s c = (bJ s c).length then [] else if (aI s c).1 = 4 then [((c : Int), 0, ())]
 else chI (aI s c) (aC s (aI s c).2.1.toNat) (plV s c (aI s c).2.1.toNat) c (aC s (aI s c).2.1.toNat).length
def choN (s : VSt) (n : Nat) : List Cho := (List.range n).flatMap (chC s)
def choP (s : VSt) (c i : Nat) : List Cho := choN s c ++ chI (aI s c) (aC s (aI s c).2.1.toNat) (plV s c (aI s c).2.1.toNat) c i
def aE (s : VSt) : List Cho := choN s s.1.1.length
def later (s : VSt) (c k : Nat) : Int := if plV s c k < plc (aC s k) (fnc s k) then fnc s k else vw s c k
def rowN (s : VSt) (c n : Nat) : List Int := (List.range 3).map fun (j : Nat) => if j < n then later s c j else vw s c j
def vwN (s : VSt) (c n : Nat) : List (List Int) := s.2.2.2.1.set c (rowN s c n)
def ofC (x : Cho) : Nat := x.1.toNat
def opX (s : VSt) (x : Cho) : LOp := aI s (ofC x)
def plX (s : VSt) (x : Cho) : Nat := (opX s x).2.1.toNat
def msgX (s : VSt) (x : Cho) : Msg := (aC s (plX s x)).getD x.2.1.toNat msg0
def newM (s : VSt) (x : Cho) : Msg := if (opX s x).1 = 3 then (evt s x.1, Go.IntKind.wrap .i64 ((msgX s x).2.1 + (opX s x).2.2.1), true, ()) else (evt s x.1, (opX s x).2.2.1, false, ())
def nPc (s : VSt) (x : Cho) : List Int := s.2.1.set (ofC x) (bA s (ofC x) + 1)
def nMem (s : VSt) (x : Cho) : List (List Msg) :=
 if (opX s x).1 = 4 ∨ (opX s x).1 = 1 then s.2.2.1 else s.2.2.1.set (plX s x) ((aC s (plX s x)).take (x.2.1.toNat + 1) ++ [newM s x] ++ (aC s (plX s x)).drop (x.2.1.toNat + 1))
def nVw (s : VSt) (x : Cho) : List (List Int) :=
 if (opX s x).1 = 4 then vwN s (ofC x) 3 else if (opX s x).1 = 1 then s.2.2.2.1.set (ofC x) ((rowOf s (ofC x)).set (plX s x) (msgX s x).1) else s.2.2.2.1.set (ofC x) ((rowOf s (ofC x)).set (plX s x) (evt s x.1))
def nFe (s : VSt) (x : Cho) : List Int := if (opX s x).1 = 4 then rowN s (ofC x) 3 else s.2.2.2.2.1
def nR (s : VSt) (x : Cho) : List Int := if (opX s x).1 = 4 ∨ (opX s x).1 = 2 then s.2.2.2.2.2.1 else s.2.2.2.2.2.1.set (evt s x.1).toNat (msgX s x).2.1
def nFr (s : VSt) (x : Cho) : List Int := if (opX s x).1 = 4 ∨ (opX s x).1 = 2 then s.2.2.2.2.2.2.1 else s.2.2.2.2.2.2.1.set (evt s x.1).toNat (msgX s x).1
def nFo (s : VSt) (x : Cho) : List Int := if (opX s x).1 = 4 then s.2.2.2.2.2.2.2.1 ++ [evt s x.1] else s.2.2.2.2.2.2.2.1
def next (s : VSt) (x : Cho) : VSt := (s.1, nPc s x, nMem s x, nVw s x, nFe s x, nR s x, nFr s x, nFo s x, ())
structure OkS (s : VSt) : Prop where
 few : s.1.1.length <= 1000
 tot : aB s.1.1 <= 1000
 pcl : s.2.1.length = s.1.1.length
 pc : ∀ c, c < s.1.1.length -> 0 <= bA s c /\ bA s c <= (bJ s c).length
 ops : ∀ l ∈ s.1.1, ∀ o ∈ l, 0 <= o.2.1 /\ o.2.1 < 3
 meml : s.2.2.1.length = 3
 mem : ∀ x, x < 3 -> 1 <= (aC s x).length /\ (aC s x).length <= 2000
 vwl : s.2.2.2.1.length = s.1.1.length
 row : ∀ c, c < s.1.1.length -> (rowOf s c).length = 3
 see : ∀ c, c < s.1.1.length -> ∀ x, x < 3 -> 0 <= plV s c x
 fel : s.2.2.2.2.1.length = 3
 fes : ∀ x, x < 3 -> 0 <= plc (aC s x) (fnc s x)
 rl : s.2.2.2.2.2.1.length = aB s.1.1
 frl : s.2.2.2.2.2.2.1.length = aB s.1.1
 fol : s.2.2.2.2.2.2.2.1.length <= 2000
def okX (s : VSt) (x : Cho) : Prop := OkS s /\ x ∈ aE s
end Sp
namespace Go.User
open Go.Lf
def mkS (n : Nat) (fns : List (FuncId × aU)) : Ctx := { N := n, tys := cC 0, fns := fns, eqs := eqs }
def S43 : aU := { args := [.val (.slice (.slice a9))], multi := false, res := .slice a9, mode := .own .shr, pre := fun x => Sp.aB x.1 <= 1000, fn := fun x => Sp.cat x.1 }
def S85 : aU := { args := [.val tVSt, .val tI], multi := false, res := tI, mode := .shr, pre := fun x => Sp.aB x.1.1.1 <= 1000 /\ 0 <= x.2.1 /\ x.2.1 < (List.length x.1.1.1 : Int) /\ List.length x.1.2.1 = List.length x.1.1.1 /\ 0 <= Sp.bA x.1 (Int.toNat x.2.1) /\ Sp.bA x.1 (Int.toNat x.2.1) <= 1000, fn := fun x => Sp.evt x.1 x.2.1 }
def C85 : Ctx := mkS 18 [(43, S43)]
def L85 (x : aO S85.args) : List aS := []
def S82 : aU := { args := [.val tRSt, .val tI], multi := false, res := tI, mode := .shr, pre := fun x => Sp.aB x.1.1.1 <= 1000 /\ 0 <= x.2.1 /\ x.2.1 < (List.length x.1.1.1 : Int) /\ List.length x.1.2.1 = List.length x.1.1.1 /\ 0 <= Sp.bA x.1 (Int.toNat x.2.1) /\ Sp.bA x.1 (Int.toNat x.2.1) <= 1000, fn := fun x => Sp.evt x.1 x.2.1 }
def C82 : Ctx := mkS 27 []
def L82 (x : aO S82.args) : List aS := [
 {ι := Nat, inv := fun i => (i : Int) <= x.2.1, dec := fun i => Int.toNat x.2.1 - i, ovr := fun i => [(6, .shr tI (i : Int)), (5, .shr tI ((Sp.aB (List.take i x.1.1.1) : Int) + Sp.bA x.1 (Int.toNat x.2.1)))], keep := [1, 2] }]
def S53 : aU := { args := [.val tVSt], multi := false, res := .slice tCho, mode := .shr, pre := fun x => Sp.OkS x.1, fn := fun x => Sp.aE x.1 }
def C53 : Ctx := mkS 90 [(84, S84)]
def L53 (x : aO S53.args) : List aS := [
 {ι := Nat, inv := fun c => c <= List.length x.1.1.1, dec := fun c => List.length x.1.1.1 - c, ovr := fun c => [(13, .shr tI (c : Int)), (3, .own (.slice tCho) (.own .shr) (Sp.choN x.1 c))], keep := [1, 11, 12], sub := fun c => [
  {ι := Nat, inv := fun i => Sp.plV x.1 c (Int.toNat (Sp.aI x.1 c).2.1) <= (i : Int) /\ i <= List.length (Sp.aC x.1 (Int.toNat (Sp.aI x.1 c).2.1)), dec := fun i => List.length (Sp.aC x.1 (Int.toNat (Sp.aI x.1 c).2.1)) - i, ovr := fun i => [(8, .shr tI (i : Int)), (3, .own (.slice tCho) (.own .shr) (Sp.choP x.1 c i))], keep := [1, 4, 5, 6, 7, 11, 12, 13] }] }]
def S50 : aU := { args := [.val tRSt], multi := false, res := .slice tCho, mode := .shr, pre := fun x => Sp.OkS x.1, fn := fun x => Sp.aE x.1 }
def C50 : Ctx := mkS 100 [(80, S80)]
def L50 (x : aO S50.args) : List aS := [
 {ι := Nat, inv := fun c => c <= List.length x.1.1.1, dec := fun c => List.length x.1.1.1 - c, ovr := fun c => [(4, .shr tI (c : Int)), (3, .own (.slice tCho) (.own .shr) (Sp.choN x.1 c))], keep := [1], sub := fun c => [
  {ι := Nat, inv := fun i => Sp.plV x.1 c (Int.toNat (Sp.aI x.1 c).2.1) <= (i : Int) /\ i <= List.length (Sp.aC x.1 (Int.toNat (Sp.aI x.1 c).2.1)), dec := fun i => List.length (Sp.aC x.1 (Int.toNat (Sp.aI x.1 c).2.1)) - i, ovr := fun i => [(7, .shr tI (i : Int)), (3, .own (.slice tCho) (.own .shr) (Sp.choP x.1 c i))], keep := [1, 4, 5, 6] }] }]
def S31 : aU := { args := [.val tVSt], multi := false, res := tI, mode := .shr, pre := fun x => Sp.OkS x.1, fn := fun x => (List.length (Sp.aE x.1) : Int) }
def C31 : Ctx := mkS 6 [(53, S53)]
def L31 (x : aO S31.args) : List aS := []
def S26 : aU := { args := [.val tVSt], multi := false, res := .bool, mode := .shr, pre := fun x => Sp.OkS x.1, fn := fun x => decide ((List.length (Sp.aE x.1) : Int) = 0) }
def C26 : Ctx := mkS 6 [(31, S31)]
def L26 (x : aO S26.args) : List aS := []
abbrev mV0 : Md := .pair .shr (.pair .shr (.pair .shr (.pair .shr (.pair .shr (.pair .shr (.pair .shr (.pair .shr .shr)))))))
abbrev mV1 : Md := .pair .shr (.pair (.own .shr) (.pair .shr (.pair (.own .shr) .shr)))
def S54 : aU := { args := [.val tVSt, .val tCho], multi := false, res := tVSt, mode := .shr, pre := fun x => Sp.okX x.1 x.2.1, fn := fun x => (x.1.1, Sp.nPc x.1 x.2.1, Sp.nMem x.1 x.2.1, Sp.nVw x.1 x.2.1, Sp.nFe x.1 x.2.1, Sp.nR x.1 x.2.1, Sp.nFr x.1 x.2.1, Sp.nFo x.1 x.2.1, ()) }
def C54 : Ctx := { mkS 193 [(85, S85), (83, S83), (86, S86), (84, S84)] with wrp := [160], mds := [(2, mV0), (4, mV0)], frz := [100, 181], fzs := [2] }
def L54 (x : aO S54.args) : List aS := [
 {ι := Nat, inv := fun k => k <= 3, dec := fun k => 3 - k, ovr := fun k => [(52, .shr tI (k : Int)), (2, .box tVSt mV1 (x.1.1, Sp.nPc x.1 x.2.1, x.1.2.2.1, Sp.vwN x.1 (Sp.ofC x.2.1) k, x.1.2.2.2.2.1, x.1.2.2.2.2.2.1, x.1.2.2.2.2.2.2.1, x.1.2.2.2.2.2.2.2.1, ()))], keep := [3, 4, 5, 6, 7, 51] }]
end Go.User
namespace Sp
open Go.Lf
theorem cat_len (p : List (List LOp)) : (cat p).length = aB p := by
 unfold cat aB; rw [List.length_flatten]
theorem choN_succ (s : VSt) (n : Nat) : choN s (n + 1) = choN s n ++ chC s n := by
 unfold choN; rw [List.range_succ, List.flatMap_append]; simp
theorem chI_succ (o : LOp) (m : List Msg) (a : Int) (c i : Nat) (h : a <= (i : Int)) : chI o m a c (i + 1) = chI o m a c i ++ (if may o m i = true then [((c : Int), (i : Int), ())] else []) := by
 unfold chI
 rw [List.range_succ, List.filter_append, List.map_append]
 congr 1
 by_cases hm : may o m i = true
 ·simp [hm, h]
 ·simp [hm]
theorem chI_nil (o : LOp) (m : List Msg) (a : Int) (c i : Nat) (h : (i : Int) <= a) : chI o m a c i = [] := by
 unfold chI
 rw [List.map_eq_nil_iff, List.filter_eq_nil_iff]
 intro k hk
 have := List.mem_range.1 hk
 have h' : ¬ a <= (k : Int) := by omega
 simp [h']
theorem chI_len (o : LOp) (m : List Msg) (a : Int) (c i : Nat) : (chI o m a c i).length <= i := by
 unfold chI
 rw [List.length_map]
 have := List.length_filter_le (fun (k : Nat) => decide (a <= (k : Int)) && may o m k) (List.range i)
 rw [List.length_range] at this; exact this
theorem mem_chI {o : LOp} {m : List Msg} {a : Int} {c i : Nat} {x : Cho} : x ∈ chI o m a c i ↔ ∃ k : Nat, k < i /\ a <= (k : Int) /\ may o m k = true /\ x = ((c : Int), (k : Int), ()) := by
 unfold chI
 simp only [List.mem_map, List.mem_filter, List.mem_range, Bool.and_eq_true, decide_eq_true_eq]
 constructor
 ·rintro ⟨k, ⟨h1, h2, h3⟩, rfl⟩; exact ⟨k, h1, h2, h3, rfl⟩
 ·rintro ⟨k, h1, h2, h3, rfl⟩; exact ⟨k, ⟨h1, h2, h3⟩, rfl⟩
theorem chC_done {s : VSt} {c : Nat} (h : bA s c = (bJ s c).length) : chC s c = [] := by unfold chC; rw [if_pos h]
theorem chC_fence {s : VSt} {c : Nat} (h : ¬ bA s c = (bJ s c).length) (hf : (aI s c).1 = 4) : chC s c = [((c : Int), 0, ())] := by unfold chC; rw [if_neg h, if_pos hf]
theorem chC_other {s : VSt} {c : Nat} (h : ¬ bA s c = (bJ s c).length) (hf : ¬ (aI s c).1 = 4) :
  chC s c = chI (aI s c) (aC s (aI s c).2.1.toNat) (plV s c (aI s c).2.1.toNat) c (aC s (aI s c).2.1.toNat).length := by unfold chC; rw [if_neg h, if_neg hf]
theorem OkS.op {s : VSt} (h : OkS s) {c : Nat} (hc : c < s.1.1.length) (hn : ¬ bA s c = (bJ s c).length) :
  0 <= bA s c /\ (bA s c).toNat < (bJ s c).length /\ 0 <= (aI s c).2.1 /\ (aI s c).2.1 < 3 /\ aI s c ∈ bJ s c := by
 obtain ⟨h1, h2⟩ := h.pc c hc
 have h3 : (bA s c).toNat < (bJ s c).length := by omega
 have hm : aI s c ∈ bJ s c := Pl.bK h3 _
 obtain ⟨h4, h5⟩ := h.ops (bJ s c) (Pl.bK hc _) _ hm
 exact ⟨h1, h3, h4, h5, hm⟩
theorem chC_len {s : VSt} (h : OkS s) {c : Nat} (hc : c < s.1.1.length) : (chC s c).length <= 2000 := by
 by_cases h1 : bA s c = (bJ s c).length
 ·rw [chC_done h1]; simp
 ·by_cases h2 : (aI s c).1 = 4
  ·rw [chC_fence h1 h2]; simp
  ·rw [chC_other h1 h2]
   obtain ⟨_, _, g3, g4, _⟩ := h.op hc h1;exact Nat.le_trans (chI_len _ _ _ _ _) (h.mem _ (by omega)).2
theorem choN_len {s : VSt} (h : OkS s) : ∀ {n : Nat}, n <= s.1.1.length -> (choN s n).length <= 2000 * n
 | 0, _ => Nat.le_refl _
 | n + 1, hn => by
  rw [choN_succ, List.length_append];have := choN_len h (n := n) (by omega);have := chC_len h (c := n) (by omega);omega
theorem mem_choN {s : VSt} {n : Nat} {x : Cho} : x ∈ choN s n ↔ ∃ c, c < n /\ x ∈ chC s c := by
 unfold choN
 simp only [List.mem_flatMap, List.mem_range]
theorem mem_choices {s : VSt} {x : Cho} : x ∈ aE s ↔ ∃ c, c < s.1.1.length /\ x ∈ chC s c := mem_choN
structure XF (s : VSt) (x : Cho) : Prop where
 lt : ofC x < s.1.1.length
 eq : x.1 = (ofC x : Int)
 pcn : ¬ bA s (ofC x) = (bJ s (ofC x)).length
 pc0 : 0 <= bA s (ofC x)
 pc1 : (bA s (ofC x)).toNat < (bJ s (ofC x)).length
 pl0 : 0 <= (opX s x).2.1
 pl1 : (opX s x).2.1 < 3
 mem : opX s x ∈ bJ s (ofC x)
 fen : (opX s x).1 = 4 -> x.2.1 = 0
 idx : (opX s x).1 ≠ 4 -> plV s (ofC x) (plX s x) <= x.2.1 /\ 0 <= x.2.1 /\ x.2.1.toNat < (aC s (plX s x)).length /\ may (opX s x) (aC s (plX s x)) x.2.1.toNat = true
theorem OkS.xf {s : VSt} (h : OkS s) {x : Cho} (hx : x ∈ aE s) : XF s x := by
 obtain ⟨c, hc, hm⟩ := mem_choices.1 hx
 by_cases h1 : bA s c = (bJ s c).length
 ·rw [chC_done h1] at hm; cases hm
 obtain ⟨g1, g2, g3, g4, g5⟩ := h.op hc h1
 by_cases h2 : (aI s c).1 = 4
 ·rw [chC_fence h1 h2, List.mem_singleton] at hm
  subst hm;have e : ofC ((c : Int), 0, ()) = c := Int.toNat_natCast c;refine ⟨by rw [e]; exact hc, by rw [e], by rw [e]; exact h1, by rw [e]; exact g1, by rw [e]; exact g2, ?_, ?_, ?_, fun _ => rfl, fun hn => ?_⟩
  ·unfold opX; rw [e]; exact g3
  ·unfold opX; rw [e]; exact g4
  ·unfold opX; rw [e]; exact g5
  ·unfold opX at hn; rw [e] at hn; exact absurd h2 hn
 ·rw [chC_other h1 h2, mem_chI] at hm
  obtain ⟨k, k1, k2, k3, rfl⟩ := hm;have e : ofC ((c : Int), (k : Int), ()) = c := Int.toNat_natCast c;refine ⟨by rw [e]; exact hc, by rw [e], by rw [e]; exact h1, by rw [e]; exact g1, by rw [e]; exact g2, ?_, ?_, ?_, ?_, fun _ => ?_⟩
  ·unfold opX; rw [e]; exact g3
  ·unfold opX; rw [e]; exact g4
  ·unfold opX; rw [e]; exact g5
  ·intro hn; unfold opX at hn; rw [e] at hn; exact absurd hn h2
  ·unfold plX opX; rw [e]
   exact ⟨k2, Int.natCast_nonneg k, by simpa using k1, by simpa using k3⟩
theorem choP_start {s : VSt} {c i : Nat} (h : (i : Int) <= plV s c (aI s c).2.1.toNat) : choP s c i = choN s c := by
 unfold choP; rw [chI_nil _ _ _ _ _ h, List.append_nil]
theorem choP_yes {s : VSt} {c i : Nat} (h : plV s c (aI s c).2.1.toNat <= (i : Int)) (hm : may (aI s c) (aC s (aI s c).2.1.toNat) i = true) : choP s c i ++ [((c : Int), (i : Int), ())] = choP s c (i + 1) := by
 unfold choP; rw [chI_succ _ _ _ _ _ h, if_pos hm, List.append_assoc]
theorem choP_no {s : VSt} {c i : Nat} (h : plV s c (aI s c).2.1.toNat <= (i : Int)) (hm : may (aI s c) (aC s (aI s c).2.1.toNat) i = false) : choP s c i = choP s c (i + 1) := by
 unfold choP; rw [chI_succ _ _ _ _ _ h, if_neg (by rw [hm]; decide), List.append_nil]
theorem choP_end {s : VSt} {c : Nat} (h1 : ¬ bA s c = (bJ s c).length) (h2 : ¬ (aI s c).1 = 4) {i : Nat} (hi : i = (aC s (aI s c).2.1.toNat).length) : choP s c i = choN s (c + 1) := by
 subst hi; unfold choP; rw [choN_succ, chC_other h1 h2]
theorem choP_len {s : VSt} (h : OkS s) {c i : Nat} (hc : c <= s.1.1.length) : (choP s c i).length <= 2000 * c + i := by
 unfold choP; rw [List.length_append]
 have := choN_len h hc
 have := chI_len (aI s c) (aC s (aI s c).2.1.toNat) (plV s c (aI s c).2.1.toNat) c i
 omega
theorem plc_le (m : List Msg) (e : Int) : plc m e < (m.length : Int) ∨ plc m e = -1 := by
 unfold plc findM
 split
 ·rename_i i h
  have := (List.findIdx?_eq_some_iff_getElem.1 h)
  obtain ⟨h1, _⟩ := this;left; omega
 ·right; rfl
theorem rowN_len (s : VSt) (c n : Nat) : (rowN s c n).length = 3 := by simp [rowN]
theorem rowN_get (s : VSt) (c n : Nat) {j : Nat} (hj : j < 3) : (rowN s c n).getD j 0 = if j < n then later s c j else vw s c j := by
 have : j = 0 ∨ j = 1 ∨ j = 2 := by omega
 rcases this with rfl | rfl | rfl <;> rfl
theorem rowN_succ (s : VSt) (c : Nat) {n : Nat} (hn : n < 3) : (rowN s c n).set n (later s c n) = rowN s c (n + 1) := by
 have : n = 0 ∨ n = 1 ∨ n = 2 := by omega
 rcases this with rfl | rfl | rfl <;> rfl
theorem rowN_zero {s : VSt} {c : Nat} (h : (rowOf s c).length = 3) : rowN s c 0 = rowOf s c := by
 unfold rowN vw
 match hr : rowOf s c, h with
 | [a, b, d], _ => rfl
theorem set_same {α : Type} {l : List α} {n : Nat} {d : α} (h : n < l.length) : l.set n (l.getD n d) = l := by
 rw [Pl.b8 h]; exact List.set_getElem_self h
theorem vwN_zero {s : VSt} {c : Nat} (hc : c < s.2.2.2.1.length) (h : (rowOf s c).length = 3) : vwN s c 0 = s.2.2.2.1 := by
 unfold vwN; rw [rowN_zero h]; exact set_same hc
theorem vwN_len (s : VSt) (c n : Nat) : (vwN s c n).length = s.2.2.2.1.length := by unfold vwN; rw [List.length_set]
theorem vwN_get {s : VSt} {c : Nat} (n : Nat) (hc : c < s.2.2.2.1.length) (d : List Int) : (vwN s c n).getD c d = rowN s c n := by
 unfold vwN; rw [Pl.bY c hc, if_pos rfl]
theorem vwN_set {s : VSt} {c : Nat} (n : Nat) (r : List Int) : (vwN s c n).set c r = s.2.2.2.1.set c r := by
 unfold vwN; rw [List.set_set]
theorem evt_lt {s : VSt} {c : Int} (h0 : 0 <= c) (h1 : c < (s.1.1.length : Int)) (h2 : 0 <= bA s c.toNat) (h3 : bA s c.toNat < ((bJ s c.toNat).length : Int)) : 0 <= evt s c /\ evt s c < (aB s.1.1 : Int) := by
 have e1 := total_take_succ (p := s.1.1) (i := c.toNat) (by omega)
 have e2 := bR s.1.1 (c.toNat + 1)
 have e3 : (bJ s c.toNat).length = (s.1.1.getD c.toNat []).length := rfl
 unfold evt
 omega
theorem st_eq {A : Lit} {b b' : List Int} {c c' : List (List Msg)} {d d' : List (List Int)} {e e' f f' g g' h h' : List Int} (h1 : b = b') (h2 : c = c') (h3 : d = d') (h4 : e = e') (h5 : f = f') (h6 : g = g') (h7 : h = h') :
  ((A, b, c, d, e, f, g, h, ()) : VSt) = (A, b', c', d', e', f', g', h', ()) := by
 subst h1 h2 h3 h4 h5 h6 h7; rfl
end Sp
namespace Go.Lf

def NilOK (P : Program) (G : List (FuncId × Ty)) : Prop := ∀ f e, look G f = some e -> FnDef P f /\ ∀ (w : World) (F : aA) (n : Int), (∀ b, F b -> b < w.heap.size) -> 0 <= n -> n <= 1000000 ->
 Calls P f #[.slice none 0 0, .int .i64 n] w (Post F w false (.slice e) (.own .shr) ([] : List e.den))

def growC (G : List (FuncId × Ty)) (C : Ctx) (st : St) (o : Oper) (q : Call) : Option (Prop × St) :=
 match q.callee, q.args.toList, o.dst with
 | .value (.func f), [.const (.slice none 0 0), y], some d => (match look G f, (bG st y).e with
  | some e, .shr (.int .i64) n => bif wrB C d then some (0 <= n /\ n <= 1000000, put st d (mkR C d false (.slice e) (.own .shr) ([] : List e.den))) else none
  | _, _ => none)
 | _, _, _ => none
def stpT (G : List (FuncId × Ty)) (C : Ctx) (st : St) (o : Oper) : Option (Prop × St) := match o.op with
 | .call q => (match growC G C st o q with
  | some r => some r
  | none => stpS C st o)
 | _ => stpS C st o

section
variable {P : Program} {C : Ctx} {w0 : World} {F0 H : aA} {env : St} {a : Act} {w : World} {F : aA} {S : Nat -> aA}
theorem growC_ok {G : List (FuncId × Ty)} (hG : NilOK P G) (hC : aJ P C) (hi : aM P C.np w0 F0 H env a w F S) {q : Call} {o : Oper} (ho : o.op = .call q) {c : Prop} {env' : St} (h : growC G C env o q = some (c, env')) (hc : c)
  {K : Act -> World -> Prop} {Q : Exit -> Act -> World -> Prop} (hK : ∀ a' w', Inv P C.np w0 F0 H env' a' w' -> K a' w') : o.wp P a w K Q := by
 unfold growC at h
 split at h
 ·rename_i f y d hcal hargs hod
  split at h
  ·rename_i e n hl hy
   cases hd : wrB C d
   ·rw [hd] at h; cases h
   rw [hd] at h;simp only [cond_true, Option.some.injEq, Prod.mk.injEq] at h;obtain ⟨rfl, rfl⟩ := h;obtain ⟨k1, k2⟩ := hG f e hl;have hyv := bC hi y;have hn : a.eval y = .int .i64 n := by
    have := hyv.ent (by rw [hy]; rfl) 0 (by rw [hy]; simp [Ent.root])
    rw [hy] at this;exact (aP.int_eq (show aP F w (.int .i64) .shr none' (a.eval y) n from this)).1
   obtain ⟨callee, args, ts⟩ := q;simp only at hcal hargs;subst hcal;have hav : (args.toList.map a.eval).toArray = #[.slice none 0 0, .int .i64 n] := by
    rw [hargs];simp only [List.map_cons, List.map_nil, hn]
    rfl
   have hrun : (execOp a.eval o).run P w = .ok (.enter f #[.slice none 0 0, .int .i64 n]) w := by
    simp only [execOp, ho, resolve, Sem.run_bind, Act.eval, Deferred.ofValue, Sem.run_pure, Result.andThen, invoke];have := k1 ((args.toList.map a.eval).toArray) w;rw [<- hav, <- this]
    congr 1
    congr 1
    apply Array.ext'
    simp
   unfold Oper.wp;rw [hrun, Oper.upon_enter];refine (k2 w F n hi.fb hc.1 hc.2).mono ?_;intro e' w' hp;obtain ⟨v, F2, S2, rfl, hh⟩ := hi.putCall (C := C) (b := true) (wrB_iff hd) rfl rfl hp;rw [hod];exact hK _ w' ⟨F2, S2, hh⟩
  ·cases h
 ·cases h
theorem stpT_ok {G : List (FuncId × Ty)} (hG : NilOK P G) (hC : aJ P C) : StpOK P C (stpT G C) := by
 intro w0 F0 H env env' a w o c hi h hc K Q hK
 unfold stpT at h
 split at h
 ·rename_i q hop
  split at h
  ·rename_i r hr
   simp only [Option.some.injEq] at h;subst h;obtain ⟨F, S, hi⟩ := hi;exact growC_ok hG hC hi hop hr hc hK
  ·exact aW hC hi h hc K Q hK
 ·exact aW hC hi h hc K Q hK
end
end Go.Lf
namespace Go.User
open Go.Lf
def G32 : List (FuncId × Ty) := [(78, a9)]
def C43 : Ctx := mkS 36 []
def L43 (x : aO S43.args) : List aS := [
 {ι := Nat, inv := fun i => i <= List.length x.1, dec := fun i => List.length x.1 - i, ovr := fun i => [(11, .shr tI (i : Int)), (3, .shr tI (Sp.aB (List.take i x.1) : Int))], keep := [0, 9, 10] },
 {ι := Nat, inv := fun i => i <= List.length x.1, dec := fun i => List.length x.1 - i, ovr := fun i => [(27, .shr tI (i : Int)), (6, .own (.slice a9) (.own .shr) (Sp.cat (List.take i x.1)))], keep := [25, 26] }]
end Go.User
namespace Go.User
open Go.Proofs Go.Lf
set_option maxRecDepth 100000
theorem vc43 : (bV C43 (stpT G32 C43) S43 L43 Try.f43) = (
let q0 : Prop := (True /\ True) /\ True;
let q1 : Prop := True /\ True /\ True;
let q2 : Prop := (True /\ q1) /\ True;
let q3 : Int := (0 : Int);
let q4 : Prop := q1 /\ True;
let q5 : Int := (1 : Int);
∀ (x : Sp.Lit),
 let q6 : Nat := x.1.length;
 let q7 : Prop := x.1 = x.1;
 let q8 : Int := (↑q6 : Int);
 let q9 : Prop := q7 /\ q8 = q8 /\ True;
 let q10 : Prop := q7 /\ q9;
 Sp.aB x.1 <= (1000 : Nat) ->
 aD a9.slice.slice x.1 /\ True ->
 q0 /\
 q0 /\
 q2 /\
 (∃ (x_1 : Nat), x_1 <= q6 /\ q3 = (↑x_1 : Int) /\ q3 = (↑(Sp.aB (List.take x_1 x.1)) : Int) /\ q10) /\
 ∀ (x_1 : Nat),
 let q11 : Int := (↑(Sp.aB (List.take x_1 x.1)) : Int);
 let q12 : Bool := decide ((↑x_1 : Int) < q8);
 let q13 : Int := q11 + (↑(List.length (x.1.getD (↑x_1 : Int).toNat (([] : List a9.den)))) : Int);
 let q14 : Bool := decide (q13 < q3);
 let q15 : Int := (↑x_1 : Int) + q5;
 x_1 <= q6 ->
 aD tI (↑x_1 : Int) /\ aD tI q11 /\ True ->
 q0 /\
 (q12 = true -> ((inN (↑x_1 : Int) q6 /\ q1) /\ True) /\ ((True /\ True /\ True /\ inK IntKind.i64 q13 /\ True /\ True) /\ True) /\ q4 /\ (q14 = true -> False) /\ (q14 = false -> ((inK IntKind.i64 q15 /\ True /\ True) /\ True) /\ ∃ (y : Nat), y <= q6 /\ q6 - y < q6 - x_1 /\ q15 = (↑y : Int) /\ q13 = (↑(Sp.aB (List.take y x.1)) : Int) /\ q10)) /\
 (q12 = false ->
 ((True /\ True) /\ ((0 : tI.den) <= q11 /\ q11 <= (1000000 : tI.den)) /\ True /\ True) /\
 q2 /\
 (∃ (x_2 : Nat), x_2 <= q6 /\ q3 = (↑x_2 : Int) /\ ([] : List a9.den) = Sp.cat (List.take x_2 x.1) /\ q9) /\
 ∀ (x_2 : Nat),
 let q16 : List Sp.LOp := Sp.cat (List.take x_2 x.1);
 let q17 : Bool := decide ((↑x_2 : Int) < q8);
 let q18 : List Sp.LOp := x.1.getD (↑x_2 : Int).toNat (([] : List a9.den));
 let q19 : Int := (↑x_2 : Int) + q5;
 x_2 <= q6 -> aD tI (↑x_2 : Int) /\ aD a9.slice q16 /\ True -> q0 /\ (q17 = true -> ((inN (↑x_2 : Int) q6 /\ q1) /\ True) /\ (q1 /\ (↑(q16.length + q18.length) : Int) <= aN /\ True /\ True) /\ ((inK IntKind.i64 q19 /\ True /\ True) /\ True) /\ ∃ (y : Nat), y <= q6 /\ q6 - y < q6 - x_2 /\ q19 = (↑y : Int) /\ q16 ++ q18 = Sp.cat (List.take y x.1) /\ q9) /\ (q17 = false -> q4 /\ q16 = Sp.cat x.1))) := by kernel_rfl
end Go.User
namespace Go.User
open Go.Lf Go.Proofs
theorem ok43 (hG : NilOK Try.prog G32) : FOk Try.prog 43 S43 := by
 have hC : aJ Try.prog C43 := okA fns_nil
 refine FOk.intro hC (stpT_ok hG hC) Try.call43 Try.func43 (by kernel_rfl) (by kernel_rfl) L43 (vc43.mpr ?_)
 simp only [zz, zy]
 rintro ⟨p, u⟩ h hx
 have h : Sp.aB p <= 1000 := h
 have hl : p.length <= lim := hx.1
 refine ⟨⟨0, Nat.zero_le _, rfl, rfl⟩, fun i hi _ => ⟨fun hlt => ?_, fun hge => ⟨⟨?_, ?_⟩, ⟨0, Nat.zero_le _, rfl, rfl⟩, fun j hj _ => ⟨fun hlt => ?_, fun hge2 => ?_⟩⟩⟩⟩
 ·have hi : i <= p.length := hi
  have hlt : (i : Int) < (p.length : Int) := hlt
  have e1 := Sp.total_take_succ (p := p) (i := i) (by omega)
  have e2 := Sp.bR p (i + 1)
  refine ⟨inN_of hlt, bE (by omega) ?_, ?_, fun _ => ⟨inK_succ hlt hl, i + 1, by show i + 1 <= p.length; omega, by show p.length - (i + 1) < p.length - i; omega, by omega, ?_⟩⟩
  ·show ((Sp.aB (p.take i) : Nat) : Int) + ((p.getD i []).length : Int) <= 1000000000; omega
  ·show ¬ ((Sp.aB (p.take i) : Nat) : Int) + ((p.getD i []).length : Int) < 0; omega
  ·show ((Sp.aB (p.take i) : Nat) : Int) + ((p.getD i []).length : Int) = ((Sp.aB (p.take (i + 1)) : Nat) : Int); omega
 ·show (0 : Int) <= ((Sp.aB (p.take i) : Nat) : Int); omega
 ·have e2 := Sp.bR p i
  show ((Sp.aB (p.take i) : Nat) : Int) <= (1000000 : Int); omega
 ·have hj : j <= p.length := hj
  have hlt : (j : Int) < (p.length : Int) := hlt
  have e1 := Sp.total_take_succ (p := p) (i := j) (by omega)
  have e2 := Sp.bR p (j + 1)
  have e3 := Sp.cat_len (p.take j)
  refine ⟨inN_of hlt, ?_, inK_succ hlt hl, j + 1, by show j + 1 <= p.length; omega, by show p.length - (j + 1) < p.length - j; omega, by omega, ?_⟩
  ·show (((Sp.cat (p.take j)).length + (p.getD j []).length : Nat) : Int) <= 2147483648; omega
  ·show Sp.cat (p.take j) ++ p.getD j [] = Sp.cat (p.take (j + 1))
   unfold Sp.cat;rw [Pl.take_succ (show j < p.length by omega) []]; simp
 ·have hj : j <= p.length := hj
  show Sp.cat (p.take j) = Sp.cat p
  rw [Pl.take_all hj hge2]
end Go.User
namespace Go.User
open Go.Proofs Go.Lf
set_option maxRecDepth 100000
theorem vc85 : (bV C85 (stpS C85) S85 L85 Try.f85) = (
let q0 : Nat := (1000 : Nat);
let q1 : Int := (0 : Int);
let q2 : Nat := (3 : Nat);
∀ (x : Sp.VSt × Int × Unit),
 let q3 : Nat := x.1.1.1.length;
 let q4 : Nat := x.1.2.1.length;
 let q5 : Int := Sp.bA x.1 x.2.1.toNat;
 let q6 : List (List Sp.LOp) := win q1 x.2.1 x.1.1.1;
 let q7 : Int := (↑(Sp.cat q6).length : Int) + x.1.2.1.getD x.2.1.toNat q1;
 Sp.aB x.1.1.1 <= q0 /\ (0 : (AK.val tI).den) <= x.2.1 /\ x.2.1 < (↑q3 : Int) /\ q4 = q3 /\ q1 <= q5 /\ q5 <= (1000 : Int) -> aD (tLit.prod (tI.slice.prod ((Ty.arr q2 tMsg.slice).prod ((Ty.arr q2 tI).slice.prod ((Ty.arr q2 tI).prod (tI.slice.prod bO)))))) x.1 /\ aD tI x.2.1 /\ True -> ((True /\ True /\ True) /\ True) /\ ((True /\ True /\ True /\ True /\ winI q1 x.2.1 q3 /\ Sp.aB q6 <= q0 /\ True /\ True /\ True /\ True /\ inN x.2.1 q4 /\ True /\ inK IntKind.i64 q7 /\ True /\ True) /\ True) /\ q7 = Sp.evt x.1 x.2.1) := by kernel_rfl
theorem vc82 : (bV C82 (stpS C82) S82 L82 Try.f82) = (
let q0 : Int := (0 : Int);
let q1 : Prop := True /\ True /\ True;
let q2 : Prop := q1 /\ True;
let q3 : Int := (1 : Int);
∀ (x : Sp.VSt × Int × Unit),
 let q4 : Nat := x.1.1.1.length;
 let q5 : Nat := x.1.2.1.length;
 let q6 : Int := Sp.bA x.1 x.2.1.toNat;
 let q7 : Prop := x.2.1 = x.2.1 /\ x.1 = x.1 /\ True;
 Sp.aB x.1.1.1 <= (1000 : Nat) /\ (0 : (AK.val tI).den) <= x.2.1 /\ x.2.1 < (↑q4 : Int) /\ q5 = q4 /\ q0 <= q6 /\ q6 <= (1000 : Int) ->
 aD tRSt x.1 /\ aD tI x.2.1 /\ True ->
 q2 /\
 ((True /\ True /\ True /\ inN x.2.1 q5 /\ q1) /\ True) /\
 ((True /\ True) /\ True) /\
 (∃ (x_1 : Nat), (↑x_1 : Int) <= x.2.1 /\ q0 = (↑x_1 : Int) /\ x.1.2.1.getD x.2.1.toNat q0 = (↑(Sp.aB (List.take x_1 x.1.1.1)) : Int) + q6 /\ q7) /\
 ∀ (x_1 : Nat),
 let q8 : Int := (↑(Sp.aB (List.take x_1 x.1.1.1)) : Int) + q6;
 let q9 : Bool := decide ((↑x_1 : Int) < x.2.1);
 let q10 : Int := q8 + (↑(List.length (x.1.1.1.getD (↑x_1 : Int).toNat (([] : List a9.den)))) : Int);
 let q11 : Int := (↑x_1 : Int) + q3;
 (↑x_1 : Int) <= x.2.1 -> aD tI (↑x_1 : Int) /\ aD tI q8 /\ True -> ((True /\ q1) /\ True) /\ (q9 = true -> ((True /\ True /\ True /\ True /\ True /\ inN (↑x_1 : Int) q4 /\ True /\ True /\ inK IntKind.i64 q10 /\ True /\ True) /\ True) /\ ((True /\ inK IntKind.i64 q11 /\ True /\ True) /\ True) /\ ∃ (y : Nat), (↑y : Int) <= x.2.1 /\ x.2.1.toNat - y < x.2.1.toNat - x_1 /\ q11 = (↑y : Int) /\ q10 = (↑(Sp.aB (List.take y x.1.1.1)) : Int) + q6 /\ q7) /\ (q9 = false -> q2 /\ q8 = Sp.evt x.1 x.2.1)) := by kernel_rfl
theorem vc53 : (bV C53 (stpS C53) S53 L53 Try.f53) = (
let q0 : Nat := (3 : Nat);
let q1 : Prop := True /\ True /\ True;
let q2 : Prop := q1 /\ True;
let q3 : Prop := (True /\ True) /\ True;
let q4 : Prop := True /\ q1;
let q5 : Prop := True /\ q4;
let q6 : Prop := True /\ q5;
let q7 : Int := (0 : Int);
let q8 : Int := (1 : Int);
let q9 : Int × Unit := (q7, ());
let q10 : Sp.LOp := (q7, q7, q9);
∀ (x : Sp.VSt × Unit),
 let q11 : Nat := x.1.1.1.length;
 let q12 : Prop := x.1 = x.1;
 let q13 : Prop := x.1.1.1 = x.1.1.1;
 let q14 : Int := (↑q11 : Int);
 let q15 : Prop := q14 = q14;
 let q16 : Prop := q12 /\ q13 /\ q15 /\ True;
 let q17 : Nat := x.1.2.1.length;
 let q18 : List (List Int) := x.1.2.2.2.1;
 Sp.OkS x.1 ->
 aD (tLit.prod (tI.slice.prod ((Ty.arr q0 tMsg.slice).prod ((Ty.arr q0 tI).slice.prod ((Ty.arr q0 tI).prod (tI.slice.prod bO)))))) x.1 /\ True ->
 q2 /\
 q3 /\
 (q6 /\ True) /\
 (∃ (x_1 : Nat), x_1 <= q11 /\ q7 = (↑x_1 : Int) /\ Sp.choN x.1 x_1 = ([] : List tCho.den) /\ q16) /\
 ∀ (x_1 : Nat),
 let q19 : Bool := decide ((↑x_1 : Int) < q14);
 let q20 : Prop := inN (↑x_1 : Int) q17;
 let q21 : Nat := (↑x_1 : Int).toNat;
 let q22 : Int := x.1.2.1.getD q21 q7;
 let q23 : List Sp.LOp := x.1.1.1.getD q21 (([] : List a9.den));
 let q24 : Nat := q23.length;
 let q25 : Bool := q22 == (↑q24 : Int);
 let q26 : Int := (↑x_1 : Int) + q8;
 let q27 : Prop := (inK IntKind.i64 q26 /\ True /\ True) /\ True;
 let q28 : Sp.LOp := q23.getD q22.toNat q10;
 let q29 : Int := q28.1;
 let q30 : Bool := q29 == (4 : Int);
 let q31 : List (Int × Int × Unit) := ((↑x_1 : Int), q9) :: ([] : List tCho.den);
 let q32 : Int := q28.2.1;
 let q33 : Prop := inN q32 q0;
 let q34 : Nat := (Sp.aI x.1 x_1).2.1.toNat;
 let q35 : Nat := (Sp.aC x.1 q34).length;
 let q36 : Nat := q32.toNat;
 let q37 : List Sp.Msg := x.1.2.2.1.getD q36 (([] : List tMsg.den));
 let q38 : Prop := (↑x_1 : Int) = (↑x_1 : Int);
 let q39 : Prop := q12 /\ q38 /\ q23 = q23 /\ q28 = q28 /\ q37 = q37 /\ q13 /\ q15 /\ q38 /\ True;
 let q40 : Nat := q37.length;
 let q41 : Int := (↑q40 : Int);
 let q42 : Bool := q29 == q8;
 let q43 : Prop := (true && bif q42 then false else true) = true;
 let q44 : Prop := q43 -> True;
 x_1 <= q11 ->
 aD tI (↑x_1 : Int) /\ aD (tI.prod (tI.prod Ty.unit)).slice (Sp.choN x.1 x_1) /\ True ->
 q3 /\
 (q19 = true ->
 ((True /\ inN (↑x_1 : Int) q11 /\ q4) /\ True) /\
 ((True /\ True /\ True /\ q20 /\ q5) /\ True) /\
 (q25 = true -> q27 /\ ∃ (y : Nat), y <= q11 /\ q11 - y < q11 - x_1 /\ q26 = (↑y : Int) /\ Sp.choN x.1 x_1 = Sp.choN x.1 y /\ q16) /\
 (q25 = false ->
 ((True /\ True /\ True /\ True /\ q20 /\ True /\ inN q22 q24 /\ q1) /\ True /\ True) /\
 (q4 /\ True) /\
 (q30 = true -> (q5 /\ (↑((Sp.choN x.1 x_1).length + q31.length) : Int) <= aN /\ True /\ True) /\ q27 /\ ∃ (y : Nat), y <= q11 /\ q11 - y < q11 - x_1 /\ q26 = (↑y : Int) /\ Sp.choN x.1 x_1 ++ q31 = Sp.choN x.1 y /\ q16) /\
 (q30 = false ->
 ((True /\ True /\ True /\ q33 /\ q1) /\ True) /\
 ((True /\ True /\ True /\ True /\ True /\ True /\ inN (↑x_1 : Int) q18.length /\ q33 /\ q4) /\ True) /\
 (∃ (x_2 : Nat), (Sp.plV x.1 x_1 q34 <= (↑x_2 : Int) /\ x_2 <= q35) /\ Sp.plc q37 (List.getD (q18.getD q21 (List.replicate q0 q7)) q36 q7) = (↑x_2 : Int) /\ Sp.choN x.1 x_1 = Sp.choP x.1 x_1 x_2 /\ q39) /\
 ∀ (x_2 : Nat),
 let q45 : List (Int × Int × Unit) := Sp.choP x.1 x_1 x_2;
 let q46 : Bool := decide ((↑x_2 : Int) < q41);
 let q47 : Int := (↑x_2 : Int) + q8;
 let q48 : Prop := inK IntKind.i64 q47;
 let q49 : Bool := bif q42 then true else q47 == q41;
 let q50 : Prop := (true && bif q49 then false else true) = true;
 let q51 : Prop := q50 -> True;
 let q52 : Bool := bif q49 then true else !(q37.getD q47.toNat (q7, q7, false, ())).2.2.1;
 let q53 : List (Int × Int × Unit) := ((↑x_1 : Int), (↑x_2 : Int), ()) :: ([] : List tCho.den);
 let q54 : Prop := (True /\ q48 /\ True /\ True) /\ True;
 Sp.plV x.1 x_1 q34 <= (↑x_2 : Int) /\ x_2 <= q35 -> aD tI (↑x_2 : Int) /\ aD (tI.prod (tI.prod Ty.unit)).slice q45 /\ True -> (q5 /\ True) /\ (q46 = true -> ((True /\ True /\ True /\ True /\ q44 /\ (q43 -> q48) /\ q44 /\ q44 /\ q44 /\ True /\ True /\ q51 /\ q51 /\ (q50 -> q48) /\ (q50 -> inN q47 q40) /\ q51 /\ q51 /\ q51 /\ True /\ True) /\ True) /\ (q52 = true -> (q6 /\ (↑(q45.length + q53.length) : Int) <= aN /\ True /\ True) /\ q54 /\ ∃ (y : Nat), (Sp.plV x.1 x_1 q34 <= (↑y : Int) /\ y <= q35) /\ q35 - y < q35 - x_2 /\ q47 = (↑y : Int) /\ q45 ++ q53 = Sp.choP x.1 x_1 y /\ q39) /\ (q52 = false -> q54 /\ ∃ (y : Nat), (Sp.plV x.1 x_1 q34 <= (↑y : Int) /\ y <= q35) /\ q35 - y < q35 - x_2 /\ q47 = (↑y : Int) /\ q45 = Sp.choP x.1 x_1 y /\ q39)) /\ (q46 = false -> q27 /\ ∃ (y : Nat), y <= q11 /\ q11 - y < q11 - x_1 /\ q26 = (↑y : Int) /\ q45 = Sp.choN x.1 y /\ q16)))) /\
 (q19 = false -> q2 /\ Sp.choN x.1 x_1 = Sp.aE x.1)) := by kernel_rfl
theorem vc50 : (bV C50 (stpS C50) S50 L50 Try.f50) = (
let q0 : Prop := True /\ True /\ True;
let q1 : Prop := q0 /\ True;
let q2 : Int := (0 : Int);
let q3 : Prop := True /\ q0;
let q4 : Prop := True /\ q3;
let q5 : Prop := True /\ q4;
let q6 : Int := (1 : Int);
let q7 : Int × Unit := (q2, ());
let q8 : Sp.LOp := (q2, q2, q7);
∀ (x : Sp.VSt × Unit),
 let q9 : Nat := x.1.1.1.length;
 let q10 : Prop := x.1 = x.1;
 let q11 : Prop := q10 /\ True;
 let q12 : Nat := x.1.2.1.length;
 let q13 : List (List Int) := x.1.2.2.2.1;
 Sp.OkS x.1 ->
 aD tRSt x.1 /\ True ->
 q1 /\
 ((True /\ True) /\ True /\ True) /\
 ((True /\ True) /\ True) /\
 (∃ (x_1 : Nat), x_1 <= q9 /\ q2 = (↑x_1 : Int) /\ ([] : List tCho.den) = Sp.choN x.1 x_1 /\ q11) /\
 ∀ (x_1 : Nat),
 let q14 : Bool := decide ((↑x_1 : Int) < (↑q9 : Int));
 let q15 : Prop := inN (↑x_1 : Int) q12;
 let q16 : Prop := inN (↑x_1 : Int) q9;
 let q17 : Nat := (↑x_1 : Int).toNat;
 let q18 : Int := x.1.2.1.getD q17 q2;
 let q19 : List Sp.LOp := x.1.1.1.getD q17 (([] : List a9.den));
 let q20 : Nat := q19.length;
 let q21 : Bool := decide (q18 ≥ (↑q20 : Int));
 let q22 : Int := (↑x_1 : Int) + q6;
 let q23 : Prop := (True /\ inK IntKind.i64 q22 /\ True /\ True) /\ True;
 let q24 : Sp.LOp := q19.getD q18.toNat q8;
 let q25 : Int := q24.1;
 let q26 : Bool := q25 == (4 : Int);
 let q27 : List (Int × Int × Unit) := ((↑x_1 : Int), q7) :: ([] : List tCho.den);
 let q28 : Int := q24.2.1;
 let q29 : List Int := q13.getD q17 (([] : List tI.den));
 let q30 : Nat := (Sp.aI x.1 x_1).2.1.toNat;
 let q31 : Nat := (Sp.aC x.1 q30).length;
 let q32 : Nat := q28.toNat;
 let q33 : List Sp.Msg := x.1.2.2.1.getD q32 (([] : List tMsg.den));
 let q34 : Prop := q10 /\ (↑x_1 : Int) = (↑x_1 : Int) /\ q24 = q24 /\ q33 = q33 /\ True;
 let q35 : Nat := q33.length;
 let q36 : Int := (↑q35 : Int);
 let q37 : Bool := q25 == q6;
 let q38 : Prop := (true && bif q37 then false else true) = true;
 let q39 : Prop := q38 -> True;
 x_1 <= q9 ->
 aD tI (↑x_1 : Int) /\ aD (tI.prod (tI.prod Ty.unit)).slice (Sp.choN x.1 x_1) /\ True ->
 ((True /\ q5) /\ True) /\
 (q14 = true ->
 ((True /\ True /\ True /\ q15 /\ True /\ True /\ True /\ True /\ True /\ q16 /\ q3) /\ True) /\
 (q21 = true -> q23 /\ ∃ (y : Nat), y <= q9 /\ q9 - y < q9 - x_1 /\ q22 = (↑y : Int) /\ Sp.choN x.1 x_1 = Sp.choN x.1 y /\ q11) /\
 (q21 = false ->
 ((True /\ True /\ True /\ True /\ q16 /\ True /\ True /\ True /\ True /\ q15 /\ True /\ inN q18 q20 /\ q0) /\ True /\ True) /\
 (q3 /\ True) /\
 (q26 = true -> (q4 /\ (↑((Sp.choN x.1 x_1).length + q27.length) : Int) <= aN /\ True /\ True) /\ q23 /\ ∃ (y : Nat), y <= q9 /\ q9 - y < q9 - x_1 /\ q22 = (↑y : Int) /\ Sp.choN x.1 x_1 ++ q27 = Sp.choN x.1 y /\ q11) /\
 (q26 = false ->
 ((True /\ True /\ True /\ True /\ inN q28 x.1.2.2.1.length /\ q0) /\ True) /\
 ((True /\ True /\ True /\ True /\ inN (↑x_1 : Int) q13.length /\ True /\ True /\ True /\ inN q28 q29.length /\ q3) /\ True) /\
 (∃ (x_2 : Nat), (Sp.plV x.1 x_1 q30 <= (↑x_2 : Int) /\ x_2 <= q31) /\ Sp.plc q33 (q29.getD q32 q2) = (↑x_2 : Int) /\ Sp.choN x.1 x_1 = Sp.choP x.1 x_1 x_2 /\ q34) /\
 ∀ (x_2 : Nat),
 let q40 : List (Int × Int × Unit) := Sp.choP x.1 x_1 x_2;
 let q41 : Bool := decide ((↑x_2 : Int) < q36);
 let q42 : Int := (↑x_2 : Int) + q6;
 let q43 : Prop := inK IntKind.i64 q42;
 let q44 : Bool := bif q37 then true else q42 == q36;
 let q45 : Prop := (true && bif q44 then false else true) = true;
 let q46 : Prop := q45 -> True;
 let q47 : Bool := bif q44 then true else !(q33.getD q42.toNat (q2, q2, false, ())).2.2.1;
 let q48 : List (Int × Int × Unit) := ((↑x_1 : Int), (↑x_2 : Int), ()) :: ([] : List tCho.den);
 let q49 : Prop := (True /\ q43 /\ True /\ True) /\ True;
 Sp.plV x.1 x_1 q30 <= (↑x_2 : Int) /\ x_2 <= q31 -> aD tI (↑x_2 : Int) /\ aD (tI.prod (tI.prod Ty.unit)).slice q40 /\ True -> (q4 /\ True) /\ (q41 = true -> ((True /\ True /\ True /\ True /\ q39 /\ (q38 -> q43) /\ q39 /\ q39 /\ q39 /\ True /\ True /\ q46 /\ q46 /\ (q45 -> q43) /\ (q45 -> inN q42 q35) /\ q46 /\ q46 /\ q46 /\ True /\ True) /\ True) /\ (q47 = true -> (q5 /\ (↑(q40.length + q48.length) : Int) <= aN /\ True /\ True) /\ q49 /\ ∃ (y : Nat), (Sp.plV x.1 x_1 q30 <= (↑y : Int) /\ y <= q31) /\ q31 - y < q31 - x_2 /\ q42 = (↑y : Int) /\ q40 ++ q48 = Sp.choP x.1 x_1 y /\ q34) /\ (q47 = false -> q49 /\ ∃ (y : Nat), (Sp.plV x.1 x_1 q30 <= (↑y : Int) /\ y <= q31) /\ q31 - y < q31 - x_2 /\ q42 = (↑y : Int) /\ q40 = Sp.choP x.1 x_1 y /\ q34)) /\ (q41 = false -> q23 /\ ∃ (y : Nat), y <= q9 /\ q9 - y < q9 - x_1 /\ q22 = (↑y : Int) /\ q40 = Sp.choN x.1 y /\ q11)))) /\
 (q14 = false -> q1 /\ Sp.choN x.1 x_1 = Sp.aE x.1)) := by kernel_rfl
theorem vc31 : (bV C31 (stpS C31) S31 L31 Try.f31) = (
let q0 : Nat := (3 : Nat);
let q1 : Prop := True /\ True /\ True;
∀ (x : Sp.VSt × Unit), Sp.OkS x.1 -> aD (tLit.prod (tI.slice.prod ((Ty.arr q0 tMsg.slice).prod ((Ty.arr q0 tI).slice.prod ((Ty.arr q0 tI).prod (tI.slice.prod bO)))))) x.1 /\ True -> (q1 /\ True) /\ ((True /\ Sp.OkS x.1 /\ q1) /\ True) /\ (↑(Sp.aE x.1).length : Int) = (↑(Sp.aE x.1).length : Int)) := by kernel_rfl
theorem vc26 : (bV C26 (stpS C26) S26 L26 Try.f26) = (
let q0 : Nat := (3 : Nat);
let q1 : Prop := True /\ True /\ True;
let q2 : Int := (0 : Int);
∀ (x : Sp.VSt × Unit),
 let q3 : Int := (↑(Sp.aE x.1).length : Int);
 Sp.OkS x.1 -> aD (tLit.prod (tI.slice.prod ((Ty.arr q0 tMsg.slice).prod ((Ty.arr q0 tI).slice.prod ((Ty.arr q0 tI).prod (tI.slice.prod bO)))))) x.1 /\ True -> (q1 /\ True) /\ ((True /\ Sp.OkS x.1 /\ q1) /\ True) /\ (q3 == q2) = decide (q3 = q2)) := by kernel_rfl
theorem vc54 : (bV C54 (stpS C54) S54 L54 Try.f54) = (
let q0 : Nat := (3 : Nat);
let q1 : Prop := True /\ True /\ True;
let q2 : Prop := True /\ q1;
let q3 : Prop := q2 /\ True;
let q4 : Int := (0 : Int);
let q5 : Nat := (1000000 : Nat);
let q6 : Int := (1 : Int);
let q7 : Sp.LOp := (q4, q4, q4, ());
let q8 : List Int := List.replicate q0 q4;
let q9 : Sp.VSt := ((([] : List a9.slice.den), ()), ([] : List tI.den), List.replicate q0 (([] : List tMsg.den)), ([] : List tV3.den), q8, ([] : List tI.den), ([] : List tI.den), ([] : List tI.den), ());
let q10 : Prop := q9 = q9;
let q11 : Int := (3 : Int);
let q12 : Nat := (0 : Nat);
let q13 : Prop := (True /\ True) /\ True /\ True;
let q14 : Bool × Unit := (false, ());
let q15 : Sp.Msg := (q4, q4, q14);
let q16 : Nat := (2 : Nat);
let q17 : Prop := q16 = q16;
let q18 : List Step := Step.fst :: ([] : List Step);
let q19 : List Step := Step.snd :: q18;
let q20 : List Step := Step.snd :: q19;
let q21 : List Step := Step.snd :: q20;
let q22 : List Step := Step.snd :: q21;
let q23 : List Step := Step.snd :: q22;
let q24 : List Step := List.append._f (([] : List Step)) PUnit.unit q23;
let q25 : Prop := q17 /\ q24 = q24;
let q26 : List Step := List.append._f (([] : List Step)) PUnit.unit (Step.snd :: q23);
let q27 : Prop := q17 /\ q26 = q26;
let q28 : Nat := (11 : Nat);
let q29 : Prop := q28 = q28;
let q30 : List Step := List.append._f (([] : List Step)) PUnit.unit q19;
let q31 : List Step := List.append._f (([] : List Step)) PUnit.unit q18;
let q32 : Prop := True /\ True /\ q2;
let q33 : Prop := q32 /\ True /\ True;
let q34 : Prop := (True /\ q32) /\ q2;
∀ (x : Sp.VSt × (Int × Int × Unit) × Unit),
 let q35 : Nat := x.1.1.1.length;
 let q36 : Nat := x.1.2.1.length;
 let q37 : Nat := x.2.1.1.toNat;
 let q38 : Int := Sp.bA x.1 q37;
 let q39 : Prop := inN x.2.1.1 q36;
 let q40 : Int := x.1.2.1.getD q37 q4;
 let q41 : List Sp.LOp := x.1.1.1.getD q37 (([] : List a9.den));
 let q42 : List (List Int) := x.1.2.2.2.1;
 let q43 : Nat := q42.length;
 let q44 : Int := q40 + q6;
 let q45 : Sp.LOp := q41.getD q40.toNat q7;
 let q46 : Int := q45.1;
 let q47 : Bool := q46 == (4 : Int);
 let q48 : List Int := x.1.2.1.set q37 q44;
 let q49 : List Int × List Int × Sp.Out := x.1.2.2.2.2;
 let q50 : List Int := Sp.nPc x.1 x.2.1;
 let q51 : List Int := q49.1;
 let q52 : List Int × Sp.Out := q49.2;
 let q53 : List Int := q52.1;
 let q54 : Sp.Out := q52.2;
 let q55 : List Int := q54.1;
 let q56 : List Int × Unit := q54.2;
 let q57 : List Int := q56.1;
 let q58 : List Int × List Int × Sp.Out := (q51, q53, q55, q57, ());
 let q59 : Int := Sp.evt x.1 x.2.1.1;
 let q60 : Prop := q59 = q59;
 let q61 : Prop := x.2.1 = x.2.1 /\ q10 /\ x.2.1.1 = x.2.1.1 /\ q60 /\ q45 = q45 /\ x.1.2.2.1 = x.1.2.2.1 /\ True;
 let q62 : Nat := q57.length;
 let q63 : Int := (↑q62 : Int);
 let q64 : List Int := win q4 q63 q57;
 let q65 : List Int := q59 :: ([] : List tI.den);
 let q66 : Nat := q65.length;
 let q67 : Sp.VSt := (x.1.1, q50, Sp.nMem x.1 x.2.1, Sp.nVw x.1 x.2.1, Sp.nFe x.1 x.2.1, Sp.nR x.1 x.2.1, Sp.nFr x.1 x.2.1, Sp.nFo x.1 x.2.1, ());
 let q68 : Int × Int × Unit := q45.2;
 let q69 : Int := q68.1;
 let q70 : Prop := inN q69 q0;
 let q71 : Nat := q69.toNat;
 let q72 : List Sp.Msg := x.1.2.2.1.getD q71 (([] : List tMsg.den));
 let q73 : Nat := q72.length;
 let q74 : Bool := q46 != (2 : Int);
 let q75 : Nat := q53.length;
 let q76 : Nat := q55.length;
 let q77 : Nat := q59.toNat;
 let q78 : Sp.Msg := q72.getD x.2.1.2.1.toNat q15;
 let q79 : Int := q78.2.1;
 let q80 : List Int := q53.set q77 q79;
 let q81 : Int := q78.1;
 let q82 : List Step := List.append._f q23 ⟨List.append._f q22 ⟨List.append._f q21 ⟨List.append._f q20 ⟨List.append._f q19 ⟨List.append._f q18 ⟨List.append._f (([] : List Step)) PUnit.unit, PUnit.unit⟩, List.append._f (([] : List Step)) PUnit.unit, PUnit.unit⟩, List.append._f q18 ⟨List.append._f (([] : List Step)) PUnit.unit, PUnit.unit⟩, List.append._f (([] : List Step)) PUnit.unit, PUnit.unit⟩, List.append._f q19 ⟨List.append._f q18 ⟨List.append._f (([] : List Step)) PUnit.unit, PUnit.unit⟩, List.append._f (([] : List Step)) PUnit.unit, PUnit.unit⟩, List.append._f q18 ⟨List.append._f (([] : List Step)) PUnit.unit, PUnit.unit⟩, List.append._f (([] : List Step)) PUnit.unit, PUnit.unit⟩, List.append._f q20 ⟨List.append._f q19 ⟨List.append._f q18 ⟨List.append._f (([] : List Step)) PUnit.unit, PUnit.unit⟩, List.append._f (([] : List Step)) PUnit.unit, PUnit.unit⟩, List.append._f q18 ⟨List.append._f (([] : List Step)) PUnit.unit, PUnit.unit⟩, List.append._f (([] : List Step)) PUnit.unit, PUnit.unit⟩, List.append._f q19 ⟨List.append._f q18 ⟨List.append._f (([] : List Step)) PUnit.unit, PUnit.unit⟩, List.append._f (([] : List Step)) PUnit.unit, PUnit.unit⟩, List.append._f q18 ⟨List.append._f (([] : List Step)) PUnit.unit, PUnit.unit⟩, List.append._f (([] : List Step)) PUnit.unit, PUnit.unit⟩, List.append._f q21 ⟨List.append._f q20 ⟨List.append._f q19 ⟨List.append._f q18 ⟨List.append._f (([] : List Step)) PUnit.unit, PUnit.unit⟩, List.append._f (([] : List Step)) PUnit.unit, PUnit.unit⟩, List.append._f q18 ⟨List.append._f (([] : List Step)) PUnit.unit, PUnit.unit⟩, List.append._f (([] : List Step)) PUnit.unit, PUnit.unit⟩, List.append._f q19 ⟨List.append._f q18 ⟨List.append._f (([] : List Step)) PUnit.unit, PUnit.unit⟩, List.append._f (([] : List Step)) PUnit.unit, PUnit.unit⟩, List.append._f q18 ⟨List.append._f (([] : List Step)) PUnit.unit, PUnit.unit⟩, List.append._f (([] : List Step)) PUnit.unit, PUnit.unit⟩, List.append._f q20 ⟨List.append._f q19 ⟨List.append._f q18 ⟨List.append._f (([] : List Step)) PUnit.unit, PUnit.unit⟩, List.append._f (([] : List Step)) PUnit.unit, PUnit.unit⟩, List.append._f q18 ⟨List.append._f (([] : List Step)) PUnit.unit, PUnit.unit⟩, List.append._f (([] : List Step)) PUnit.unit, PUnit.unit⟩, List.append._f q19 ⟨List.append._f q18 ⟨List.append._f (([] : List Step)) PUnit.unit, PUnit.unit⟩, List.append._f (([] : List Step)) PUnit.unit, PUnit.unit⟩, List.append._f q18 ⟨List.append._f (([] : List Step)) PUnit.unit, PUnit.unit⟩, List.append._f (([] : List Step)) PUnit.unit, PUnit.unit⟩ (Step.idx q77 :: ([] : List Step));
 let q83 : Bool := q46 == q6;
 let q84 : Prop := q83 = true;
 let q85 : Prop := q70 /\ True;
 let q86 : Prop := True /\ True /\ True /\ True /\ True /\ True /\ inN x.2.1.1 q43 /\ q85;
 let q87 : Prop := (True /\ q86) /\ True /\ True;
 let q88 : List Int := q42.getD q37 q8;
 let q89 : List (List Int) := q42.set q37 (q88.set q71 q81);
 let q90 : List Int × List Int × Sp.Out := (q51, q80, q55.set q77 q81, q56);
 let q91 : Prop := q83 = false;
 let q92 : Bool := q46 == q11;
 let q93 : Prop := q92 = true;
 let q94 : Int := x.2.1.2.1 + q6;
 let q95 : Prop := inK IntKind.i64 q94;
 let q96 : Prop := winI q4 q94 q73 /\ q94 = q94;
 let q97 : List Sp.Msg := win q4 q94 q72;
 let q98 : Nat := q97.length;
 let q99 : Int := q68.2.1;
 let q100 : List Sp.Msg := (q59, IntKind.i64.wrap (q79 + q99), true, ()) :: ([] : List tMsg.den);
 let q101 : Nat := q100.length;
 let q102 : Int := (↑q73 : Int);
 let q103 : Prop := winI q94 q102 q73;
 let q104 : List Sp.Msg := q97 ++ q100;
 let q105 : List Sp.Msg := win q94 q102 q72;
 let q106 : Nat := q105.length;
 let q107 : Prop := True /\ q85;
 let q108 : Prop := (True /\ True /\ True /\ True /\ True /\ q95 /\ True /\ True /\ q95 /\ q96 /\ True /\ True /\ ((↑(q98 + q101) : Int) <= aN /\ q12 < q101) /\ True /\ True /\ True /\ q95 /\ q103 /\ (↑(q104.length + q106) : Int) <= aN /\ q107) /\ True /\ True;
 let q109 : Prop := q86 /\ True /\ True;
 let q110 : List (List Sp.Msg) := x.1.2.2.1.set q71 (q104 ++ q105);
 let q111 : List (List Int) := q42.set q37 (q88.set q71 q59);
 let q112 : List (List Int) × List Int × List Int × Sp.Out := (q111, q90);
 let q113 : Prop := q92 = false;
 let q114 : List Sp.Msg := (q59, q99, q14) :: ([] : List tMsg.den);
 let q115 : Nat := q114.length;
 let q116 : List Sp.Msg := q97 ++ q114;
 let q117 : Prop := (True /\ True /\ True /\ True /\ True /\ q95 /\ True /\ True /\ q95 /\ q96 /\ True /\ True /\ ((↑(q98 + q115) : Int) <= aN /\ q12 < q115) /\ True /\ True /\ True /\ q95 /\ q103 /\ (↑(q116.length + q106) : Int) <= aN /\ q107) /\ True /\ True;
 let q118 : List (List Sp.Msg) := x.1.2.2.1.set q71 (q116 ++ q105);
 let q119 : List (List Int) × List Int × List Int × Sp.Out := (q111, q49);
 Sp.okX x.1 x.2.1 ->
 aD (tLit.prod (tI.slice.prod ((Ty.arr q0 tMsg.slice).prod ((Ty.arr q0 tI).slice.prod ((Ty.arr q0 tI).prod (tI.slice.prod bO)))))) x.1 /\ aD (tI.prod (tI.prod Ty.unit)) x.2.1 /\ True ->
 q3 /\
 ((True /\ True /\ True /\ True /\ True /\ (Sp.aB x.1.1.1 <= (1000 : Nat) /\ (0 : (AK.val tI).den) <= x.2.1.1 /\ x.2.1.1 < (↑q35 : Int) /\ q36 = q35 /\ q4 <= q38 /\ q38 <= (1000 : Int)) /\ q1) /\ True) /\
 ((True /\ True /\ True /\ True /\ inN x.2.1.1 q35 /\ True /\ True /\ True /\ True /\ q39 /\ True /\ inN q40 q41.length /\ q1) /\ True /\ True) /\
 ((True /\ True /\ q36 <= q5 /\ True /\ True /\ q43 <= q5 /\ True /\ True) /\ q2) /\
 ((True /\ True /\ True /\ q39 /\ True /\ inK IntKind.i64 q44 /\ q39 /\ True) /\ True /\ True) /\
 q3 /\
 (q47 = true ->
 q3 /\
 (∃ (x_1 : Nat), x_1 <= q0 /\ q4 = (↑x_1 : Int) /\ (x.1.1, q48, x.1.2.2.1, q42, q49) = (x.1.1, q50, x.1.2.2.1, Sp.vwN x.1 (Sp.ofC x.2.1) x_1, q58) /\ q61) /\
 ∀ (x_1 : Nat),
 let q120 : List (List Int) := Sp.vwN x.1 (Sp.ofC x.2.1) x_1;
 let q121 : Sp.VSt := (x.1.1, q50, x.1.2.2.1, q120, q58);
 let q122 : Bool := decide ((↑x_1 : Int) < q11);
 let q123 : Prop := inN (↑x_1 : Int) q0;
 let q124 : Prop := inN x.2.1.1 q120.length;
 let q125 : Nat := (↑x_1 : Int).toNat;
 let q126 : List Sp.Msg := x.1.2.2.1.getD q125 (([] : List tMsg.den));
 let q127 : List Int := q120.getD q37 q8;
 let q128 : Int := q51.getD q125 q4;
 let q129 : Bool := decide (Sp.plc q126 (q127.getD q125 q4) < Sp.plc q126 q128);
 let q130 : Int := (↑x_1 : Int) + q6;
 let q131 : Prop := (inK IntKind.i64 q130 /\ True /\ True) /\ True;
 x_1 <= q0 -> aD tI (↑x_1 : Int) /\ aD (tLit.prod (tI.slice.prod ((Ty.arr q0 tMsg.slice).prod ((Ty.arr q0 tI).slice.prod ((Ty.arr q0 tI).prod (tI.slice.prod bO)))))) q121 /\ True -> ((True /\ True) /\ True) /\ (q122 = true -> ((True /\ q123 /\ q1) /\ True) /\ ((True /\ True /\ True /\ True /\ True /\ q124 /\ q123 /\ True /\ True /\ True /\ True /\ True /\ q123 /\ q2) /\ True) /\ (q129 = true -> ((True /\ True /\ True /\ True /\ True /\ True /\ q123 /\ True /\ q124 /\ q123 /\ True) /\ True /\ True) /\ q131 /\ ∃ (y : Nat), y <= q0 /\ q0 - y < q0 - x_1 /\ q130 = (↑y : Int) /\ (x.1.1, q50, x.1.2.2.1, q120.set q37 (q127.set q125 q128), q58) = (x.1.1, q50, x.1.2.2.1, Sp.vwN x.1 (Sp.ofC x.2.1) y, q58) /\ q61) /\ (q129 = false -> q131 /\ ∃ (y : Nat), y <= q0 /\ q0 - y < q0 - x_1 /\ q130 = (↑y : Int) /\ q121 = (x.1.1, q50, x.1.2.2.1, Sp.vwN x.1 (Sp.ofC x.2.1) y, q58) /\ q61)) /\ (q122 = false -> ((True /\ True /\ True /\ q124 /\ q1) /\ True /\ True) /\ ((True /\ True /\ True /\ True /\ True /\ True /\ True /\ True /\ (winI q4 q63 q62 /\ q63 = q63) /\ True /\ True /\ ((↑(q64.length + q66) : Int) <= aN /\ q12 < q66) /\ True /\ True) /\ True /\ True) /\ q13 /\ (x.1.1, q50, x.1.2.2.1, q120, q127, q53, q55, q64 ++ q65, ()) = q67)) /\
 (q47 = false -> ((True /\ True /\ True /\ q70 /\ q1) /\ True) /\ ((True /\ True /\ True /\ inN x.2.1.2.1 q73 /\ q1) /\ True /\ True) /\ q3 /\ (q74 = true -> ((True /\ True /\ q75 <= q5 /\ True /\ True /\ q76 <= q5 /\ True /\ True) /\ q2) /\ (((True /\ True /\ True /\ True /\ True /\ True /\ True /\ True /\ True /\ True /\ inN q59 q75 /\ True) /\ (True /\ True /\ True /\ True /\ True /\ True /\ True /\ True /\ True /\ True /\ inN q59 q80.length /\ True) /\ q25 /\ q25 /\ q60 /\ q27 /\ q27 /\ q60 /\ (q29 /\ q30 = q30) /\ q79 = q79 /\ (q29 /\ q31 = q31) /\ q81 = q81 /\ (q17 /\ q82 = q82) /\ True) /\ inN q59 q76 /\ True /\ True) /\ q3 /\ (q84 -> q87 /\ q13 /\ (x.1.1, q48, x.1.2.2.1, q89, q90) = q67) /\ (q91 -> q33 /\ q3 /\ (q93 -> q34 /\ q108 /\ q109 /\ q13 /\ (x.1.1, q48, q110, q112) = q67) /\ (q113 -> q117 /\ q109 /\ q13 /\ (x.1.1, q48, q118, q112) = q67))) /\ (q74 = false -> q3 /\ (q84 -> q87 /\ q13 /\ (x.1.1, q48, x.1.2.2.1, q89, q49) = q67) /\ (q91 -> q33 /\ q3 /\ (q93 -> q34 /\ q108 /\ q109 /\ q13 /\ (x.1.1, q48, q110, q119) = q67) /\ (q113 -> q117 /\ q109 /\ q13 /\ (x.1.1, q48, q118, q119) = q67))))) := by kernel_rfl
end Go.User
