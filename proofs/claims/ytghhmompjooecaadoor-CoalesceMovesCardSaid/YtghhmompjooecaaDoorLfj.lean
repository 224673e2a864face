/- Written by gen.py: what is left to show of each function. Written by gen.py: what is left to show of each function. Plain facts about lists, places, numbers: free of any seat. Segments: the reference's small functions compute what they should. Segments: more of the reference computes what it should. How many ones a number has: fields without carry; the steps of the count. Segments: the reference's Form, Lanes, Static, Moves, words compute what they should. Segments: the reference's Static, Moves, words; the number of ones. Segments: the reference's Moves; words; the number of ones. The number of ones: OnesCount64. Bounds of transactions: plain facts. Sharp bounds: plain facts. Contracts of the library at this program (written by lay-plain.mjs). Segments: what it hands back. Segments computes the segments. Bits: the number of trailing and of leading zeros. The places of the ones of a number: the lowest, the highest, without the lowest. -/
import Derived.Test.YtghhmompjooecaaDoorLfi
import Derived.Shelf.SlIterI.Nil
import Derived.Shelf.SortM.Plain
import Derived.Shelf.SortM.SortNone
import Derived.Ground.GgzProg
import Derived.Ground.SlgmProg
import Derived.Test.YtghhmompjooecaaDoorProg
import Derived.Maps.OwnSet
import Derived.Maps.OwnIn
import Derived.OwnWalkIn
import Derived.TacticsInMore
import Derived.LoopNIn
import Derived.LoopIn
import Derived.WalkKit
import Derived.Shelf.Spec.TrailingZeros
import Derived.Lib.TrailingZeros
import Derived.Lib.BitFns
set_option linter.unusedVariables false
set_option linter.unusedSimpArgs false
namespace Go.User
open Go.Proofs Go.Lf
set_option maxRecDepth 100000
theorem vc10 : (funI C10 (stpS C10) S10 L10 Tryd.f10) = (
let q0 : Prop := True /\ True /\ True;
let q1 : Prop := q0 /\ True;
let q2 : Prop := True /\ True /\ True /\ q0;
let q3 : Int := (0 : Int);
let q4 : Int := (24 : Int);
let q5 : Prop := q2 /\ True /\ True;
let q6 : Int := (8 : Int);
let q7 : Prop := q6 ≠ q3;
let q8 : Prop := (True /\ True /\ q7 /\ True /\ True) /\ True;
let q9 : Int := (64 : Int);
let q10 : Prop := (True /\ True) /\ True /\ True;
∀ (x : (Bool × Int × Int × Int × Int × Int × Int × Bool × Unit) × Unit),
 let q11 : Int × Int × Int × Bool × Unit := x.1.2.2.2.2;
 let q12 : Int × Int × Bool × Unit := q11.2;
 let q13 : Int × Bool × Unit := q12.2;
 let q14 : Bool := q13.2.1;
 let q15 : Int := q13.1 % q6;
 let q16 : Bool := decide (q15 > q3);
 let q17 : Prop := q16 = true;
 let q18 : Int := q12.1 % q9 + (1 : Int);
 let q19 : Prop := (True /\ True /\ q9 ≠ q3 /\ True /\ inK IntKind.i64 q18 /\ q0) /\ True /\ True;
 let q20 : Int := q18 * q15;
 let q21 : Int := q11.1;
 let q22 : Int := q21 + q20;
 let q23 : Prop := (True /\ True /\ True /\ True /\ True /\ True /\ True /\ True /\ q7 /\ True /\ inK IntKind.i64 q20 /\ inK IntKind.i64 q22 /\ q0) /\ True /\ True;
 let q24 : Int := IntKind.i64.wrap (x.1.2.1 * (2 : Int) ^ shiftN IntKind.i64 q4);
 let q25 : Int := x.1.2.2.2.1;
 let q26 : Int × Int × (Int × Int × Int × Unit) × Unit := (x.1.2.2.1, q25, (q21, q22, q18, ()), ());
 let q27 : Bool × Int × Int × Int × (Int × Int × Int × Unit) × Unit := (x.1.1, Sp.fItem x.1, x.1.2.2.1, q25, (q21, Sp.fHi x.1, Sp.fSt x.1, ()), ());
 let q28 : Prop := q16 = false;
 let q29 : Int × Int × (Int × Int × Int × Unit) × Unit := (x.1.2.2.1, q25, (q21, q21, q3, ()), ());
 True -> dFact (Ty.bool.prod ((Ty.int IntKind.i16).prod ((Ty.int IntKind.i16).prod ((Ty.int IntKind.i16).prod ((Ty.int IntKind.i32).prod ((Ty.int IntKind.u16).prod ((Ty.int IntKind.u16).prod (Ty.bool.prod Ty.unit)))))))) x.1 /\ True -> q1 /\ ((True /\ True /\ True /\ True /\ True /\ True /\ True /\ True /\ q2) /\ True /\ True) /\ q1 /\ (q14 = true -> ((True /\ True /\ q3 <= q4 /\ True /\ True) /\ True /\ True) /\ q5 /\ q5 /\ q8 /\ (q17 -> q19 /\ q23 /\ q10 /\ (x.1.1, q24, q26) = q27) /\ (q28 -> q10 /\ (x.1.1, q24, q29) = q27)) /\ (q14 = false -> q5 /\ q5 /\ q8 /\ (q17 -> q19 /\ q23 /\ q10 /\ (x.1.1, x.1.2.1, q26) = q27) /\ (q28 -> q10 /\ (x.1.1, x.1.2.1, q29) = q27))) := by kernel_rfl
theorem vc18 : (funI C18 (stpS C18) S18 L18 Tryd.f18) = (
let q0 : Int := (0 : Int);
∀ (x : Int × Int × Int × Unit), True -> dFact (Ty.int IntKind.i64) x.1 /\ dFact (Ty.int IntKind.i64) x.2.1 /\ dFact (Ty.int IntKind.i64) x.2.2.1 /\ True -> ((True /\ True) /\ True) /\ ((True /\ True /\ True /\ True /\ True) /\ True /\ True) /\ (x.1, q0, q0, q0, q0, q0, x.2.1, x.2.2.1, q0, ()) = Sp.ev x.1 x.2.1 x.2.2.1) := by kernel_rfl
theorem vc21 : (funI C21 (stpS C21) S21 L21 Tryd.f21) = (
let q0 : Int := (0 : Int);
∀ (x : Int × Unit), True -> dFact (Ty.int IntKind.i64) x.1 /\ True -> ((True /\ True) /\ True) /\ ((True /\ True /\ True) /\ True /\ True) /\ (false, q0, x.1, q0, (q0, q0, q0, ()), ()) = Sp.form0 x.1) := by kernel_rfl
theorem vc30 : (funI C30 (stpS C30) S30 L30 Tryd.f30) = (
let q0 : Prop := True /\ True /\ True;
let q1 : Int := (1 : Int);
let q2 : Int := (0 : Int);
∀ (x : (Int × Int × Int × Int × Int × Int × Int × Int × Int × Unit) × List (List UInt8 × Int × Int × Int × Unit) × Unit),
 let q3 : Bool := decide (x.1.1 ≥ q1);
 let q4 : Prop := (true && bif q3 then true else false) = true -> True;
 let q5 : Bool := bif q3 then decide (x.1.1 <= (3 : Int)) else false;
 let q6 : Prop := (true && bif q5 then true else false) = true -> True;
 let q7 : Int := x.1.2.2.2.2.2.2.1;
 let q8 : Bool := bif q5 then decide (q7 ≥ q2) else false;
 let q9 : Prop := (true && bif q8 then true else false) = true -> True;
 let q10 : Nat := x.2.1.length;
 let q11 : Bool := bif q8 then decide (q7 < (↑q10 : Int)) else false;
 let q12 : Prop := (true && bif q11 then true else false) = true;
 let q13 : Prop := q12 -> True;
 True -> dFact ((Ty.int IntKind.i64).prod ((Ty.int IntKind.i64).prod ((Ty.int IntKind.i64).prod ((Ty.int IntKind.i64).prod ((Ty.int IntKind.i64).prod ((Ty.int IntKind.i64).prod ((Ty.int IntKind.i64).prod ((Ty.int IntKind.i64).prod ((Ty.int IntKind.i32).prod Ty.unit))))))))) x.1 /\ dFact (Ty.str.prod ((Ty.int IntKind.i64).prod ((Ty.int IntKind.i64).prod ((Ty.int IntKind.i64).prod Ty.unit)))).slice x.2.1 /\ True -> (q0 /\ True) /\ ((True /\ True /\ True /\ True /\ q4 /\ q4 /\ q4 /\ True /\ True /\ q6 /\ q6 /\ q6 /\ True /\ True /\ q9 /\ q9 /\ q9 /\ q9 /\ q9 /\ True /\ True /\ q13 /\ q13 /\ q13 /\ (q12 -> inN q7 q10) /\ q13 /\ q13 /\ q13 /\ q0) /\ True) /\ (bif q11 then (x.2.1.getD q7.toNat (([] : List UInt8), q2, q2, q2, ())).2.1 == q1 else false) = Sp.counts x.1 x.2.1) := by kernel_rfl
theorem vc15 : (funI C15 (stpS C15) S15 L15 Tryd.f15) = (
let q0 : Nat := (1000000 : Nat);
let q1 : Prop := (True /\ True) /\ True;
let q2 : Prop := True /\ True /\ True;
let q3 : Prop := q2 /\ True;
let q4 : Int := (0 : Int);
let q5 : Prop := (True /\ True /\ q2) /\ True;
let q6 : Int := (1 : Int);
∀ (x : List Int × Unit),
 let q7 : Nat := x.1.length;
 let q8 : Prop := x.1 = x.1;
 let q9 : Prop := q8 /\ True;
 let q10 : Nat := (Sp.segs x.1).length;
 q7 <= q0 ->
 dFact (Ty.int IntKind.i64).slice x.1 /\ True ->
 q1 /\
 q3 /\
 q1 /\
 (∃ (x_1 : Nat), x_1 <= q7 /\ ([] : List tI.den) = Sp.segs (List.take x_1 x.1) /\ q4 = (↑x_1 : Int) /\ q9) /\
 ∀ (x_1 : Nat),
 let q11 : List Int := Sp.segs (List.take x_1 x.1);
 let q12 : Bool := decide ((↑x_1 : Int) < (↑q7 : Int));
 let q13 : Nat := q11.length;
 let q14 : Int := (↑x_1 : Int) + q6;
 let q15 : Prop := q8 /\ q11 = q11 /\ True;
 x_1 <= q7 ->
 dFact (Ty.int IntKind.i64).slice q11 /\ dFact (Ty.int IntKind.i64) (↑x_1 : Int) /\ True ->
 q5 /\
 (q12 = true -> ((True /\ True /\ True /\ inN (↑x_1 : Int) q7 /\ True /\ True /\ (q13 <= q0 /\ Sp.incr q11) /\ True /\ True) /\ True) /\ ((True /\ inK IntKind.i64 q14 /\ True /\ True) /\ True) /\ ∃ (y : Nat), y <= q7 /\ q7 - y < q7 - x_1 /\ Sp.added q11 (x.1.getD (↑x_1 : Int).toNat q4 / (16 : tI.den)) = Sp.segs (List.take y x.1) /\ q14 = (↑y : Int) /\ q9) /\
 (q12 = false ->
 ((True /\ True) /\ True /\ True) /\
 q1 /\
 (∃ (x_2 : Nat), x_2 <= q10 /\ ([] : List tI.den) = List.take x_2 (Sp.segs x.1) /\ q4 = (↑x_2 : Int) /\ q15) /\
 ∀ (x_2 : Nat),
 let q16 : List Int := List.take x_2 (Sp.segs x.1);
 let q17 : Bool := decide ((↑x_2 : Int) < (↑q13 : Int));
 let q18 : List Int := q11.getD (↑x_2 : Int).toNat q4 :: ([] : List tI.den);
 let q19 : Int := (↑x_2 : Int) + q6;
 x_2 <= q10 -> dFact (Ty.int IntKind.i64).slice q16 /\ dFact (Ty.int IntKind.i64) (↑x_2 : Int) /\ True -> q5 /\ (q17 = true -> ((True /\ True /\ True /\ inN (↑x_2 : Int) q13 /\ q2) /\ (↑(q16.length + q18.length) : Int) <= maxNew /\ True /\ True) /\ ((True /\ inK IntKind.i64 q19 /\ True /\ True) /\ True) /\ ∃ (y : Nat), y <= q10 /\ q10 - y < q10 - x_2 /\ q16 ++ q18 = List.take y (Sp.segs x.1) /\ q19 = (↑y : Int) /\ q15) /\ (q17 = false -> q3 /\ q16 = Sp.segs x.1))) := by kernel_rfl
theorem vc19 : (funI C19 (stpS C19) S19 L19 Tryd.f19) = (
let q0 : Prop := (True /\ True) /\ True;
let q1 : Nat := (64 : Nat);
let q2 : Int := (0 : Int);
let q3 : Prop := True /\ True /\ True;
let q4 : Int := (1 : Int);
∀ (x : Int × Int × Unit),
 let q5 : Prop := x.1 = x.1 /\ x.2.1 = x.2.1 /\ True;
 True ->
 dFact (Ty.int IntKind.i64) x.1 /\ dFact (Ty.int IntKind.u64) x.2.1 /\ True ->
 q0 /\
 ((True /\ True) /\ True /\ True) /\
 q0 /\
 (∃ (x_1 : Nat), x_1 <= q1 /\ ([] : List tI.den) = Sp.lanes (Min.min x.1 (↑x_1 : Int)) x.2.1 /\ q2 = (↑x_1 : Int) /\ q5) /\
 ∀ (x_1 : Nat),
 let q6 : List Int := Sp.lanes (Min.min x.1 (↑x_1 : Int)) x.2.1;
 let q7 : Bool := decide ((↑x_1 : Int) < x.1);
 let q8 : Prop := (true && bif q7 then true else false) = true -> True;
 let q9 : Bool := bif q7 then decide ((↑x_1 : Int) < (64 : Int)) else false;
 let q10 : Int := IntKind.u64.wrap (↑x_1 : Int);
 let q11 : Bool := IntKind.u64.wrap (↑(BitVec.ofInt q1 (x.2.1 / (2 : (Ty.int IntKind.u64).den) ^ shiftN IntKind.u64 q10) &&& BitVec.ofInt q1 q4).toNat : Int) == q4;
 let q12 : List Int := (↑x_1 : Int) :: ([] : List tI.den);
 let q13 : Int := (↑x_1 : Int) + q4;
 let q14 : Prop := (True /\ inK IntKind.i64 q13 /\ True /\ True) /\ True;
 x_1 <= q1 -> dFact (Ty.int IntKind.i64).slice q6 /\ dFact (Ty.int IntKind.i64) (↑x_1 : Int) /\ True -> ((True /\ True /\ True /\ True /\ q8 /\ q8 /\ True /\ True) /\ True) /\ (q9 = true -> ((True /\ True /\ True /\ q2 <= q10 /\ q3) /\ True) /\ (q11 = true -> ((True /\ q3) /\ (↑(q6.length + q12.length) : Int) <= maxNew /\ True /\ True) /\ q14 /\ ∃ (y : Nat), y <= q1 /\ q1 - y < q1 - x_1 /\ q6 ++ q12 = Sp.lanes (Min.min x.1 (↑y : Int)) x.2.1 /\ q13 = (↑y : Int) /\ q5) /\ (q11 = false -> q14 /\ ∃ (y : Nat), y <= q1 /\ q1 - y < q1 - x_1 /\ q6 = Sp.lanes (Min.min x.1 (↑y : Int)) x.2.1 /\ q13 = (↑y : Int) /\ q5)) /\ (q9 = false -> (q3 /\ True) /\ q6 = Sp.lanes x.1 x.2.1)) := by kernel_rfl
end Go.User
namespace Go.User
open Go.Proofs Go.Lf
set_option maxRecDepth 100000
theorem vc13 : (funI C13 (stpS C13) S13 L13 Tryd.f13) = (
let q0 : Prop := (True /\ True) /\ True;
let q1 : Prop := True /\ True /\ True;
let q2 : Prop := True /\ True /\ q1;
let q3 : Int := (0 : Int);
let q4 : Int := (1 : Int);
∀ (x : List Int × List Int × Unit),
 let q5 : Nat := x.1.length;
 let q6 : Int := (↑q5 : Int);
 let q7 : Nat := x.2.1.length;
 let q8 : Bool := q6 != (↑q7 : Int);
 let q9 : Bool := Sp.sameI x.1 x.2.1;
 let q10 : Prop := q0 /\ false = q9;
 let q11 : Prop := x.1 = x.1 /\ x.2.1 = x.2.1 /\ True;
 True ->
 dFact (Ty.int IntKind.i64).slice x.1 /\ dFact (Ty.int IntKind.i64).slice x.2.1 /\ True ->
 q0 /\
 ((True /\ q2) /\ True) /\
 (q8 = true -> q10) /\
 (q8 = false ->
 q0 /\
 (∃ (x_1 : Nat), (x_1 <= q5 /\ q5 = q7 /\ List.take x_1 x.1 = List.take x_1 x.2.1) /\ q3 = (↑x_1 : Int) /\ q11) /\
 ∀ (x_1 : Nat),
 let q12 : Bool := decide ((↑x_1 : Int) < q6);
 let q13 : Nat := (↑x_1 : Int).toNat;
 let q14 : Bool := x.1.getD q13 q3 != x.2.1.getD q13 q3;
 let q15 : Int := (↑x_1 : Int) + q4;
 x_1 <= q5 /\ q5 = q7 /\ List.take x_1 x.1 = List.take x_1 x.2.1 -> dFact (Ty.int IntKind.i64) (↑x_1 : Int) /\ True -> (q2 /\ True) /\ (q12 = true -> ((True /\ True /\ inN (↑x_1 : Int) q5 /\ True /\ True /\ True /\ inN (↑x_1 : Int) q7 /\ q1) /\ True) /\ (q14 = true -> q10) /\ (q14 = false -> ((True /\ inK IntKind.i64 q15 /\ True /\ True) /\ True) /\ ∃ (y : Nat), (y <= q5 /\ q5 = q7 /\ List.take y x.1 = List.take y x.2.1) /\ q5 - y < q5 - x_1 /\ q15 = (↑y : Int) /\ q11)) /\ (q12 = false -> q0 /\ true = q9))) := by kernel_rfl
theorem vc27 : (funI C27 (stpS C27) S27 L27 Tryd.f27) = (
let q0 : Int := (16 : Int);
let q1 : Int := (0 : Int);
let q2 : Prop := q0 ≠ q1;
let q3 : Prop := (True /\ True /\ True) /\ True;
∀ (x : Int × Unit),
 let q4 : Bool := decide (x.1.tmod q0 < q1);
 let q5 : Int := x.1.tdiv q0 - (1 : Int);
 let q6 : Int := x.1 / (16 : tI.den);
 True -> dFact (Ty.int IntKind.i64) x.1 /\ True -> ((True /\ True) /\ True) /\ ((True /\ (q2 /\ inK IntKind.i64 (x.1.tdiv q0)) /\ True /\ True) /\ True) /\ ((True /\ q2 /\ True /\ True) /\ True) /\ (q4 = true -> ((True /\ inK IntKind.i64 q5 /\ True /\ True) /\ True) /\ q3 /\ q5 = q6) /\ (q4 = false -> q3 /\ x.1.tdiv q0 = q6)) := by kernel_rfl
theorem vc26 : (funI C26 (stpS C26) S26 L26 Tryd.f26) = (
let q0 : Prop := (True /\ True) /\ True;
let q1 : Int := (0 : Int);
let q2 : Int := (1 : Int);
∀ (x : List Int × Int × Unit),
 let q3 : Nat := x.1.length;
 let q4 : Prop := x.1 = x.1 /\ x.2.1 = x.2.1 /\ True;
 let q5 : Int := (↑q3 : Int);
 let q6 : List Int := Sp.added x.1 x.2.1;
 let q7 : List Int := x.2.1 :: ([] : List tI.den);
 q3 <= (1000000 : Nat) /\ Sp.incr x.1 ->
 dFact (Ty.int IntKind.i64).slice x.1 /\ dFact (Ty.int IntKind.i64) x.2.1 /\ True ->
 q0 /\
 q0 /\
 (∃ (x_1 : Nat), (x_1 <= q3 /\ ∀ (y : Int), y ∈ List.take x_1 x.1 -> y < x.2.1) /\ q1 = (↑x_1 : Int) /\ q4) /\
 ∀ (x_1 : Nat),
 let q8 : Bool := decide ((↑x_1 : Int) < q5);
 let q9 : Prop := (true && bif q8 then true else false) = true;
 let q10 : Prop := q9 -> True;
 let q11 : Prop := (True /\ True /\ True /\ True /\ True /\ q10 /\ q10 /\ (q9 -> inN (↑x_1 : Int) q3) /\ q10 /\ q10 /\ q10 /\ True /\ True) /\ True;
 let q12 : Int := x.1.getD (↑x_1 : Int).toNat q1;
 let q13 : Bool := bif q8 then decide (q12 < x.2.1) else false;
 let q14 : Int := (↑x_1 : Int) + q2;
 let q15 : Bool := bif q8 then q12 == x.2.1 else false;
 let q16 : List Int := win q1 (↑x_1 : Int) x.1;
 let q17 : Nat := q16.length;
 let q18 : List Int := q16 ++ q7;
 let q19 : List Int := win (↑x_1 : Int) q5 x.1;
 (x_1 <= q3 /\ ∀ (y : Int), y ∈ List.take x_1 x.1 -> y < x.2.1) -> dFact (Ty.int IntKind.i64) (↑x_1 : Int) /\ True -> q11 /\ (q13 = true -> ((True /\ inK IntKind.i64 q14 /\ True /\ True) /\ True) /\ ∃ (y : Nat), (y <= q3 /\ ∀ (y_1 : Int), y_1 ∈ List.take y x.1 -> y_1 < x.2.1) /\ q3 - y < q3 - x_1 /\ q14 = (↑y : Int) /\ q4) /\ (q13 = false -> q11 /\ (q15 = true -> ((True /\ True /\ True) /\ True) /\ x.1 = q6) /\ (q15 = false -> ((True /\ True /\ True /\ winI q1 (↑x_1 : Int) q3 /\ (↑((0 : Nat) + q17) : Int) <= maxNew /\ True /\ True /\ (↑(q17 + q7.length) : Int) <= maxNew /\ True /\ True /\ winI (↑x_1 : Int) q5 q3 /\ (↑(q18.length + q19.length) : Int) <= maxNew /\ True /\ True) /\ True) /\ q18 ++ q19 = q6))) := by kernel_rfl
end Go.User
namespace Pl
variable {α : Type}
theorem take_all {l : List α} {i : Nat} (h1 : i <= l.length) (h2 : (l.length : Int) <= (i : Int)) : l.take i = l := List.take_of_length_le (by omega)
theorem getD_at {l : List α} {i : Nat} (h : i < l.length) (d : α) : l.getD i d = l[i] := by rw [List.getD_eq_getElem?_getD, List.getElem?_eq_getElem h]; rfl
theorem getD_out {l : List α} {i : Nat} (h : l.length <= i) (d : α) : l.getD i d = d := by rw [List.getD_eq_getElem?_getD, List.getElem?_eq_none h]; rfl
theorem getD_mem {l : List α} {i : Nat} (h : i < l.length) (d : α) : l.getD i d ∈ l := by rw [getD_at h]; exact List.getElem_mem _
theorem take_succ {l : List α} {i : Nat} (h : i < l.length) (d : α) : l.take (i + 1) = l.take i ++ [l.getD i d] := by rw [List.take_succ_eq_append_getElem h, getD_at h]
theorem drop_cons {l : List α} {i : Nat} (h : i < l.length) (d : α) : l.drop i = l.getD i d :: l.drop (i + 1) := by rw [List.drop_eq_getElem_cons h, getD_at h]
theorem find_at {l : List α} {p : α -> Bool} {i : Nat} {d : α} (h : ∀ e ∈ l.take i, p e = false) (hi : i < l.length) (hp : p (l.getD i d) = true) : l.findIdx? p = some i := by
 rw [getD_at hi] at hp
 rw [List.findIdx?_eq_some_iff_getElem]
 refine ⟨hi, hp, fun j hj => ?_⟩
 have := h l[j] (List.mem_take_iff_getElem.2 ⟨j, by omega, rfl⟩)
 rw [this]; simp
theorem find_none {l : List α} {p : α -> Bool} (h : ∀ e ∈ l, p e = false) : l.findIdx? p = none := by
 rw [List.findIdx?_eq_none_iff]; exact h
theorem all_take_succ {l : List α} {p : α -> Prop} {i : Nat} {d : α} (h : ∀ e ∈ l.take i, p e) (hi : i < l.length) (hp : p (l.getD i d)) : ∀ e ∈ l.take (i + 1), p e := by
 intro e he
 rw [take_succ hi d] at he
 rcases List.mem_append.1 he with he | he
 ·exact h e he
 ·rw [List.mem_singleton.1 he]; exact hp
theorem ne_of_getD {a b : List α} {i : Nat} {d : α} (h : ¬ a.getD i d = b.getD i d) : a ≠ b := fun e => h (by rw [e])
theorem eq_of_len {a b : List α} {i : Nat} (hl : a.length = b.length) (h1 : i <= a.length) (h2 : (a.length : Int) <= (i : Int)) (h : a.take i = b.take i) : a = b := by
 rw [take_all h1 h2, List.take_of_length_le (by omega)] at h; exact h
theorem take_eq_succ {a b : List α} {i : Nat} {d : α} (ha : i < a.length) (hb : i < b.length) (h : a.take i = b.take i) (he : a.getD i d = b.getD i d) : a.take (i + 1) = b.take (i + 1) := by
 rw [take_succ ha d, take_succ hb d, h, he]
theorem getD_set {l : List α} {n : Nat} {a d : α} (c : Nat) (h : n < l.length) : (l.set n a).getD c d = if c = n then a else l.getD c d := by
 rw [List.getD_eq_getElem?_getD, List.getElem?_set, List.getD_eq_getElem?_getD]
 by_cases e : n = c
 ·rw [if_pos e, if_pos e.symm, if_pos (e ▸ h)]; rfl
 ·rw [if_neg e, if_neg (fun h => e h.symm)]
theorem tw_le (p : α -> Bool) (l : List α) : (l.takeWhile p).length <= l.length := (List.takeWhile_sublist p).length_le
theorem tw_get {p : α -> Bool} : ∀ {l : List α} {k : Nat} {d : α}, k < (l.takeWhile p).length -> p (l.getD k d) = true
 | x :: l, k, d, h => by
  rw [List.takeWhile_cons] at h;split at h
  ·rename_i hx
   cases k with
   | zero => exact hx
   | succ k => exact tw_get (l := l) (by simpa using h)
  ·simp at h
theorem tw_stop {p : α -> Bool} : ∀ {l : List α} {d : α}, (l.takeWhile p).length < l.length -> p (l.getD (l.takeWhile p).length d) = false
 | x :: l, d, h => by
  rw [List.takeWhile_cons] at h ⊢;split
  ·rename_i hx
   rw [if_pos hx] at h;exact tw_stop (l := l) (by simpa using h)
  ·rename_i hx
   simpa using hx
theorem win_take {l : List α} {i : Nat} : Go.Lf.win 0 (i : Int) l = l.take i := by unfold Go.Lf.win; simp
theorem win_drop {l : List α} {i : Nat} : Go.Lf.win (i : Int) (l.length : Int) l = l.drop i := by unfold Go.Lf.win; simp
theorem countP_at {l : List α} {p : α -> Bool} {i : Nat} {d : α} (hi : i <= l.length) (h1 : ∀ k, k < i -> p (l.getD k d) = true) (h2 : ∀ k, i <= k -> k < l.length -> p (l.getD k d) = false) : l.countP p = i := by
 rw [<- List.take_append_drop i l, List.countP_append]
 have e1 : (l.take i).countP p = i := by
  have : (l.take i).countP p = (l.take i).length := by
   rw [List.countP_eq_length];intro a ha;obtain ⟨k, hk, rfl⟩ := List.mem_take_iff_getElem.1 ha;rw [<- getD_at (by omega) d];exact h1 k (by omega)
  rw [this, List.length_take]; omega
 have e2 : (l.drop i).countP p = 0 := by
  rw [List.countP_eq_zero];intro a ha;obtain ⟨k, hk, rfl⟩ := List.getElem_of_mem ha;rw [List.getElem_drop];rw [List.length_drop] at hk;have := h2 (i + k) (by omega) (by omega);rw [getD_at (by omega) d] at this;rw [this]; decide
 omega
theorem wrap_in {z : Int} (h0 : -1000000000 <= z) (h1 : z <= 1000000000) : Go.IntKind.wrap .i64 z = z := Go.Lf.inK_wrap (k := .i64) ⟨by show (-9223372036854775808 : Int) <= z; omega, by show z <= 9223372036854775807; omega⟩
end Pl
namespace Go.User
open Go.Lf Go.Proofs
theorem insS_new (n : Int) : ∀ (l : List Int) (i : Nat), i <= l.length -> (∀ y ∈ l.take i, y < n) -> (i < l.length -> n < l.getD i 0) -> insS l n = l.take i ++ n :: l.drop i
 | [], i, hi, _, _ => by simp [insS]
 | x :: l, 0, hi, h1, h2 => by
  have := h2 (by simp)
  simp only [List.getD_cons_zero] at this;unfold insS;rw [if_neg (by omega), if_neg (by omega)]
  rfl
 | x :: l, i + 1, hi, h1, h2 => by
  have hx := h1 x (by simp)
  unfold insS;rw [if_pos hx, insS_new n l i (by simpa using hi) (fun y hy => h1 y (by simp [hy])) (fun h => by simpa using h2 (by simpa using h))]
  rfl
theorem insS_old (n : Int) : ∀ (l : List Int) (i : Nat), (∀ y ∈ l.take i, y < n) -> i < l.length -> l.getD i 0 = n -> insS l n = l
 | [], i, _, hi, _ => by simp at hi
 | x :: l, 0, h1, hi, h2 => by
  simp only [List.getD_cons_zero] at h2;unfold insS;rw [if_neg (by omega), if_pos h2]
 | x :: l, i + 1, h1, hi, h2 => by
  have hx := h1 x (by simp)
  unfold insS;rw [if_pos hx, insS_old n l i (fun y hy => h1 y (by simp [hy])) (by simpa using hi) (by simpa using h2)]
theorem ok27 : FOk Tryd.prog 27 S27 := by
 refine FOk.intro (okA fns_nil) (stpS_ok (okA fns_nil)) Tryd.call27 Tryd.func27 (by kernel_rfl) (by kernel_rfl) L27 (vc27.mpr ?_)
 simp only [zz, zy]
 intro x hx
 obtain ⟨(a : Int), ⟨⟩⟩ := x
 have h1 : (-9223372036854775808 : Int) <= a := hx.1
 have h2 : a <= (9223372036854775807 : Int) := hx.2
 have e1 := Int.mul_tdiv_add_tmod a 16
 have e2 : a.tmod 16 < 16 := Int.tmod_lt_of_pos a (by decide)
 have e3 : -16 < a.tmod 16 := Int.lt_tmod_of_pos a (by decide)
 refine ⟨⟨by decide, inK_of ?_ ?_⟩, by decide, fun h => ⟨inK_of ?_ ?_, ?_⟩, fun h => ?_⟩
 all_goals simp only at *
 all_goals omega
theorem ok26 : FOk Tryd.prog 26 S26 := by
 refine FOk.intro (okC fns_nil rfl rfl rfl rfl rfl rfl rfl) (stpS_ok (okC fns_nil rfl rfl rfl rfl rfl rfl rfl)) Tryd.call26 Tryd.func26 (by kernel_rfl) (by kernel_rfl) L26 (vc26.mpr ?_)
 simp only [zz, zy]
 rintro ⟨(l : List Int), (n : Int), ⟨⟩⟩ ⟨hl, hs⟩ hx
 dsimp only at *
 refine ⟨⟨0, ⟨Nat.zero_le _, by simp⟩, rfl⟩, fun i hi hdi => ?_⟩
 obtain ⟨hi1, hi2⟩ := hi
 refine ⟨fun h => inN_of h, fun ⟨h1, h2⟩ => ⟨inK_mid (by omega) (by omega), i + 1, ⟨by omega, ?_⟩, by omega, by simp⟩, fun hb => ⟨fun h => inN_of h, fun ⟨h1, h2⟩ => ?_, fun hb2 => ?_⟩⟩
 ·intro y hy
  have h1 : i < l.length := by omega
  rw [List.take_succ_eq_append_getElem h1] at hy;rcases List.mem_append.1 hy with hy | hy
  ·exact hi2 y hy
  ·have : y = l[i] := by simpa using hy
   rw [this]
   simpa [List.getD, List.getElem?_eq_getElem h1] using h2
 ·exact (insS_old n l i hi2 (by omega) h2).symm
 ·have hge : i < l.length -> n < l.getD i 0 := by
   intro h;have hg : l.getD i 0 = l[i] := by simp [List.getD, List.getElem?_eq_getElem h]
   rw [hg] at hb hb2 ⊢;simp [h] at hb hb2;omega
  rw [Pl.win_take, Pl.win_drop, maxNew_eq];refine ⟨⟨?_, ?_, ?_, ?_, ?_⟩, ?_⟩
  ·exact ⟨by omega, by omega, by omega⟩
  ·simp; omega
  ·simp; omega
  ·exact ⟨by omega, by omega, by omega⟩
  ·simp; omega
  ·show _ = insS l n
   rw [insS_new n l i hi1 hi2 hge]
   simp
theorem ok13 : FOk Tryd.prog 13 S13 := by
 refine FOk.intro (okA fns_nil) (stpS_ok (okA fns_nil)) Tryd.call13 Tryd.func13 (by kernel_rfl) (by kernel_rfl) L13 (vc13.mpr ?_)
 simp only [zz, zy]
 rintro ⟨(a : List Int), (b : List Int), ⟨⟩⟩ hx
 have hla : a.length <= lim := hx.1.1
 dsimp only at *
 refine ⟨fun h => ?_, fun h => ⟨⟨0, ⟨Nat.zero_le _, by omega, by simp⟩, rfl⟩, fun i hi hdi => ?_⟩⟩
 ·exact (decide_eq_false (by rintro rfl; exact h rfl)).symm
 ·obtain ⟨h1, h2, h3⟩ := hi
  refine ⟨fun hl => ⟨⟨inN_of hl, inN_of (by omega)⟩, fun hne => ?_, fun he => ⟨inK_succ hl hla, i + 1, ⟨by omega, h2, ?_⟩, by omega, by simp⟩⟩, fun hl => ?_⟩
  ·exact (decide_eq_false (by rintro rfl; exact hne rfl)).symm
  ·have q1 : i < a.length := by omega
   have q2 : i < b.length := by omega
   rw [List.take_succ_eq_append_getElem q1, List.take_succ_eq_append_getElem q2, h3];simp [List.getD, List.getElem?_eq_getElem q1, List.getElem?_eq_getElem q2] at he;rw [he]
  ·have e : i = a.length := by omega
   rw [e, List.take_length, h2, List.take_length] at h3;exact (decide_eq_true h3).symm
end Go.User
namespace Go.User
open Go.Lf Go.Proofs
theorem ok18 : FOk Tryd.prog 18 S18 := by
 refine FOk.intro (okA fns_nil) (stpS_ok (okA fns_nil)) Tryd.call18 Tryd.func18 (by kernel_rfl) (by kernel_rfl) L18 (vc18.mpr ?_)
 simp only [zz, zy]
 intro x hx
 rfl
theorem ok21 : FOk Tryd.prog 21 S21 := by
 refine FOk.intro (okA fns_nil) (stpS_ok (okA fns_nil)) Tryd.call21 Tryd.func21 (by kernel_rfl) (by kernel_rfl) L21 (vc21.mpr ?_)
 simp only [zz, zy]
 intro x hx
 rfl
theorem ok30 : FOk Tryd.prog 30 S30 := by
 refine FOk.intro (okA fns_nil) (stpS_ok (okA fns_nil)) Tryd.call30 Tryd.func30 (by kernel_rfl) (by kernel_rfl) L30 (vc30.mpr ?_)
 simp only [zz, zy]
 intro x hx
 refine ⟨fun ⟨⟨_, h1⟩, h2⟩ => ⟨h1, h2⟩, rfl⟩
theorem ok15 : FOk Tryd.prog 15 S15 := by
 have hC : CtxOK Tryd.prog C15 := okC (fns_cons ok27 (fns_cons ok26 fns_nil)) rfl rfl rfl rfl rfl rfl rfl
 refine FOk.intro hC (stpS_ok hC) Tryd.call15 Tryd.func15 (by kernel_rfl) (by kernel_rfl) L15 (vc15.mpr ?_)
 simp only [zz, zy]
 rintro ⟨(l : List Int), ⟨⟩⟩ hl hx
 dsimp only at *
 have hle : ∀ m : List Int, (Sp.segs m).length <= m.length := segs_len_le
 refine ⟨⟨0, Nat.zero_le _, by simp [Sp.segs, segs], rfl⟩, fun i hi hdi => ⟨fun h => ?_, fun h => ?_⟩⟩
 ·have h1 : i < l.length := by omega
  refine ⟨⟨inN_of h, ?_, segs_strict _⟩, inK_mid (by omega) (by omega), i + 1, by omega, by omega, ?_, by simp⟩
  ·have := hle (List.take i l)
   rw [List.length_take] at this;omega
  ·rw [List.take_succ_eq_append_getElem h1]
   show insS (segs (List.take i l)) (l.getD i 0 / 16) = segs _
   rw [segs_snoc];simp [List.getD, List.getElem?_eq_getElem h1]
 ·have e : i = l.length := by omega
  rw [e, List.take_length];have hs := hle l;refine ⟨⟨0, Nat.zero_le _, by simp, rfl⟩, fun j hj hdj => ⟨fun h => ?_, fun h => ?_⟩⟩
  ·have h1 : j < (Sp.segs l).length := by omega
   refine ⟨⟨inN_of h, by rw [maxNew_eq, List.length_take]; omega⟩, inK_mid (by omega) (by omega), j + 1, by omega, by omega, ?_, by simp⟩
   rw [List.take_succ_eq_append_getElem h1];simp [List.getD, List.getElem?_eq_getElem h1]
  ·rw [show j = (Sp.segs l).length by omega, List.take_length]
end Go.User
namespace Go.User
def Sm (k b : Nat) : Nat -> Nat -> Prop
 | 0, x => x = 0
 | n + 1, x => x % 2 ^ k <= b /\ Sm k b n (x / 2 ^ k)

theorem sm_lt (k b : Nat) : ∀ (n x : Nat), Sm k b n x -> x < 2 ^ (k * n)
 | 0, x, h => by have : x = 0 := h; subst this; exact Nat.two_pow_pos _
 | n + 1, x, h => by
  have h1 := sm_lt k b n _ h.2
  rw [Nat.mul_succ, Nat.pow_add];exact (Nat.div_lt_iff_lt_mul (Nat.two_pow_pos k)).1 h1

theorem sm_ones : ∀ (n x : Nat), x < 2 ^ n -> Sm 1 1 n x
 | 0, x, h => by show x = 0; simpa using h
 | n + 1, x, h => ⟨by omega, sm_ones n _ (by rw [Nat.pow_succ] at h; omega)⟩

def pairS (k n x : Nat) : Nat := ((x / 2 ^ k) &&& fmask k n) + (x &&& fmask k n)

theorem pairS_step (k : Nat) (n x : Nat) (hk : 1 <= k) :
  pairS k (n + 1) x = (x / 2 ^ k % 2 ^ k + x % 2 ^ k) + 2 ^ (2 * k) * pairS k n (x / 2 ^ (2 * k)) /\ x / 2 ^ k % 2 ^ k + x % 2 ^ k < 2 ^ (2 * k) := by
 have hp : 2 <= 2 ^ k := by
  have := Nat.pow_le_pow_right (n := 2) (by omega) hk
  simpa using this
 have hB : 2 ^ (2 * k) = 2 ^ k * 2 ^ k := by rw [Nat.two_mul, Nat.pow_add]
 have hlt : x / 2 ^ k % 2 ^ k + x % 2 ^ k < 2 ^ (2 * k) := by
  have h1 := Nat.mod_lt (x / 2 ^ k) (show 0 < 2 ^ k by omega)
  have h2 := Nat.mod_lt x (show 0 < 2 ^ k by omega)
  have h3 : 2 ^ k * 2 <= 2 ^ k * 2 ^ k := Nat.mul_le_mul_left _ hp
  omega
 refine ⟨?_, hlt⟩
 unfold pairS
 rw [and_fmask, and_fmask]
 have e3 : x / 2 ^ k / 2 ^ (2 * k) = x / 2 ^ (2 * k) / 2 ^ k := by rw [Nat.div_div_eq_div_mul, Nat.div_div_eq_div_mul, Nat.mul_comm]
 rw [e3, Nat.mul_add]
 omega

theorem pairS_small (k b : Nat) (hk : 1 <= k) : ∀ (n x : Nat), Sm k b (2 * n) x -> Sm (2 * k) (2 * b) n (pairS k n x)
 | 0, x, h => by
  have : x = 0 := h
  subst this;show _ = 0;simp [pairS, fmask]
 | n + 1, x, h => by
  obtain ⟨h1, h2, h3⟩ : x % 2 ^ k <= b /\ x / 2 ^ k % 2 ^ k <= b /\ Sm k b (2 * n) (x / 2 ^ k / 2 ^ k) := h;obtain ⟨e, hlt⟩ := pairS_step k n x hk;have hB : 2 ^ (2 * k) = 2 ^ k * 2 ^ k := by rw [Nat.two_mul, Nat.pow_add]
  have e2 : x / 2 ^ k / 2 ^ k = x / 2 ^ (2 * k) := by rw [Nat.div_div_eq_div_mul, hB]
  rw [e2] at h3;rw [e];refine ⟨?_, ?_⟩
  ·rw [Nat.add_mul_mod_self_left, Nat.mod_eq_of_lt hlt]; omega
  ·rw [Nat.add_mul_div_left _ _ (Nat.two_pow_pos _), Nat.div_eq_of_lt hlt, Nat.zero_add]
   exact pairS_small k b hk n _ h3

theorem mask_last (k b : Nat) (hk : 1 <= k) (hb : 2 * b < 2 ^ k) : ∀ (n x : Nat), Sm k b (2 * n) x -> (x / 2 ^ k + x) &&& fmask k n = pairS k n x
 | 0, x, h => by simp [pairS, fmask]
 | n + 1, x, h => by
  obtain ⟨h1, h2, h3⟩ : x % 2 ^ k <= b /\ x / 2 ^ k % 2 ^ k <= b /\ Sm k b (2 * n) (x / 2 ^ k / 2 ^ k) := h;obtain ⟨e, hlt⟩ := pairS_step k n x hk;have hp : 0 < 2 ^ k := Nat.two_pow_pos k;have hB : 2 ^ (2 * k) = 2 ^ k * 2 ^ k := by rw [Nat.two_mul, Nat.pow_add]
  have e2 : x / 2 ^ k / 2 ^ k = x / 2 ^ (2 * k) := by rw [Nat.div_div_eq_div_mul, hB]
  have h4 : x / 2 ^ k / 2 ^ k % 2 ^ k <= b := by
   cases n with
   | zero =>
    have : x / 2 ^ k / 2 ^ k = 0 := h3
    rw [this]; simp
   | succ n => exact h3.1
  rw [e, and_fmask];have a1 : x / 2 ^ k % 2 ^ k + x % 2 ^ k < 2 ^ k := by omega
  have a2 : (x / 2 ^ k + x) % 2 ^ k = x / 2 ^ k % 2 ^ k + x % 2 ^ k := by
   rw [Nat.add_mod, Nat.mod_eq_of_lt a1]
  have a3 : (x / 2 ^ k + x) / 2 ^ k = x / 2 ^ k / 2 ^ k + x / 2 ^ k := by
   have q1 := Nat.div_add_mod (x / 2 ^ k) (2 ^ k)
   have q2 := Nat.div_add_mod x (2 ^ k)
   have : x / 2 ^ k + x = (x / 2 ^ k % 2 ^ k + x % 2 ^ k) + 2 ^ k * (x / 2 ^ k / 2 ^ k + x / 2 ^ k) := by rw [Nat.mul_add]; omega
   rw [this, Nat.add_mul_div_left _ _ hp, Nat.div_eq_of_lt a1, Nat.zero_add]
  have a4 : (x / 2 ^ k + x) / 2 ^ (2 * k) = x / 2 ^ (2 * k) / 2 ^ k + x / 2 ^ (2 * k) := by
   rw [hB, <- Nat.div_div_eq_div_mul, a3, <- Nat.div_div_eq_div_mul];obtain ⟨y, hy⟩ : ∃ y, y = x / 2 ^ k := ⟨_, rfl⟩;rw [<- hy] at h2 h4 ⊢;have b1 : y / 2 ^ k % 2 ^ k + y % 2 ^ k < 2 ^ k := by omega
   have q1 := Nat.div_add_mod (y / 2 ^ k) (2 ^ k)
   have q2 := Nat.div_add_mod y (2 ^ k)
   have : y / 2 ^ k + y = (y / 2 ^ k % 2 ^ k + y % 2 ^ k) + 2 ^ k * (y / 2 ^ k / 2 ^ k + y / 2 ^ k) := by rw [Nat.mul_add]; omega
   rw [this, Nat.add_mul_div_left _ _ hp, Nat.div_eq_of_lt b1, Nat.zero_add]
  rw [a2, a4, mask_last k b hk hb n _ (by rw [<- e2]; exact h3)]

theorem fsum_pairS (k n x : Nat) (hk : 1 <= k) : fsum (2 * k) n (pairS k n x) = fsum k (2 * n) x := fsum_pair k hk n x

set_option maxHeartbeats 2000000 in
theorem sum8 (y : Nat) (h : Sm 8 8 8 y) :
  y + y / 256 < 2 ^ 64 /\ (y + y / 256) + (y + y / 256) / 65536 < 2 ^ 64 /\ ((y + y / 256) + (y + y / 256) / 65536) + ((y + y / 256) + (y + y / 256) / 65536) / 4294967296 < 2 ^ 63 /\
  (((y + y / 256) + (y + y / 256) / 65536) + ((y + y / 256) + (y + y / 256) / 65536) / 4294967296) % 128 = fsum 8 8 y := by
 simp only [Sm, fsum, Nat.reducePow] at h ⊢
 obtain ⟨h0, h1, h2, h3, h4, h5, h6, h7, hz⟩ := h
 generalize e1 : y / 256 = y1 at h1 h2 h3 h4 h5 h6 h7 hz ⊢
 generalize e2 : y1 / 256 = y2 at h2 h3 h4 h5 h6 h7 hz ⊢
 generalize e3 : y2 / 256 = y3 at h3 h4 h5 h6 h7 hz ⊢
 generalize e4 : y3 / 256 = y4 at h4 h5 h6 h7 hz ⊢
 generalize e5 : y4 / 256 = y5 at h5 h6 h7 hz ⊢
 generalize e6 : y5 / 256 = y6 at h6 h7 hz ⊢
 generalize e7 : y6 / 256 = y7 at h7 hz ⊢
 have k7 : y7 <= 8 := by omega
 have f7 : y7 % 256 = y7 := by omega
 rw [f7]
 generalize f0 : y % 256 = d0 at h0 ⊢
 generalize f1 : y1 % 256 = d1 at h1 ⊢
 generalize f2 : y2 % 256 = d2 at h2 ⊢
 generalize f3 : y3 % 256 = d3 at h3 ⊢
 generalize f4 : y4 % 256 = d4 at h4 ⊢
 generalize f5 : y5 % 256 = d5 at h5 ⊢
 generalize f6 : y6 % 256 = d6 at h6 ⊢
 have g0 : y = d0 + 256 * y1 := by omega
 have g1 : y1 = d1 + 256 * y2 := by omega
 have g2 : y2 = d2 + 256 * y3 := by omega
 have g3 : y3 = d3 + 256 * y4 := by omega
 have g4 : y4 = d4 + 256 * y5 := by omega
 have g5 : y5 = d5 + 256 * y6 := by omega
 have g6 : y6 = d6 + 256 * y7 := by omega
 clear e1 e2 e3 e4 e5 e6 e7 f0 f1 f2 f3 f4 f5 f6 f7 hz
 subst g6 g5 g4 g3 g2 g1 g0
 have s1 : ∀ a, a = (d0 + 256 * (d1 + 256 * (d2 + 256 * (d3 + 256 * (d4 + 256 * (d5 + 256 * (d6 + 256 * y7)))))) + (d1 + 256 * (d2 + 256 * (d3 + 256 * (d4 + 256 * (d5 + 256 * (d6 + 256 * y7)))))) ) ->
   a < 2 ^ 60 /\ a / 65536 = (d2 + d3) + 256 * ((d3 + d4) + 256 * ((d4 + d5) + 256 * ((d5 + d6) + 256 * ((d6 + y7) + 256 * y7)))) := by
  intro a ha;constructor <;> omega
 obtain ⟨a, ha⟩ : ∃ a, a = (d0 + 256 * (d1 + 256 * (d2 + 256 * (d3 + 256 * (d4 + 256 * (d5 + 256 * (d6 + 256 * y7)))))) + (d1 + 256 * (d2 + 256 * (d3 + 256 * (d4 + 256 * (d5 + 256 * (d6 + 256 * y7)))))) ) := ⟨_, rfl⟩
 obtain ⟨t1, t2⟩ := s1 a ha
 rw [<- ha, t2]
 obtain ⟨c, hc⟩ : ∃ c, c = a + (d2 + d3 + 256 * (d3 + d4 + 256 * (d4 + d5 + 256 * (d5 + d6 + 256 * (d6 + y7 + 256 * y7))))) := ⟨_, rfl⟩
 have s2 : c / 4294967296 = (d4 + d5 + d6 + y7) + 256 * ((d5 + d6 + y7) + 256 * ((d6 + y7) + 256 * y7)) := by omega
 have s3 : c < 2 ^ 62 := by omega
 have s4 : ∃ R, c = (d0 + d1 + d2 + d3) + 256 * R := ⟨(d1 + d2 + d3 + d4) + 256 * ((d2 + d3 + d4 + d5) + 256 * ((d3 + d4 + d5 + d6) + 256 * ((d4 + d5 + d6 + y7) + 256 * ((d5 + d6 + y7) + 256 * ((d6 + y7) + 256 * y7))))), by omega⟩
 obtain ⟨R, hR⟩ := s4
 rw [<- hc, s2]
 generalize (d5 + d6 + y7) + 256 * ((d6 + y7) + 256 * y7) = R2 at *
 clear s1 ha hc t2
 refine ⟨by omega, by omega, by omega, by omega⟩

theorem count_ones (x : Nat) (hx : x < 2 ^ 64) :
  fmask 1 32 = 6148914691236517205 /\ fmask 2 16 = 3689348814741910323 /\ fmask 4 8 = 1085102592571150095 /\
  Sm 2 2 32 (pairS 1 32 x) /\ Sm 4 4 16 (pairS 2 16 (pairS 1 32 x)) /\ Sm 8 8 8 (pairS 4 8 (pairS 2 16 (pairS 1 32 x))) /\
  fsum 8 8 (pairS 4 8 (pairS 2 16 (pairS 1 32 x))) = (onesN 64 x).length /\
  (pairS 2 16 (pairS 1 32 x) / 2 ^ 4 + pairS 2 16 (pairS 1 32 x)) &&& fmask 4 8 = pairS 4 8 (pairS 2 16 (pairS 1 32 x)) := by
 have s1 : Sm 2 2 32 (pairS 1 32 x) := pairS_small 1 1 (by omega) 32 x (sm_ones 64 x hx)
 have s2 : Sm 4 4 16 (pairS 2 16 (pairS 1 32 x)) := pairS_small 2 2 (by omega) 16 _ s1
 have s3 : Sm 8 8 8 (pairS 4 8 (pairS 2 16 (pairS 1 32 x))) := pairS_small 4 4 (by omega) 8 _ s2
 refine ⟨by decide, by decide, by decide, s1, s2, s3, ?_, mask_last 4 4 (by omega) (by omega) 8 _ s2⟩
 rw [show (8 : Nat) = 2 * 4 from rfl, fsum_pairS 4 8 _ (by omega), show (4 : Nat) = 2 * 2 from rfl, show 2 * (2 * (2 * 2)) = 16 from rfl, fsum_pairS 2 16 _ (by omega), show (2 * 16 : Nat) = 32 from rfl]
 rw [<- fsum_ones, show fsum 2 32 (pairS 1 32 x) = fsum (2 * 1) 32 (pairS 1 32 x) from rfl, fsum_pairS 1 32 _ (by omega)]
end Go.User
namespace Go.User
open Go.Lf Go.Proofs
theorem ok10 : FOk Tryd.prog 10 S10 := by
 refine FOk.intro (okA fns_nil) (stpS_ok (okA fns_nil)) Tryd.call10 Tryd.func10 (by kernel_rfl) (by kernel_rfl) L10 (vc10.mpr ?_)
 simp only [zz, zy]
 rintro ⟨⟨any, (it : Int), (lo : Int), (gr : Int), (rl : Int), (st : Int), (n : Int), great, ⟨⟩⟩, ⟨⟩⟩ hx
 have h1 : (-32768 : Int) <= it := hx.2.1.1
 have h1' : it <= (32767 : Int) := hx.2.1.2
 have h4 : (-2147483648 : Int) <= rl := hx.2.2.2.2.1.1
 have h4' : rl <= (2147483647 : Int) := hx.2.2.2.2.1.2
 have h5 : (0 : Int) <= st := hx.2.2.2.2.2.1.1
 have h5' : st <= (65535 : Int) := hx.2.2.2.2.2.1.2
 have h6 : (0 : Int) <= n := hx.2.2.2.2.2.2.1.1
 have h6' : n <= (65535 : Int) := hx.2.2.2.2.2.2.1.2
 clear hx
 dsimp only at *
 have hw : IntKind.i64.wrap (it * 2 ^ shiftN IntKind.i64 24) = it * 16777216 := by
  show IntKind.i64.wrap (it * 16777216) = _
  exact inK_wrap (inK_of (by omega) (by omega))
 have hm : (st % 64 + 1) * (n % 8) <= 64 * 7 := Int.mul_le_mul (by omega) (by omega) (by omega) (by omega)
 have hm0 : 0 <= (st % 64 + 1) * (n % 8) := Int.mul_nonneg (by omega) (by omega)
 generalize hP : (st % 64 + 1) * (n % 8) = P at *
 refine ⟨fun hg => ⟨by decide, by decide, fun hn => ⟨⟨by decide, inK_mid (by omega) (by omega)⟩, ⟨by decide, inK_mid (by omega) (by omega), inK_of (by omega) (by omega)⟩, ?_⟩, fun hn => ?_⟩, fun hg => ⟨by decide, fun hn => ⟨⟨by decide, inK_mid (by omega) (by omega)⟩, ⟨by decide, inK_mid (by omega) (by omega), inK_of (by omega) (by omega)⟩, ?_⟩, fun hn => ?_⟩⟩
 ·simp [Sp.fItem, Sp.fSt, Sp.fHi, hw, hg, hP, hn]
 ·simp [Sp.fItem, Sp.fSt, Sp.fHi, hw, hg, show ¬ 0 < n % 8 by omega]
 ·simp [Sp.fItem, Sp.fSt, Sp.fHi, hg, hP, hn]
 ·simp [Sp.fItem, Sp.fSt, Sp.fHi, hg, show ¬ 0 < n % 8 by omega]
theorem lanes_zero (set : Int) (n : Int) (h : n <= 0) : Sp.lanes n set = [] := by
 unfold Sp.lanes
 rw [List.map_eq_nil_iff, List.filter_eq_nil_iff]
 intro i _
 simp
 omega
theorem lanes_snoc (set : Int) (i : Nat) (hi : i < 64) : Sp.lanes ((i + 1 : Nat) : Int) set = Sp.lanes (i : Int) set ++ (if Nat.testBit set.toNat i then [(i : Int)] else []) := by
 unfold Sp.lanes
 have key : ∀ k, i + 1 <= k -> (List.range k).filter (fun (j : Nat) => decide ((j : Int) < ((i + 1 : Nat) : Int)) && Nat.testBit set.toNat j) =
   (List.range k).filter (fun (j : Nat) => decide ((j : Int) < (i : Int)) && Nat.testBit set.toNat j) ++ (if Nat.testBit set.toNat i then [i] else []) := by
  intro k
  induction k with
  | zero => intro h; omega
  | succ k ih =>
   intro h;rw [List.range_succ, List.filter_append, List.filter_append];by_cases hk : k = i
   ·subst hk
    have e1 : (List.range k).filter (fun (j : Nat) => decide ((j : Int) < ((k + 1 : Nat) : Int)) && Nat.testBit set.toNat j) = (List.range k).filter (fun (j : Nat) => decide ((j : Int) < (k : Int)) && Nat.testBit set.toNat j) := by
     refine List.filter_congr fun j hj => ?_
     have := List.mem_range.1 hj
     rw [show decide ((j : Int) < ((k + 1 : Nat) : Int)) = true from decide_eq_true (by omega), show decide ((j : Int) < (k : Int)) = true from decide_eq_true (by omega)]
    rw [e1, List.append_assoc]
    congr 1
    have : decide ((k : Int) < ((k + 1 : Nat) : Int)) = true := decide_eq_true (by omega)
    have h2 : decide ((k : Int) < (k : Int)) = false := decide_eq_false (by omega)
    simp only [List.filter_cons, List.filter_nil, this, h2, Bool.true_and, Bool.false_and]
    simp
   ·rw [ih (by omega)]
    have h1 : decide ((k : Int) < ((i + 1 : Nat) : Int)) = false := decide_eq_false (by omega)
    have h2 : decide ((k : Int) < (i : Int)) = false := decide_eq_false (by omega)
    simp only [List.filter_cons, List.filter_nil, h1, h2, Bool.false_and]
    simp
 rw [key 64 (by omega), List.map_append]
 congr 1
 split <;> rfl
theorem lanes_full (set n : Int) (h : 64 <= n) : Sp.lanes n set = Sp.lanes 64 set := by
 unfold Sp.lanes
 congr 1
 refine List.filter_congr fun j hj => ?_
 have := List.mem_range.1 hj
 rw [show decide ((j : Int) < n) = true from decide_eq_true (by omega), show decide ((j : Int) < 64) = true from decide_eq_true (by omega)]
theorem lanes_min (set n : Int) (i : Nat) (h : n <= i ∨ 64 <= i) : Sp.lanes (min n (i : Int)) set = Sp.lanes n set := by
 rcases h with h | h
 ·rw [show min n (i : Int) = n by omega]
 ·by_cases hn : n <= i
  ·rw [show min n (i : Int) = n by omega]
  ·rw [lanes_full set n (by omega), show min n (i : Int) = i by omega, lanes_full set i (by omega)]
theorem lanes_len (n set : Int) : (Sp.lanes n set).length <= 64 := by
 unfold Sp.lanes
 rw [List.length_map]
 exact Nat.le_trans (List.length_filter_le _ _) (by simp)
theorem mem_lanes {n set y : Int} : y ∈ Sp.lanes n set ↔ ∃ i : Nat, i < 64 /\ (i : Int) < n /\ Nat.testBit set.toNat i = true /\ y = i := by
 unfold Sp.lanes
 rw [List.mem_map]
 constructor
 ·rintro ⟨i, hi, rfl⟩
  obtain ⟨h1, h2⟩ := List.mem_filter.1 hi;simp at h2;exact ⟨i, List.mem_range.1 h1, h2.1, h2.2, rfl⟩
 ·rintro ⟨i, h1, h2, h3, rfl⟩
  exact ⟨i, List.mem_filter.2 ⟨List.mem_range.2 h1, by simp [h2, h3]⟩, rfl⟩
theorem lanes_ok (n set : Int) : Sp.lanesOk (Sp.lanes n set) := ⟨lanes_len n set, fun x hx => by
 obtain ⟨i, h1, _, _, rfl⟩ := mem_lanes.1 hx
 omega⟩
theorem lanes_strict (n set : Int) : Strict (Sp.lanes n set) := by
 unfold Sp.lanes Strict
 rw [List.pairwise_map]
 exact (List.Pairwise.filter _ List.pairwise_lt_range).imp fun h => by
  show (_ : Int) < _
  exact Int.ofNat_lt.2 h
theorem bit_of (a : Int) (i : Nat) (h0 : 0 <= a) (h1 : a <= 18446744073709551615) (hi : i < 64) :
  (IntKind.u64.wrap (↑(BitVec.ofInt 64 (a / 2 ^ shiftN IntKind.u64 (IntKind.u64.wrap (i : Int))) &&& BitVec.ofInt 64 1).toNat : Int) = 1) ↔ Nat.testBit a.toNat i = true := by
 obtain ⟨x, rfl⟩ : ∃ x : Nat, a = x := ⟨a.toNat, by omega⟩
 have hs : shiftN IntKind.u64 (IntKind.u64.wrap (i : Int)) = i := by
  have : IntKind.u64.wrap (i : Int) = i := inK_wrap (k := .u64) ⟨by show (0 : Int) <= _; omega, by show _ <= (18446744073709551615 : Int); omega⟩
  rw [this];unfold shiftN;show min (i : Int).toNat 64 = i
  simp
  omega
 rw [hs]
 have e : ((x : Int) / 2 ^ i) = ((x / 2 ^ i : Nat) : Int) := by push_cast; rfl
 rw [e]
 have e1 : (BitVec.ofInt 64 ((x / 2 ^ i : Nat) : Int) &&& BitVec.ofInt 64 1).toNat = x / 2 ^ i % 2 := by
  rw [BitVec.toNat_and];have h2 : (BitVec.ofInt 64 ((x / 2 ^ i : Nat) : Int)).toNat = x / 2 ^ i := by
   rw [BitVec.ofInt_natCast, BitVec.toNat_ofNat, Nat.mod_eq_of_lt];have := Nat.div_le_self x (2 ^ i);omega
  have h3 : (BitVec.ofInt 64 1).toNat = 1 := by decide
  rw [h2, h3, Nat.and_one_is_mod]
 rw [e1]
 have hw : IntKind.u64.wrap ((x / 2 ^ i % 2 : Nat) : Int) = ((x / 2 ^ i % 2 : Nat) : Int) := inK_wrap (k := .u64) ⟨by show (0 : Int) <= _; omega, by show _ <= (18446744073709551615 : Int); omega⟩
 rw [hw, show ((x : Int)).toNat = x from rfl, Nat.testBit_eq_decide_div_mod_eq]
 simp
 omega

theorem ok19 : FOk Tryd.prog 19 S19 := by
 refine FOk.intro (okA fns_nil) (stpS_ok (okA fns_nil)) Tryd.call19 Tryd.func19 (by kernel_rfl) (by kernel_rfl) L19 (vc19.mpr ?_)
 simp only [zz, zy]
 rintro ⟨(n : Int), (a : Int), ⟨⟩⟩ hx
 have ha0 : (0 : Int) <= a := hx.2.1
 have ha1 : a <= (18446744073709551615 : Int) := hx.2.2
 dsimp only at *
 refine ⟨⟨0, Nat.zero_le _, (lanes_zero a _ (by omega)).symm, rfl⟩, fun i hi hdi => ⟨fun ⟨h1, h2⟩ => ?_, fun h => ?_⟩⟩
 ·have hw : IntKind.u64.wrap (i : Int) = i := inK_wrap (k := .u64) ⟨by show (0 : Int) <= _; omega, by show _ <= (18446744073709551615 : Int); omega⟩
  have hmin : min n (i : Int) = i := by omega
  have hmin2 : min n ((i + 1 : Nat) : Int) = ((i + 1 : Nat) : Int) := by omega
  have hb := bit_of a i ha0 ha1 (by omega)
  refine ⟨by rw [hw]; omega, fun hb1 => ?_, fun hb1 => ?_⟩
  ·have := lanes_len (min n (i : Int)) a
   refine ⟨by rw [maxNew_eq]; omega, inK_mid (by omega) (by omega), i + 1, by omega, by omega, ?_, by omega⟩
   rw [hmin, hmin2, lanes_snoc a i (by omega), if_pos (hb.1 hb1)]
  ·refine ⟨inK_mid (by omega) (by omega), i + 1, by omega, by omega, ?_, by omega⟩
   rw [hmin, hmin2, lanes_snoc a i (by omega), if_neg (fun h => hb1 (hb.2 h)), List.append_nil]
 ·refine lanes_min a n i ?_
  rw [Bool.and_eq_false_iff] at h;simp at h;omega
end Go.User
namespace Go.User
open Go.Lf Go.Proofs
theorem segsAt_snoc (s c : Int) (l : List Int) (i : Nat) (h : i < l.length) : Sp.segsAt s c (l.take (i + 1)) = Sp.added (Sp.segsAt s c (l.take i)) ((c + s * l.getD i 0) / 16) := by
 unfold Sp.segsAt Sp.added Sp.segs
 rw [List.take_succ_eq_append_getElem h, List.map_append, List.map_cons, List.map_nil, segs_snoc]
 simp [List.getD, List.getElem?_eq_getElem h]
theorem segsAt_len (s c : Int) (l : List Int) : (Sp.segsAt s c l).length <= l.length := by
 have := segs_len_le (l.map fun i => c + s * i)
 rw [List.length_map] at this
 exact this
theorem segsAt_strict (s c : Int) (l : List Int) : Strict (Sp.segsAt s c l) := segs_strict _
theorem maxSegs_le (s : Int) (l : List Int) : ∀ k, Sp.maxSegs s l k <= l.length
 | 0 => Nat.zero_le _
 | k + 1 => by
  have h1 := maxSegs_le s l k
  have h2 := segsAt_len s k l
  unfold Sp.maxSegs;omega
theorem mul_bound {s x : Int} (h1 : -4398046511104 <= s) (h2 : s <= 4398046511104) (h3 : 0 <= x) (h4 : x <= 64) : -281474976710656 <= s * x /\ s * x <= 281474976710656 := by
 rcases Int.lt_or_le s 0 with h | h
 ·have a : (-s) * x <= 4398046511104 * 64 := Int.mul_le_mul (by omega) h4 h3 (by omega)
  have b : 0 <= (-s) * x := Int.mul_nonneg (by omega) h3
  rw [Int.neg_mul] at a b;omega
 ·have a : s * x <= 4398046511104 * 64 := Int.mul_le_mul h2 h4 h3 (by omega)
  have b : 0 <= s * x := Int.mul_nonneg h h3
  omega
theorem strict_first {l : List Int} (h : Strict l) (hl : 0 < l.length) : l.getD 0 0 <= Sp.lastI l := by
 unfold Sp.lastI
 by_cases h0 : l.length - 1 = 0
 ·rw [h0]
  exact Int.le_refl _
 ·have := List.pairwise_iff_getElem.1 h 0 (l.length - 1) hl (by omega) (by omega)
  simp only [List.getD, List.getElem?_eq_getElem hl, List.getElem?_eq_getElem (show l.length - 1 < l.length by omega), Option.getD_some]
  omega
theorem lanesOk_getD {l : List Int} (h : Sp.lanesOk l) (i : Nat) : 0 <= l.getD i 0 /\ l.getD i 0 < 64 := by
 by_cases hi : i < l.length
 ·simp only [List.getD, List.getElem?_eq_getElem hi, Option.getD_some]
  exact h.2 _ (List.getElem_mem hi)
 ·rw [List.getD, List.getElem?_eq_none (by omega)]
  simp

theorem ok12 : FOk Tryd.prog 12 S12 := by
 have hC : CtxOK Tryd.prog C12 := okC (fns_cons ok19 (fns_cons ok26 (fns_cons ok27 fns_nil))) rfl rfl rfl rfl rfl rfl rfl
 refine FOk.intro hC (stpS_ok hC) Tryd.call12 Tryd.func12 (by kernel_rfl) (by kernel_rfl) L12 (vc12.mpr ?_)
 simp only [zz, zy]
 rintro ⟨⟨any, (it : Int), (lc : Int), (gr : Int), ⟨(lo : Int), (hi : Int), (st : Int), ⟨⟩⟩, ⟨⟩⟩, (n : Int), (set : Int), ⟨⟩⟩ hu hx
 obtain ⟨⟨u1, u2⟩, ⟨u3, u4⟩, ⟨u5, u6⟩, ⟨u7, u8⟩, u9, u10, u11⟩ := hu
 simp only [Sp.loOf, Sp.hiOf, Sp.stOf] at u5 u6 u7 u8 u9 u10 u11
 clear hx
 dsimp only at *
 have hL := lanes_ok n set
 have hS := lanes_strict n set
 generalize Sp.lanes n set = l at *
 have hll := hL.1
 have hs1 : -4398046511104 <= it + lc := by omega
 have hs2 : it + lc <= 4398046511104 := by omega
 have hg := lanesOk_getD hL
 refine ⟨fun h => ?_, fun ⟨h1, h2⟩ => ⟨inK_of (by omega) (by omega), fun h3 => ⟨⟨0, by omega, rfl, rfl⟩, fun c hc hdc => ⟨fun hc2 => ⟨⟨0, by omega, rfl, rfl⟩, fun i hii hdi => ⟨fun hi2 => ?_, fun hi2 => ?_⟩⟩, fun hc2 => ?_⟩⟩, fun h3 => ?_⟩⟩
 ·unfold Sp.static
  rw [if_pos]
  simpa using h
 ·have hi3 : i < l.length := by omega
  obtain ⟨g1, g2⟩ := hg i;obtain ⟨m1, m2⟩ := mul_bound hs1 hs2 g1 (by omega);refine ⟨⟨inN_of hi2, inK_of (by omega) (by omega), inK_of (by omega) (by omega), ?_, segsAt_strict _ _ _⟩, inK_mid (by omega) (by omega), i + 1, by omega, by omega, ?_, by omega⟩
  ·refine Nat.le_trans (segsAt_len _ _ _) ?_
   rw [List.length_take];omega
  ·exact (segsAt_snoc _ _ _ _ hi3).symm
 ·have : i = l.length := by omega
  subst this;rw [List.take_length];refine ⟨inK_mid (by omega) (by omega), c + 1, by omega, by omega, ?_, by omega⟩
  show max (_ : Int) _ = ((max (Sp.maxSegs _ l c) _ : Nat) : Int)
  omega
 ·have : c = 16 := by omega
  subst this;unfold Sp.static;rw [if_neg (by simp [h2]; intro h; exact h1 (by simp [h])), if_pos (show Sp.loOf (any, it, lc, gr, (lo, hi, st, ()), ()) = Sp.hiOf (any, it, lc, gr, (lo, hi, st, ()), ()) from h3)]
 ·have hn0 : 0 < l.length := by omega
  have e1 : ((l.length : Int) - 1).toNat = l.length - 1 := by omega
  have e2 : Int.toNat 0 = 0 := rfl
  rw [e1, e2];have hf := strict_first hS hn0;have a1 := hg 0;have a2 := hg (l.length - 1);have hlast : l.getD (l.length - 1) 0 = Sp.lastI l := rfl;rw [hlast] at a2 ⊢;have hst : Sp.static (any, it, lc, gr, (lo, hi, st, ()), ()) l = min (l.length : Int) ((Sp.absI (it + lc) * (Sp.lastI l - l.getD 0 0) + hi - lo - 1) / 16 + 2) := by
   unfold Sp.static;rw [if_neg (by simp [h2]; intro h; exact h1 (by simp [h])), if_neg (show ¬ Sp.loOf (any, it, lc, gr, (lo, hi, st, ()), ()) = Sp.hiOf (any, it, lc, gr, (lo, hi, st, ()), ()) from h3)]
   rfl
  rw [hst];have key : ∀ s : Int, 0 <= s -> s <= 4398046511104 -> s = Sp.absI (it + lc) ->
    (inK .i64 ((l.length : Int) - 1) /\ inN ((l.length : Int) - 1) l.length /\ inN 0 l.length /\ inK .i64 (Sp.lastI l - l.getD 0 0) /\ inK .i64 (s * (Sp.lastI l - l.getD 0 0)) /\ inK .i64 (s * (Sp.lastI l - l.getD 0 0) + hi) /\ inK .i64 (s * (Sp.lastI l - l.getD 0 0) + hi - lo)) /\
    (inK .i64 (s * (Sp.lastI l - l.getD 0 0) + hi - lo - 1) /\ (¬(16 : Int) = 0 /\ inK .i64 ((s * (Sp.lastI l - l.getD 0 0) + hi - lo - 1).tdiv 16)) /\ inK .i64 ((s * (Sp.lastI l - l.getD 0 0) + hi - lo - 1).tdiv 16 + 2)) /\
    Min.min (l.length : Int) ((s * (Sp.lastI l - l.getD 0 0) + hi - lo - 1).tdiv 16 + 2) = min (l.length : Int) ((Sp.absI (it + lc) * (Sp.lastI l - l.getD 0 0) + hi - lo - 1) / 16 + 2) := by
   intro s hs0 hs1 hse;obtain ⟨m1, m2⟩ := mul_bound (s := s) (x := Sp.lastI l - l.getD 0 0) (by omega) hs1 (by omega) (by omega);have m0 : 0 <= s * (Sp.lastI l - l.getD 0 0) := Int.mul_nonneg hs0 (by omega);rw [<- hse];generalize hP : s * (Sp.lastI l - l.getD 0 0) = P at *;have hlt : lo < hi := by omega
   have et : (P + hi - lo - 1).tdiv 16 = (P + hi - lo - 1) / 16 := Int.tdiv_eq_ediv_of_nonneg (by omega)
   rw [et];refine ⟨⟨inK_mid (by omega) (by omega), ⟨by omega, by omega⟩, ⟨by omega, by omega⟩, inK_of (by omega) (by omega), inK_of (by omega) (by omega), inK_of (by omega) (by omega), inK_of (by omega) (by omega)⟩, ⟨inK_of (by omega) (by omega), ⟨by decide, inK_of (by omega) (by omega)⟩, inK_of (by omega) (by omega)⟩, rfl⟩
  refine ⟨fun hneg => ⟨inK_of (by omega) (by omega), ?_⟩, fun hpos => ?_⟩
  ·exact key (0 - (it + lc)) (by omega) (by omega) (by unfold Sp.absI; rw [if_pos hneg]; omega)
  ·exact key (it + lc) (by omega) (by omega) (by unfold Sp.absI; rw [if_neg (by omega)])
end Go.User
namespace Go.User
open Go.Lf Go.Proofs
theorem pairs_snoc (e : List Sp.Ev) (l : List Sp.Arr) (i : Nat) (h : i < e.length) :
  Sp.pairs (e.take (i + 1)) l = Sp.pairs (e.take i) l ++ (if Sp.counts (e.getD i (0, 0, 0, 0, 0, 0, 0, 0, 0, ())) l then [((e.getD i (0, 0, 0, 0, 0, 0, 0, 0, 0, ())).2.2.2.2.2.2.1, (e.getD i (0, 0, 0, 0, 0, 0, 0, 0, 0, ())).2.2.2.2.2.2.2.1)] else []) := by
 unfold Sp.pairs
 rw [List.take_succ_eq_append_getElem h, List.filter_append, List.map_append]
 have : e.getD i (0, 0, 0, 0, 0, 0, 0, 0, 0, ()) = e[i] := by simp [List.getD, List.getElem?_eq_getElem h]
 rw [this]
 congr 1
 by_cases hc : Sp.counts e[i] l = true
 ·rw [if_pos hc, List.filter_cons, if_pos hc]; rfl
 ·rw [if_neg hc, List.filter_cons, if_neg hc]; rfl
theorem wordsAt_snoc (e : List Sp.Ev) (l : List Sp.Arr) (i : Nat) (a : Int) (h : i < e.length) :
  Sp.wordsAt (e.take (i + 1)) l a = Sp.wordsAt (e.take i) l a ++ (if (e.getD i (0, 0, 0, 0, 0, 0, 0, 0, 0, ())).2.2.2.2.2.2.1 = a /\ Sp.counts (e.getD i (0, 0, 0, 0, 0, 0, 0, 0, 0, ())) l = true then [(e.getD i (0, 0, 0, 0, 0, 0, 0, 0, 0, ())).2.2.2.2.2.2.2.1] else []) := by
 unfold Sp.wordsAt wordsOf
 rw [pairs_snoc e l i h, List.filter_append, List.map_append]
 congr 1
 generalize e.getD i (0, 0, 0, 0, 0, 0, 0, 0, 0, ()) = x
 by_cases hc : Sp.counts x l = true
 ·rw [if_pos hc]
  by_cases ha : x.2.2.2.2.2.2.1 = a
  ·rw [if_pos ⟨ha, hc⟩]; simp [ha]
  ·rw [if_neg (fun h => ha h.1)]; simp [ha]
 ·rw [if_neg hc, if_neg (fun h => hc h.2)]; rfl
theorem wordsAt_len (e : List Sp.Ev) (l : List Sp.Arr) (a : Int) : (Sp.wordsAt e l a).length <= e.length := by
 unfold Sp.wordsAt wordsOf Sp.pairs
 rw [List.length_map]
 refine Nat.le_trans (List.length_filter_le _ _) ?_
 rw [List.length_map]
 exact List.length_filter_le _ _
theorem sumTo_le {f : Nat -> Nat} {b : Nat} (h : ∀ a, f a <= b) : ∀ n, sumTo f n <= n * b
 | 0 => by simp [sumTo]
 | n + 1 => by
  have := sumTo_le h n
  have := h n
  unfold sumTo;rw [Nat.succ_mul];omega
theorem movesTo_le (e : List Sp.Ev) (l : List Sp.Arr) (n : Nat) : Sp.movesTo e l n <= n * e.length :=
 sumTo_le (fun a => Nat.le_trans (segs_len_le _) (wordsAt_len e l a)) n
theorem pairs_in {e : List Sp.Ev} {l : List Sp.Arr} : ∀ p, p ∈ Sp.pairs e l -> 0 <= p.1 /\ p.1 < (l.length : Int) := by
 intro p hp
 obtain ⟨x, hx, rfl⟩ := List.mem_map.1 hp
 have := (List.mem_filter.1 hx).2
 simp [Sp.counts] at this
 exact ⟨this.1.1.2, this.1.2⟩
theorem moves_sum (e : List Sp.Ev) (l : List Sp.Arr) : Sp.moves e l = (Sp.movesTo e l l.length : Nat) := by
 unfold Sp.moves Sp.movesTo
 rw [nmoves_sum (Sp.pairs e l) l.length pairs_in]
 rfl

theorem ok17 : FOk Tryd.prog 17 S17 := by
 have hC : CtxOK Tryd.prog C17 := okC (fns_cons ok30 (fns_cons ok26 (fns_cons ok27 fns_nil))) rfl rfl rfl rfl rfl rfl rfl
 refine FOk.intro hC (stpS_ok hC) Tryd.call17 Tryd.func17 (by kernel_rfl) (by kernel_rfl) L17 (vc17.mpr ?_)
 simp only [zz, zy]
 rintro ⟨(e : List Sp.Ev), (l : List Sp.Arr), ⟨⟩⟩ ⟨hle, hll⟩ hx
 clear hx
 dsimp only at *
 refine ⟨⟨0, Nat.zero_le _, rfl, rfl⟩, fun a ha hda => ⟨fun ha2 => ⟨⟨0, Nat.zero_le _, ?_, rfl⟩, fun i hi hdi => ⟨fun hi2 => ⟨⟨inN_of hi2, fun _ => inN_of hi2⟩, fun hb => ⟨⟨inN_of hi2, ?_, segs_strict _⟩, inK_mid (by omega) (by omega), i + 1, by omega, by omega, ?_, by omega⟩, fun hb => ⟨inK_mid (by omega) (by omega), i + 1, by omega, by omega, ?_, by omega⟩⟩, fun hi2 => ?_⟩⟩, fun ha2 => ?_⟩⟩
 ·simp [Sp.wordsAt, Sp.pairs, wordsOf, Sp.segs, segs]
 ·refine Nat.le_trans (segs_len_le _) (Nat.le_trans (wordsAt_len _ _ _) ?_)
  rw [List.length_take]; omega
 ·have h1 : i < e.length := by omega
  rw [wordsAt_snoc e l i a h1, if_pos]
  ·exact (segs_snoc _ _).symm
  ·exact hb
 ·have h1 : i < e.length := by omega
  rw [wordsAt_snoc e l i a h1, if_neg, List.append_nil];rintro ⟨hq, hc⟩;rw [show ((e.getD i (0, 0, 0, 0, 0, 0, 0, 0, 0, ())).2.2.2.2.2.2.1 == (a : Int)) = true from beq_iff_eq.2 hq] at hb;rw [hc] at hb;cases hb
 ·have : i = e.length := by omega
  subst this;rw [List.take_length];have b1 := movesTo_le e l a;have b2 : a * e.length <= 1000 * 1000 := Nat.mul_le_mul (by omega) (by omega);have b3 : (Sp.segs (Sp.wordsAt e l a)).length <= 1000 := Nat.le_trans (segs_len_le _) (Nat.le_trans (wordsAt_len _ _ _) (by omega));refine ⟨inK_mid (by omega) (by omega), inK_mid (by omega) (by omega), a + 1, by omega, by omega, ?_, by omega⟩
  show _ = ((Sp.movesTo e l a + (Sp.segs (Sp.wordsAt e l a)).length : Nat) : Int)
  push_cast
  rfl
 ·have : a = l.length := by omega
  subst this;exact (moves_sum e l).symm

theorem words_len (f : Sp.Form) (l : List Int) (c : Int) (pick : List Int) : (Sp.words f l c pick).length = l.length := by simp [Sp.words]
theorem words_snoc (f : Sp.Form) (l : List Int) (c : Int) (pick : List Int) (i : Nat) (h : i < l.length) :
  (Sp.words f l c pick).take i ++ [c + Sp.sOf f * l.getD i 0 + Sp.restAt f pick i] = (Sp.words f l c pick).take (i + 1) := by
 rw [List.take_succ_eq_append_getElem (by rw [words_len]; exact h)]
 simp [Sp.words]
theorem rest_bound {lo hi st p : Int} (h1 : -2199023255552 <= lo) (h2 : hi <= 2199023255552) (h3 : lo <= hi) (h4 : 0 < st) (hp : 0 <= p) :
  (hi - lo).tdiv st + 1 = (hi - lo) / st + 1 /\ 0 <= (hi - lo) / st /\ (hi - lo) / st <= hi - lo /\ 0 <= st * p.tmod ((hi - lo) / st + 1) /\ st * p.tmod ((hi - lo) / st + 1) <= hi - lo /\ 0 <= p.tmod ((hi - lo) / st + 1) := by
 have e1 : (hi - lo).tdiv st = (hi - lo) / st := Int.tdiv_eq_ediv_of_nonneg (by omega)
 have e2 : 0 <= (hi - lo) / st := Int.ediv_nonneg (by omega) (by omega)
 have e3 : (hi - lo) / st <= hi - lo := Int.ediv_le_self _ (by omega)
 have e4 : p.tmod ((hi - lo) / st + 1) = p % ((hi - lo) / st + 1) := Int.tmod_eq_emod_of_nonneg hp
 have e5 : 0 <= p % ((hi - lo) / st + 1) := Int.emod_nonneg _ (by omega)
 have e6 : p % ((hi - lo) / st + 1) < (hi - lo) / st + 1 := Int.emod_lt_of_pos _ (by omega)
 have e7 : st * (p % ((hi - lo) / st + 1)) <= st * ((hi - lo) / st) := Int.mul_le_mul_of_nonneg_left (by omega) (by omega)
 have e8 : st * ((hi - lo) / st) <= hi - lo := Int.mul_ediv_self_le (by omega)
 rw [e1, e4]
 exact ⟨rfl, e2, e3, Int.mul_nonneg (by omega) e5, by omega, e5⟩

theorem ok20 : FOk Tryd.prog 20 S20 := by
 refine FOk.intro (okA fns_nil) (stpS_ok (okA fns_nil)) Tryd.call20 Tryd.func20 (by kernel_rfl) (by kernel_rfl) L20 (vc20.mpr ?_)
 simp only [zz, zy]
 rintro ⟨⟨any, (it : Int), (lc : Int), (gr : Int), ⟨(lo : Int), (hi : Int), (st : Int), ⟨⟩⟩, ⟨⟩⟩, (l : List Int), (c : Int), (pick : List Int), ⟨⟩⟩ ⟨hu, hL, hc1, hc2⟩ hx
 have hpick : ∀ p ∈ pick, 0 <= p /\ p <= (65535 : Int) := hx.2.2.2.2
 obtain ⟨⟨u1, u2⟩, ⟨u3, u4⟩, ⟨u5, u6⟩, ⟨u7, u8⟩, u9, u10, u11⟩ := hu
 simp only [Sp.loOf, Sp.hiOf, Sp.stOf] at u5 u6 u7 u8 u9 u10 u11
 clear hx
 dsimp only at *
 have hll := hL.1
 have hs1 : -4398046511104 <= it + lc := by omega
 have hs2 : it + lc <= 4398046511104 := by omega
 have hg := lanesOk_getD hL
 have hw := words_snoc (any, it, lc, gr, (lo, hi, st, ()), ()) l c pick
 have hwl := words_len (any, it, lc, gr, (lo, hi, st, ()), ()) l c pick
 generalize hW : Sp.words (any, it, lc, gr, (lo, hi, st, ()), ()) l c pick = W at hw hwl ⊢
 refine ⟨⟨0, Nat.zero_le _, rfl, rfl⟩, fun i hii hdi => ⟨fun hi2 => ?_, fun hi2 => ?_⟩⟩
 ·have hi3 : i < l.length := by omega
  obtain ⟨g1, g2⟩ := hg i;obtain ⟨m1, m2⟩ := mul_bound hs1 hs2 g1 (by omega);have hr : Sp.restAt (any, it, lc, gr, (lo, hi, st, ()), ()) pick i = if 0 < st /\ 0 < pick.length then lo + st * ((pick.getD (i % pick.length) 0).tmod ((hi - lo).tdiv st + 1)) else lo := rfl;have hwi := hw i hi3;rw [show Sp.sOf (any, it, lc, gr, (lo, hi, st, ()), ()) = it + lc from rfl] at hwi;refine ⟨fun ⟨k1, k2⟩ => ?_, fun hk => ?_⟩
  ·have k2 : 0 < pick.length := by omega
   have hpi : i % pick.length < pick.length := Nat.mod_lt _ k2
   have hp : 0 <= pick.getD (i % pick.length) 0 := by
    rw [List.getD, List.getElem?_eq_getElem hpi];exact (hpick _ (List.getElem_mem hpi)).1
   obtain ⟨r1, r2, r3, r4, r5, r6⟩ := rest_bound (p := pick.getD (i % pick.length) 0) u5 u8 u9 k1 hp;have em : ((i : Int).tmod (pick.length : Int)) = ((i % pick.length : Nat) : Int) := by
    rw [Int.tmod_eq_emod_of_nonneg (by omega)]; rfl
   rw [em, Int.toNat_natCast];rw [if_pos ⟨k1, k2⟩, r1] at hr;rw [r1];have r7 : (hi - lo).tdiv st = (hi - lo) / st := by omega
   rw [r7];rw [hr] at hwi;refine ⟨⟨inK_of (by omega) (by omega), ⟨by omega, inK_of (by omega) (by omega)⟩, inK_of (by omega) (by omega)⟩, ⟨by omega, ⟨by omega, by omega⟩, by omega, inK_of (by omega) (by omega), inK_of (by omega) (by omega)⟩, ⟨⟨inK_of (by omega) (by omega), inN_of hi2, inK_of (by omega) (by omega), inK_of (by omega) (by omega), inK_of (by omega) (by omega)⟩, ?_⟩, inK_mid (by omega) (by omega), i + 1, by omega, by omega, hwi, by omega⟩
   rw [maxNew_eq, List.length_take, hwl]; omega
  ·rw [if_neg (by rintro ⟨k1, k2⟩; simp at hk; have := hk k1; simp [this] at k2)] at hr
   rw [hr] at hwi;refine ⟨⟨⟨inK_of (by omega) (by omega), inN_of hi2, inK_of (by omega) (by omega), inK_of (by omega) (by omega), inK_of (by omega) (by omega)⟩, ?_⟩, inK_mid (by omega) (by omega), i + 1, by omega, by omega, hwi, by omega⟩
   rw [maxNew_eq, List.length_take, hwl]; omega
 ·rw [List.take_of_length_le (by rw [hwl]; omega)]
end Go.User
namespace Go.User
open Go.Lf Go.Proofs
theorem wrapU {n : Nat} (h : n < 18446744073709551616) : IntKind.u64.wrap (n : Int) = n := inK_wrap (k := .u64) ⟨by show (0 : Int) <= _; omega, by show _ <= (18446744073709551615 : Int); omega⟩
theorem wrapI {n : Nat} (h : n < 9223372036854775808) : IntKind.i64.wrap (n : Int) = n := inK_wrap (k := .i64) ⟨by show (-9223372036854775808 : Int) <= _; omega, by show _ <= (9223372036854775807 : Int); omega⟩
theorem andU (x m : Nat) (hx : x < 18446744073709551616) (hm : m < 18446744073709551616) : (BitVec.ofInt 64 (x : Int) &&& BitVec.ofInt 64 (m : Int)).toNat = x &&& m := by
 rw [BitVec.toNat_and, BitVec.ofInt_natCast, BitVec.ofInt_natCast, BitVec.toNat_ofNat, BitVec.toNat_ofNat, Nat.mod_eq_of_lt hx, Nat.mod_eq_of_lt hm]
theorem shU (x k : Nat) (hk : k <= 64) : ((x : Int) / (2 : Int) ^ shiftN IntKind.u64 (k : Int)) = ((x / 2 ^ k : Nat) : Int) := by
 have : shiftN IntKind.u64 (k : Int) = k := by
  unfold shiftN;show min (k : Int).toNat 64 = k
  simp
  omega
 rw [this]
 push_cast
 rfl
def cA (m k z : Int) : Int := IntKind.u64.wrap (IntKind.u64.wrap (↑(BitVec.ofInt 64 (z / (2 : Int) ^ shiftN IntKind.u64 k) &&& BitVec.ofInt 64 m).toNat : Int) + IntKind.u64.wrap (↑(BitVec.ofInt 64 z &&& BitVec.ofInt 64 m).toNat : Int))
def cB (z : Int) : Int := IntKind.u64.wrap (↑(BitVec.ofInt 64 (IntKind.u64.wrap (z / (2 : Int) ^ shiftN IntKind.u64 (4 : Int) + z)) &&& BitVec.ofInt 64 (1085102592571150095 : Int)).toNat : Int)
def cC (k z : Int) : Int := IntKind.u64.wrap (z + z / (2 : Int) ^ shiftN IntKind.u64 k)
def cD (z : Int) : Int := IntKind.i64.wrap (↑(BitVec.ofInt 64 (IntKind.i64.wrap z) &&& BitVec.ofInt 64 (127 : Int)).toNat : Int)
theorem cA_eq (k n x : Nat) (hk : k <= 64) (hx : x < 18446744073709551616) (hm : 2 * fmask k n < 18446744073709551616) : cA (fmask k n : Nat) (k : Nat) x = (pairS k n x : Nat) := by
 unfold cA pairS
 have h1 : x / 2 ^ k &&& fmask k n <= fmask k n := Nat.and_le_right
 have h2 : x &&& fmask k n <= fmask k n := Nat.and_le_right
 have h3 : x / 2 ^ k < 18446744073709551616 := Nat.lt_of_le_of_lt (Nat.div_le_self _ _) hx
 rw [shU x k hk, andU _ _ h3 (by omega), andU _ _ hx (by omega), wrapU (by omega), wrapU (by omega)]
 rw [show ((x / 2 ^ k &&& fmask k n : Nat) : Int) + ((x &&& fmask k n : Nat) : Int) = (((x / 2 ^ k &&& fmask k n) + (x &&& fmask k n) : Nat) : Int) from by push_cast; rfl]
 rw [wrapU (by omega)]
theorem cC_eq (k x : Nat) (hk : k <= 64) (h : x + x / 2 ^ k < 18446744073709551616) : cC k x = ((x + x / 2 ^ k : Nat) : Int) := by
 unfold cC
 rw [shU x k hk, <- Int.natCast_add, wrapU h]
theorem ones_eq (x : Nat) (hx : x < 18446744073709551616) :
  cD (cC 32 (cC 16 (cC 8 (cB (cA 3689348814741910323 2 (cA 6148914691236517205 1 x)))))) = ((onesN 64 x).length : Int) := by
 obtain ⟨m1, m2, m3, s1, s2, s3, hf, hlast⟩ := count_ones x hx
 have l1 := sm_lt _ _ _ _ s1
 have l2 := sm_lt _ _ _ _ s2
 have l3 := sm_lt _ _ _ _ s3
 simp only [Nat.reduceMul, Nat.reducePow] at l1 l2 l3
 have e1 : cA 6148914691236517205 1 x = (pairS 1 32 x : Nat) := by
  have := cA_eq 1 32 x (by omega) hx (by rw [m1]; omega)
  rw [m1] at this;exact this
 rw [e1]
 have e2 : cA 3689348814741910323 2 (pairS 1 32 x : Nat) = (pairS 2 16 (pairS 1 32 x) : Nat) := by
  have := cA_eq 2 16 (pairS 1 32 x) (by omega) l1 (by rw [m2]; omega)
  rw [m2] at this;exact this
 rw [e2]
 generalize hy : pairS 2 16 (pairS 1 32 x) = y at *
 have hdig : y / 2 ^ 4 + y < 18446744073709551616 := by
  have h15 : y / 16 / 16 / 16 / 16 / 16 / 16 / 16 / 16 / 16 / 16 / 16 / 16 / 16 / 16 / 16 <= 4 := by
   simp only [Sm, Nat.reducePow] at s2;obtain ⟨_, _, _, _, _, _, _, _, _, _, _, _, _, _, _, hh, hz⟩ := s2;omega
  omega
 have e3 : cB y = (pairS 4 8 y : Nat) := by
  unfold cB;have := shU y 4 (by omega);rw [show ((4 : Nat) : Int) = 4 from rfl] at this;rw [this, <- Int.natCast_add, wrapU hdig];have := andU (y / 2 ^ 4 + y) 1085102592571150095 hdig (by omega);rw [show ((1085102592571150095 : Nat) : Int) = 1085102592571150095 from rfl] at this;rw [this, <- m3, hlast];exact wrapU l3
 rw [e3]
 generalize hz : pairS 4 8 y = z at *
 obtain ⟨b1, b2, b3, b4⟩ := sum8 z s3
 simp only [Nat.reducePow] at b1 b2 b3
 have e4 : cC 8 z = ((z + z / 256 : Nat) : Int) := cC_eq 8 z (by omega) b1
 rw [e4]
 have e5 : cC 16 ((z + z / 256 : Nat) : Int) = ((z + z / 256 + (z + z / 256) / 65536 : Nat) : Int) := cC_eq 16 _ (by omega) b2
 rw [e5]
 have e6 : cC 32 ((z + z / 256 + (z + z / 256) / 65536 : Nat) : Int) = ((z + z / 256 + (z + z / 256) / 65536 + (z + z / 256 + (z + z / 256) / 65536) / 4294967296 : Nat) : Int) := cC_eq 32 _ (by omega) (Nat.lt_trans b3 (by decide))
 rw [e6]
 rw [<- hf, <- b4]
 generalize z + z / 256 + (z + z / 256) / 65536 + (z + z / 256 + (z + z / 256) / 65536) / 4294967296 = t at *
 unfold cD
 rw [wrapI b3]
 have := andU t 127 (Nat.lt_trans b3 (by decide)) (by omega)
 rw [show ((127 : Nat) : Int) = 127 from rfl] at this
 rw [this, show (127 : Nat) = 2 ^ 7 - 1 from rfl, Nat.and_two_pow_sub_one_eq_mod]
 exact wrapI (by omega)
theorem ok22 : FOk Tryd.prog 22 S22 := by
 refine FOk.intro (okA fns_nil) (stpS_ok (okA fns_nil)) Tryd.call22 Tryd.func22 (by kernel_rfl) (by kernel_rfl) L22 (vc22.mpr ?_)
 intro q0 q1 q2 q3 q4 q5 q6 q7 q8 q9 q10 q11 x q12 q13 q14 q15 q16 _ hx
 obtain ⟨(n : Int), ⟨⟩⟩ := x
 have h0 : (0 : Int) <= n := hx.1.1
 have h1 : n <= (18446744073709551615 : Int) := hx.1.2
 obtain ⟨k, rfl⟩ : ∃ k : Nat, n = k := ⟨n.toNat, by omega⟩
 have key := ones_eq k (by omega)
 refine ⟨⟨⟨trivial, trivial⟩, trivial⟩, ⟨⟨trivial, by decide, trivial, trivial, trivial, trivial, trivial, trivial⟩, trivial⟩, ⟨⟨trivial, by decide, trivial, trivial, trivial, trivial, trivial, trivial⟩, trivial⟩, ⟨⟨trivial, by decide, trivial, trivial, trivial, trivial, trivial⟩, trivial⟩,
  ⟨⟨trivial, trivial, by decide, trivial, trivial, trivial⟩, trivial⟩, ⟨⟨trivial, trivial, by decide, trivial, trivial, trivial⟩, trivial⟩, ⟨⟨trivial, trivial, by decide, trivial, trivial, trivial⟩, trivial⟩, ⟨⟨trivial, trivial, trivial, trivial, trivial⟩, trivial⟩, ?_⟩
 show _ = ((onesN 64 ((k : Int).toNat)).length : Int)
 rw [Int.toNat_natCast]
 exact key
end Go.User
namespace Go.User
theorem segsAt_shift (s c q : Int) (l : List Int) : (Sp.segsAt s (c + 16 * q) l).length = (Sp.segsAt s c l).length := by
 have e : (l.map fun i => c + 16 * q + s * i) = (l.map fun i => c + s * i).map (· + 16 * q) := by
  rw [List.map_map];refine List.map_congr_left fun i _ => ?_
  show c + 16 * q + s * i = c + s * i + 16 * q
  omega
 unfold Sp.segsAt Sp.segs
 rw [e, segs_shift, List.length_map]
theorem le_maxSegs (s : Int) (l : List Int) : ∀ (k c : Nat), c < k -> (Sp.segsAt s c l).length <= Sp.maxSegs s l k
 | k + 1, c, h => by
  unfold Sp.maxSegs;by_cases hc : c = k
  ·subst hc; omega
  ·have := le_maxSegs s l k c (by omega)
   omega
theorem segsAt_le_max (s c : Int) (l : List Int) : (Sp.segsAt s c l).length <= Sp.maxSegs s l 16 := by
 obtain ⟨r, hr⟩ : ∃ r : Nat, (r : Int) = c % 16 := ⟨(c % 16).toNat, by omega⟩
 have h := segsAt_shift s (c % 16) (c / 16) l
 have e : c % 16 + 16 * (c / 16) = c := by omega
 rw [e, <- hr] at h
 rw [h]
 exact le_maxSegs s l 16 r (by omega)
theorem maxSegs_mono (s : Int) {l m : List Int} (h : ∀ a ∈ l, a ∈ m) : ∀ k, Sp.maxSegs s l k <= Sp.maxSegs s m k
 | 0 => Nat.le_refl _
 | k + 1 => by
  have h1 := maxSegs_mono s h k
  have h2 : (Sp.segsAt s k l).length <= (Sp.segsAt s k m).length := segs_mono fun a ha => by
   obtain ⟨i, hi, rfl⟩ := List.mem_map.1 ha;exact List.mem_map.2 ⟨i, h i hi, rfl⟩
  unfold Sp.maxSegs;omega
theorem maxSegs_le_of {s : Int} {l : List Int} {b : Nat} : ∀ k, (∀ c : Nat, c < k -> (Sp.segsAt s c l).length <= b) -> Sp.maxSegs s l k <= b
 | 0, _ => Nat.zero_le _
 | k + 1, h => by
  have h1 := maxSegs_le_of (s := s) (l := l) (b := b) k fun c hc => h c (by omega)
  have h2 := h k (by omega)
  unfold Sp.maxSegs;omega
theorem segs_span {l : List Int} {a b : Int} (hab : a <= b) (h : ∀ x ∈ l, a <= x /\ x <= b) : ((segs l).length : Int) <= b / 16 - a / 16 + 1 :=
 strict_len (segs_strict l) (fun y hy => by
  obtain ⟨x, hx, rfl⟩ := (mem_segs l y).1 hy;have := h x hx;omega) (by omega)
theorem strict_range {l : List Int} (hs : Strict l) : ∀ x ∈ l, l.getD 0 0 <= x /\ x <= Sp.lastI l := by
 intro x hx
 obtain ⟨i, hi, rfl⟩ := List.mem_iff_getElem.1 hx
 have h0 : 0 < l.length := by omega
 have h1 : l.length - 1 < l.length := by omega
 unfold Sp.lastI
 simp only [List.getD, List.getElem?_eq_getElem h0, List.getElem?_eq_getElem h1, Option.getD_some]
 constructor
 ·by_cases hi0 : i = 0
  ·subst hi0; exact Int.le_refl _
  ·have := List.pairwise_iff_getElem.1 hs 0 i h0 hi (by omega); omega
 ·by_cases hi1 : i = l.length - 1
  ·subst hi1; exact Int.le_refl _
  ·have := List.pairwise_iff_getElem.1 hs i (l.length - 1) hi h1 (by omega); omega
theorem mul_span {s x y a : Int} (ha : a = Sp.absI s) (h0 : 0 <= x) (h1 : x <= y) : (0 <= s -> 0 <= s * x /\ s * x <= a * y) /\ (s < 0 -> - (a * y) <= s * x /\ s * x <= 0) := by
 unfold Sp.absI at ha
 constructor
 ·intro h
  rw [if_neg (by omega)] at ha;subst ha;exact ⟨Int.mul_nonneg h h0, Int.mul_le_mul_of_nonneg_left h1 h⟩
 ·intro h
  rw [if_pos h] at ha;subst ha;have a1 : (-s) * x <= (-s) * y := Int.mul_le_mul_of_nonneg_left h1 (by omega);have a2 : 0 <= (-s) * x := Int.mul_nonneg (by omega) h0;rw [Int.neg_mul] at a1 a2;omega
theorem lanes_pos {l : List Int} : l.length ≠ 0 -> 0 < l.length := by omega
theorem rest_at_bound (f : Sp.Form) (pick : List Int) (i : Nat) (hu : Sp.usable f) (hp : ∀ p ∈ pick, 0 <= p) : Sp.loOf f <= Sp.restAt f pick i /\ Sp.restAt f pick i <= Sp.hiOf f := by
 obtain ⟨_, _, ⟨u5, u6⟩, ⟨u7, u8⟩, u9, _, _⟩ := hu
 unfold Sp.restAt
 split
 ·rename_i h
  have hi : i % pick.length < pick.length := Nat.mod_lt _ h.2
  have h0 : 0 <= pick.getD (i % pick.length) 0 := by
   rw [List.getD, List.getElem?_eq_getElem hi];exact hp _ (List.getElem_mem hi)
  obtain ⟨r1, r2, r3, r4, r5, r6⟩ := rest_bound (p := pick.getD (i % pick.length) 0) u5 u8 u9 h.1 h0;rw [r1];omega
 ·omega
theorem mem_words {f : Sp.Form} {l : List Int} {c : Int} {pick : List Int} {y : Int} (h : y ∈ Sp.words f l c pick) : ∃ i, i < l.length /\ y = c + Sp.sOf f * l.getD i 0 + Sp.restAt f pick i := by
 unfold Sp.words at h
 obtain ⟨i, hi, rfl⟩ := List.mem_map.1 h
 exact ⟨i, List.mem_range.1 hi, rfl⟩
theorem bound_ok (f : Sp.Form) (l : List Int) (c : Int) (pick : List Int) (hu : Sp.usable f) (hs : Strict l) (hp : ∀ p ∈ pick, 0 <= p) :
  ((Sp.segs (Sp.words f l c pick)).length : Int) <= Sp.static f l := by
 have hlen : (Sp.segs (Sp.words f l c pick)).length <= l.length := by
  have := segs_len_le (Sp.words f l c pick)
  rw [words_len] at this;exact this
 unfold Sp.static
 split
 ·omega
 ·rename_i hn
  have h0 : 0 < l.length := Nat.pos_of_ne_zero fun h => hn (.inl h)
  split
  ·rename_i he
   have e : Sp.segs (Sp.words f l c pick) = Sp.segsAt (Sp.sOf f) (c + Sp.loOf f) l := by
    unfold Sp.segsAt;refine segs_congr fun a => ?_
    constructor
    ·intro ha
     obtain ⟨i, hi, rfl⟩ := mem_words ha;have := rest_at_bound f pick i hu hp;refine List.mem_map.2 ⟨l[i], List.getElem_mem hi, ?_⟩;simp only [List.getD, List.getElem?_eq_getElem hi, Option.getD_some];omega
    ·intro ha
     obtain ⟨x, hx, rfl⟩ := List.mem_map.1 ha;obtain ⟨i, hi, rfl⟩ := List.mem_iff_getElem.1 hx;have := rest_at_bound f pick i hu hp;refine List.mem_map.2 ⟨i, List.mem_range.2 hi, ?_⟩;simp only [List.getD, List.getElem?_eq_getElem hi, Option.getD_some];omega
   rw [e];have := segsAt_le_max (Sp.sOf f) (c + Sp.loOf f) l;omega
  ·rename_i he
   have hlt : Sp.loOf f < Sp.hiOf f := by
    have := hu.2.2.2.2.1
    omega
   have hr := strict_range hs
   have hfl := strict_first hs h0
   obtain ⟨A, hA⟩ : ∃ A, A = Sp.absI (Sp.sOf f) := ⟨_, rfl⟩;have hw : Sp.wide f l = A * (Sp.lastI l - l.getD 0 0) + Sp.hiOf f - Sp.loOf f := by rw [hA]; rfl
   obtain ⟨P, hP⟩ : ∃ P, P = A * (Sp.lastI l - l.getD 0 0) := ⟨_, rfl⟩;rw [<- hP] at hw;have hA0 : 0 <= A := by rw [hA]; unfold Sp.absI; split <;> omega
   have hP0 : 0 <= P := by rw [hP]; exact Int.mul_nonneg hA0 (by omega)
   have hspan : ∃ a b, a <= b /\ b - a = Sp.wide f l /\ ∀ x ∈ Sp.words f l c pick, a <= x /\ x <= b := by
    obtain ⟨m1, m2⟩ : 0 <= 0 /\ 0 <= 0 := ⟨Nat.le_refl _, Nat.le_refl _⟩;have key : ∀ x ∈ Sp.words f l c pick, ∃ z r, x = c + Sp.sOf f * l.getD 0 0 + Sp.sOf f * z + r /\ 0 <= z /\ z <= Sp.lastI l - l.getD 0 0 /\ Sp.loOf f <= r /\ r <= Sp.hiOf f := by
     intro x hx;obtain ⟨i, hi, rfl⟩ := mem_words hx;have hb := rest_at_bound f pick i hu hp;have hm : l.getD i 0 ∈ l := by rw [List.getD, List.getElem?_eq_getElem hi]; exact List.getElem_mem hi
     have := hr _ hm
     refine ⟨l.getD i 0 - l.getD 0 0, Sp.restAt f pick i, ?_, by omega, by omega, hb.1, hb.2⟩
     rw [Int.mul_sub];omega
    by_cases hneg : Sp.sOf f < 0
    ·refine ⟨c + Sp.sOf f * l.getD 0 0 - P + Sp.loOf f, c + Sp.sOf f * l.getD 0 0 + Sp.hiOf f, by omega, by omega, fun x hx => ?_⟩
     obtain ⟨z, r, rfl, z0, z1, r0, r1⟩ := key x hx;have := (mul_span hA z0 z1).2 hneg;rw [<- hP] at this;omega
    ·refine ⟨c + Sp.sOf f * l.getD 0 0 + Sp.loOf f, c + Sp.sOf f * l.getD 0 0 + P + Sp.hiOf f, by omega, by omega, fun x hx => ?_⟩
     obtain ⟨z, r, rfl, z0, z1, r0, r1⟩ := key x hx;have := (mul_span hA z0 z1).1 (by omega);rw [<- hP] at this;omega
   obtain ⟨a, b, hab, hd, hx⟩ := hspan;have h1 : ((Sp.segs (Sp.words f l c pick)).length : Int) <= b / 16 - a / 16 + 1 := segs_span hab hx;omega
theorem static_le_len (f : Sp.Form) (l : List Int) : Sp.static f l <= l.length := by
 unfold Sp.static
 split
 ·omega
 ·split
  ·have := maxSegs_le (Sp.sOf f) l 16; omega
  ·omega
theorem static_mono (f : Sp.Form) {l m : List Int} (hu : Sp.usable f) (hl : Strict l) (hm : Strict m) (h : ∀ a ∈ l, a ∈ m) : Sp.static f l <= Sp.static f m := by
 have hlen : l.length <= m.length := nodup_len (strict_nodup hl) h
 by_cases hl0 : l.length = 0
 ·have : Sp.static f l = 0 := by unfold Sp.static; rw [if_pos (.inl hl0), hl0]; rfl
  rw [this];unfold Sp.static;split
  ·omega
  ·rename_i hm0
   split
   ·omega
   ·have h0 : 0 < m.length := Nat.pos_of_ne_zero fun h => hm0 (.inl h)
    have hfl := strict_first hm h0
    have hA0 : 0 <= Sp.absI (Sp.sOf f) := by unfold Sp.absI; split <;> omega
    have hP0 := Int.mul_nonneg hA0 (show 0 <= Sp.lastI m - m.getD 0 0 by omega)
    have := hu.2.2.2.2.1
    have hw : 0 <= Sp.wide f m := by unfold Sp.wide; omega
    omega
 ·have hl1 : 0 < l.length := by omega
  have hm1 : 0 < m.length := by omega
  unfold Sp.static;by_cases ha : f.1 = true
  ·rw [if_pos (.inr ha), if_pos (.inr ha)]; omega
  ·have n1 : ¬ (l.length = 0 ∨ f.1 = true) := fun h => h.elim hl0 ha
   have n2 : ¬ (m.length = 0 ∨ f.1 = true) := fun h => h.elim (by omega) ha
   rw [if_neg n1, if_neg n2];by_cases he : Sp.loOf f = Sp.hiOf f
   ·rw [if_pos he, if_pos he]
    have := maxSegs_mono (Sp.sOf f) h 16
    omega
   ·rw [if_neg he, if_neg he]
    have hA0 : 0 <= Sp.absI (Sp.sOf f) := by unfold Sp.absI; split <;> omega
    have r1 := (strict_range hm (l.getD 0 0) (h _ (by rw [List.getD, List.getElem?_eq_getElem hl1]; exact List.getElem_mem hl1))).1
    have hlast : Sp.lastI l ∈ l := by
     unfold Sp.lastI;rw [List.getD, List.getElem?_eq_getElem (show l.length - 1 < l.length by omega)]
     exact List.getElem_mem _
    have r2 := (strict_range hm _ (h _ hlast)).2
    have hfl := strict_first hl hl1
    have hle : Sp.absI (Sp.sOf f) * (Sp.lastI l - l.getD 0 0) <= Sp.absI (Sp.sOf f) * (Sp.lastI m - m.getD 0 0) := Int.mul_le_mul_of_nonneg_left (by omega) hA0
    have hw : Sp.wide f l <= Sp.wide f m := by unfold Sp.wide; omega
    omega
theorem lanes_sub {n a b : Int} (h : ∀ i : Nat, i < 64 -> Nat.testBit a.toNat i = true -> Nat.testBit b.toNat i = true) : ∀ x ∈ Sp.lanes n a, x ∈ Sp.lanes n b := by
 intro x hx
 obtain ⟨i, h1, h2, h3, rfl⟩ := mem_lanes.1 hx
 exact mem_lanes.2 ⟨i, h1, h2, h i h1 h3, rfl⟩
theorem lanes_less {n m a : Int} (h : n <= m) : ∀ x ∈ Sp.lanes n a, x ∈ Sp.lanes m a := by
 intro x hx
 obtain ⟨i, h1, h2, h3, rfl⟩ := mem_lanes.1 hx
 exact mem_lanes.2 ⟨i, h1, by omega, h3, rfl⟩
end Go.User
namespace Go.User
theorem words0 (s : Int) (l : List Int) (c : Int) (pick : List Int) : Sp.words (Sp.form0 s) l c pick = l.map fun i => c + s * i := by
 refine List.ext_getElem (by rw [words_len, List.length_map]) fun i h1 h2 => ?_
 have hi : i < l.length := by rw [words_len] at h1; exact h1
 have hr : Sp.restAt (Sp.form0 s) pick i = 0 := by
  unfold Sp.restAt;rw [if_neg (by rintro ⟨h, _⟩; exact absurd h (by show ¬ (0 : Int) < 0; omega))]
  rfl
 have hs : Sp.sOf (Sp.form0 s) = s := by show (0 : Int) + s = s; omega
 simp [Sp.words, hr, hs, List.getElem?_eq_getElem hi]
theorem segs_words0 (s : Int) (l : List Int) (c : Int) (pick : List Int) : Sp.segs (Sp.words (Sp.form0 s) l c pick) = Sp.segsAt s c l := by rw [words0]; rfl
theorem static0 (s : Int) (l : List Int) (h : l.length ≠ 0) : Sp.static (Sp.form0 s) l = (Sp.maxSegs s l 16 : Int) := by
 have hs : Sp.sOf (Sp.form0 s) = s := by show (0 : Int) + s = s; omega
 unfold Sp.static
 rw [if_neg (by rintro (h' | h'); exact h h'; cases h'), if_pos (show Sp.loOf (Sp.form0 s) = Sp.hiOf (Sp.form0 s) from rfl), hs]
theorem usable0 (s : Int) (h1 : -1099511627776 <= s) (h2 : s <= 1099511627776) : Sp.usable (Sp.form0 s) :=
 ⟨⟨by show (_ : Int) <= 0; omega, by show (0 : Int) <= _; omega⟩, ⟨by show _ <= s; omega, by show s <= _; omega⟩, ⟨by show (_ : Int) <= 0; omega, by show (0 : Int) <= _; omega⟩, ⟨by show (_ : Int) <= 0; omega, by show (0 : Int) <= _; omega⟩, Int.le_refl _, ⟨fun _ => rfl, fun _ => rfl⟩, Int.le_refl _⟩
theorem max_zero (l : List Int) (h : l.length ≠ 0) : Sp.maxSegs 0 l 16 = 1 := by
 refine Nat.le_antisymm (maxSegs_le_of 16 fun c _ => ?_) ?_
 ·have : ((Sp.segsAt 0 c l).length : Int) <= (c : Int) / 16 - (c : Int) / 16 + 1 := segs_span (Int.le_refl _) fun x hx => by
   obtain ⟨i, _, rfl⟩ := List.mem_map.1 hx;omega
  omega
 ·have h1 := le_maxSegs 0 l 16 0 (by omega)
  have : 0 < (Sp.segsAt 0 (0 : Nat) l).length := by
   obtain ⟨x, hx⟩ := List.exists_mem_of_length_pos (show 0 < l.length by omega)
   exact List.length_pos_of_mem ((mem_segs _ ((((0 : Nat) : Int) + 0 * x) / 16)).2 ⟨_, List.mem_map.2 ⟨x, hx, rfl⟩, rfl⟩)
  omega
theorem max_far (s : Int) (l : List Int) (hl : Strict l) (h : 16 <= s ∨ s <= -16) : Sp.maxSegs s l 16 = l.length := by
 refine Nat.le_antisymm (maxSegs_le s l 16) (Nat.le_trans ?_ (le_maxSegs s l 16 0 (by omega)))
 have e : l.length = (l.map fun i => (((0 : Nat) : Int) + s * i) / 16).length := by rw [List.length_map]
 rw [e]
 refine nodup_len ?_ fun y hy => ?_
 ·unfold List.Nodup
  rw [List.pairwise_map];refine hl.imp fun {a b} hab he => ?_
  have hd : (((0 : Nat) : Int) + s * b) - (((0 : Nat) : Int) + s * a) = s * (b - a) := by rw [Int.mul_sub]; omega
  rcases h with h | h
  ·have : 16 * 1 <= s * (b - a) := Int.mul_le_mul h (by omega) (by omega) (by omega)
   omega
  ·have : 16 * 1 <= (-s) * (b - a) := Int.mul_le_mul (by omega) (by omega) (by omega) (by omega)
   rw [Int.neg_mul] at this;omega
 ·obtain ⟨i, hi, rfl⟩ := List.mem_map.1 hy
  exact (mem_segs _ _).2 ⟨_, List.mem_map.2 ⟨i, hi, rfl⟩, rfl⟩
theorem segs_all {l : List Int} {a b : Int} (hab : a <= b) (h : ∀ x, x ∈ l ↔ a <= x /\ x <= b) : ((segs l).length : Int) = b / 16 - a / 16 + 1 := by
 have e : (List.range (b / 16 - a / 16 + 1).toNat).map (fun i : Nat => a / 16 + (i : Int)) = segs l := by
  refine segs_eq ?_ fun y => ?_
  ·unfold Strict
   rw [List.pairwise_map];exact List.pairwise_lt_range.imp fun h => by omega
  ·simp only [List.mem_map, List.mem_range]
   constructor
   ·rintro ⟨i, hi, rfl⟩
    by_cases hz : i = 0
    ·exact ⟨a, (h a).2 (by omega), by omega⟩
    ·exact ⟨16 * (a / 16 + i), (h _).2 (by omega), by omega⟩
   ·rintro ⟨x, hx, rfl⟩
    have := (h x).1 hx
    exact ⟨(x / 16 - a / 16).toNat, by omega, by omega⟩
 rw [<- e, List.length_map, List.length_range]
 omega
theorem mem_all (n : Nat) (hn : n <= 64) (x : Int) : x ∈ Sp.lanes (n : Int) 18446744073709551615 ↔ 0 <= x /\ x < n := by
 rw [mem_lanes]
 constructor
 ·rintro ⟨i, h1, h2, h3, rfl⟩
  omega
 ·rintro ⟨h1, h2⟩
  refine ⟨x.toNat, by omega, by omega, ?_, by omega⟩
  rw [show (18446744073709551615 : Int).toNat = 2 ^ 64 - 1 from rfl, Nat.testBit_two_pow_sub_one]
  simp
  omega
theorem all_len (n : Nat) (hn : n <= 64) (h : 0 < n) : (Sp.lanes (n : Int) 18446744073709551615).length ≠ 0 := by
 have := List.length_pos_of_mem ((mem_all n hn 0).2 (by omega))
 omega
theorem max_one (n : Nat) (hn : n <= 64) (h : 0 < n) : (Sp.maxSegs 1 (Sp.lanes (n : Int) 18446744073709551615) 16 : Int) = ((n : Int) + 30) / 16 := by
 have key : ∀ c : Int, ((Sp.segsAt 1 c (Sp.lanes (n : Int) 18446744073709551615)).length : Int) = (c + n - 1) / 16 - c / 16 + 1 := fun c =>
  segs_all (by omega) fun x => by
   rw [List.mem_map];constructor
   ·rintro ⟨i, hi, rfl⟩
    have := (mem_all n hn i).1 hi
    omega
   ·rintro ⟨h1, h2⟩
    exact ⟨x - c, (mem_all n hn _).2 (by omega), by omega⟩
 have h1 : Sp.maxSegs 1 (Sp.lanes (n : Int) 18446744073709551615) 16 <= (n + 30) / 16 := maxSegs_le_of 16 fun c hc => by have := key c; omega
 have h2 := le_maxSegs 1 (Sp.lanes (n : Int) 18446744073709551615) 16 15 (by omega)
 have h3 := key ((15 : Nat) : Int)
 omega
theorem max_minus (n : Nat) (hn : n <= 64) (h : 0 < n) : (Sp.maxSegs (-1) (Sp.lanes (n : Int) 18446744073709551615) 16 : Int) = ((n : Int) + 30) / 16 := by
 have key : ∀ c : Int, ((Sp.segsAt (-1) c (Sp.lanes (n : Int) 18446744073709551615)).length : Int) = c / 16 - (c - n + 1) / 16 + 1 := fun c =>
  segs_all (by omega) fun x => by
   rw [List.mem_map];constructor
   ·rintro ⟨i, hi, rfl⟩
    have := (mem_all n hn i).1 hi
    omega
   ·rintro ⟨h1, h2⟩
    exact ⟨c - x, (mem_all n hn _).2 (by omega), by omega⟩
 have h1 : Sp.maxSegs (-1) (Sp.lanes (n : Int) 18446744073709551615) 16 <= (n + 30) / 16 := maxSegs_le_of 16 fun c hc => by have := key c; omega
 have h2 := le_maxSegs (-1) (Sp.lanes (n : Int) 18446744073709551615) 16 0 (by omega)
 have h3 := key ((0 : Nat) : Int)
 omega
end Go.User
namespace Go.Proofs
open Go.Shelf
def Tryd.keysA_ren : Go.Shelf.Ren := ⟨fun | 7 => 29 | 10 => 35 | n => n, fun | 23 => 67 | 26 => 3 | 3 => 68 | 28 => 71 | 0 => 0 | 27 => 70 | 33 => 79 | 4 => 4 | n => n, fun | n => n⟩
theorem Tryd.keysA : Go.Proofs.SlLaysZI.n7 Tryd.prog Tryd.keysA_ren := {
 mixed := by kernel_rfl
 f7 := ⟨Tryd.f29.name, by decide, Tryd.func29.trans (congrArg some (by kernel_rfl))⟩
 f10 := ⟨Tryd.f35.name, by decide, Tryd.func35.trans (congrArg some (by kernel_rfl))⟩
 t0 := Tryd.underlying0
 a0 := Tryd.isAgg0
 z0 := Tryd.sizeOf0
 v0 := Tryd.zeroValue0
 t4 := Tryd.underlying4
 a4 := Tryd.isAgg4
 z4 := Tryd.sizeOf4
 v4 := Tryd.zeroValue4
 t23 := Tryd.underlying67
 a23 := Tryd.isAgg67
 z23 := Tryd.sizeOf67
 v23 := Tryd.zeroValue67
 t26 := Tryd.underlying3
 a26 := Tryd.isAgg3
 z26 := Tryd.sizeOf3
 v26 := Tryd.zeroValue3
 t27 := Tryd.underlying70
 a27 := Tryd.isAgg70
 z27 := Tryd.sizeOf70
 v27 := Tryd.zeroValue70
 t28 := Tryd.underlying71
 a28 := Tryd.isAgg71
 z28 := Tryd.sizeOf71
 v28 := Tryd.zeroValue71
 t33 := Tryd.underlying79
 a33 := Tryd.isAgg79
 z33 := Tryd.sizeOf79
 v33 := Tryd.zeroValue79 }
def Tryd.sortedA_ren : Go.Shelf.Ren := ⟨fun | 6 => 28 | 8 => 33 | 9 => 34 | 11 => 36 | 13 => 38 | 12 => 37 | 23 => 48 | 24 => 32 | 14 => 39 | 15 => 40 | 16 => 41 | 17 => 42 | 18 => 43 | 19 => 44 | 20 => 45 | 21 => 46 | 22 => 47 | 25 => 49 | 26 => 50 | 27 => 51 | 28 => 52 | 29 => 53 | 30 => 54 | 31 => 55 | n => n, fun | 26 => 3 | 28 => 71 | 24 => 22 | 0 => 0 | 3 => 3 | 37 => 60 | 48 => 93 | 50 => 38 | 4 => 4 | 40 => 85 | 39 => 84 | 45 => 90 | 5 => 5 | 9 => 9 | 51 => 94 | 55 => 98 | 57 => 100 | 58 => 101 | 33 => 79 | n => n, fun | n => n⟩
theorem Tryd.sortedA : Go.Proofs.SlLaysZI.n6 Tryd.prog Tryd.sortedA_ren := {
 mixed := by kernel_rfl
 f6 := ⟨Tryd.f28.name, by decide, Tryd.func28.trans (congrArg some (by kernel_rfl))⟩
 f8 := ⟨Tryd.f33.name, by decide, Tryd.func33.trans (congrArg some (by kernel_rfl))⟩
 f11 := ⟨Tryd.f36.name, by decide, Tryd.func36.trans (congrArg some (by kernel_rfl))⟩
 t0 := Tryd.underlying0
 a0 := Tryd.isAgg0
 z0 := Tryd.sizeOf0
 v0 := Tryd.zeroValue0
 t24 := Tryd.underlying22
 a24 := Tryd.isAgg22
 z24 := Tryd.sizeOf22
 v24 := Tryd.zeroValue22
 t26 := Tryd.underlying3
 a26 := Tryd.isAgg3
 z26 := Tryd.sizeOf3
 v26 := Tryd.zeroValue3
 t28 := Tryd.underlying71
 a28 := Tryd.isAgg71
 z28 := Tryd.sizeOf71
 v28 := Tryd.zeroValue71
 i26 := by kernel_rfl }
def Tryd.sortA_ren : Go.Shelf.Ren := ⟨fun | 5 => 34 | 8 => 38 | 7 => 37 | 19 => 48 | 20 => 32 | 10 => 39 | 11 => 40 | 12 => 41 | 13 => 42 | 14 => 43 | 15 => 44 | 16 => 45 | 17 => 46 | 18 => 47 | 30 => 49 | 31 => 50 | 32 => 51 | 33 => 52 | 34 => 53 | 35 => 54 | 40 => 55 | n => n, fun | 23 => 22 | 25 => 3 | 3 => 3 | 32 => 60 | 22 => 22 | 0 => 0 | 44 => 93 | 46 => 38 | 4 => 4 | 36 => 85 | 35 => 84 | 41 => 90 | 5 => 5 | 9 => 9 | 53 => 94 | 57 => 98 | 63 => 100 | 64 => 101 | n => n, fun | n => n⟩
theorem Tryd.sortA : Go.Proofs.SlLaysM.n5 Tryd.prog Tryd.sortA_ren := {
 mixed := by kernel_rfl
 f5 := ⟨Tryd.f34.name, by decide, Tryd.func34.trans (congrArg some (by kernel_rfl))⟩
 f7 := ⟨Tryd.f37.name, by decide, Tryd.func37.trans (congrArg some (by kernel_rfl))⟩
 f8 := Tryd.func38.trans (congrArg some (by kernel_rfl))
 f10 := ⟨Tryd.f39.name, by decide, Tryd.func39.trans (congrArg some (by kernel_rfl))⟩
 f11 := ⟨Tryd.f40.name, by decide, Tryd.func40.trans (congrArg some (by kernel_rfl))⟩
 f12 := ⟨Tryd.f41.name, by decide, Tryd.func41.trans (congrArg some (by kernel_rfl))⟩
 f13 := ⟨Tryd.f42.name, by decide, Tryd.func42.trans (congrArg some (by kernel_rfl))⟩
 f14 := ⟨Tryd.f43.name, by decide, Tryd.func43.trans (congrArg some (by kernel_rfl))⟩
 f15 := ⟨Tryd.f44.name, by decide, Tryd.func44.trans (congrArg some (by kernel_rfl))⟩
 f16 := ⟨Tryd.f45.name, by decide, Tryd.func45.trans (congrArg some (by kernel_rfl))⟩
 f17 := ⟨Tryd.f46.name, by decide, Tryd.func46.trans (congrArg some (by kernel_rfl))⟩
 f18 := ⟨Tryd.f47.name, by decide, Tryd.func47.trans (congrArg some (by kernel_rfl))⟩
 f19 := Tryd.func48.trans (congrArg some (by kernel_rfl))
 f20 := Tryd.func32.trans (congrArg some (by kernel_rfl))
 f30 := ⟨Tryd.f49.name, by decide, Tryd.func49.trans (congrArg some (by kernel_rfl))⟩
 f31 := Tryd.func50.trans (congrArg some (by kernel_rfl))
 f32 := Tryd.func51.trans (congrArg some (by kernel_rfl))
 f33 := ⟨Tryd.f52.name, by decide, Tryd.func52.trans (congrArg some (by kernel_rfl))⟩
 f34 := ⟨Tryd.f53.name, by decide, Tryd.func53.trans (congrArg some (by kernel_rfl))⟩
 f35 := ⟨Tryd.f54.name, by decide, Tryd.func54.trans (congrArg some (by kernel_rfl))⟩
 f40 := ⟨Tryd.f55.name, by decide, Tryd.func55.trans (congrArg some (by kernel_rfl))⟩
 t0 := Tryd.underlying0
 a0 := Tryd.isAgg0
 z0 := Tryd.sizeOf0
 v0 := Tryd.zeroValue0
 t3 := Tryd.underlying3
 a3 := Tryd.isAgg3
 z3 := Tryd.sizeOf3
 v3 := Tryd.zeroValue3
 t4 := Tryd.underlying4
 a4 := Tryd.isAgg4
 z4 := Tryd.sizeOf4
 v4 := Tryd.zeroValue4
 t5 := Tryd.underlying5
 a5 := Tryd.isAgg5
 z5 := Tryd.sizeOf5
 v5 := Tryd.zeroValue5
 t9 := Tryd.underlying9
 a9 := Tryd.isAgg9
 z9 := Tryd.sizeOf9
 v9 := Tryd.zeroValue9
 t22 := Tryd.underlying22
 a22 := Tryd.isAgg22
 z22 := Tryd.sizeOf22
 v22 := Tryd.zeroValue22
 t23 := Tryd.underlying22
 a23 := Tryd.isAgg22
 z23 := Tryd.sizeOf22
 v23 := Tryd.zeroValue22
 t25 := Tryd.underlying3
 a25 := Tryd.isAgg3
 z25 := Tryd.sizeOf3
 v25 := Tryd.zeroValue3
 t32 := Tryd.underlying60
 a32 := Tryd.isAgg60
 z32 := Tryd.sizeOf60
 v32 := Tryd.zeroValue60
 t35 := Tryd.underlying84
 a35 := Tryd.isAgg84
 z35 := Tryd.sizeOf84
 v35 := Tryd.zeroValue84
 t36 := Tryd.underlying85
 a36 := Tryd.isAgg85
 z36 := Tryd.sizeOf85
 v36 := Tryd.zeroValue85
 t41 := Tryd.underlying90
 a41 := Tryd.isAgg90
 z41 := Tryd.sizeOf90
 v41 := Tryd.zeroValue90
 t44 := Tryd.underlying93
 a44 := Tryd.isAgg93
 z44 := Tryd.sizeOf93
 v44 := Tryd.zeroValue93
 t46 := Tryd.underlying38
 a46 := Tryd.isAgg38
 z46 := Tryd.sizeOf38
 v46 := Tryd.zeroValue38
 t53 := Tryd.underlying94
 a53 := Tryd.isAgg94
 z53 := Tryd.sizeOf94
 v53 := Tryd.zeroValue94
 t57 := Tryd.underlying98
 a57 := Tryd.isAgg98
 z57 := Tryd.sizeOf98
 v57 := Tryd.zeroValue98
 t63 := Tryd.underlying100
 a63 := Tryd.isAgg100
 z63 := Tryd.sizeOf100
 v63 := Tryd.zeroValue100
 t64 := Tryd.underlying101
 a64 := Tryd.isAgg101
 z64 := Tryd.sizeOf101
 v64 := Tryd.zeroValue101 }
end Go.Proofs
namespace Go.Proofs
open Go.RowKit Go.Maps Go.Sort Go.Shelf


theorem Tryd.sortsA (m : Nat) : AnyZI.SortsIn Tryd.prog Tryd.sortedA_ren Fence.wide m :=
 ⟨fun blk off cap ss W hH hblk hsz => callsIn_wide.2 (AnyM.slices_Sort_int Tryd.sortA blk off cap ss W hH hblk hsz),
  fun p cap W => callsIn_wide.2 (AnyM.slices_Sort_int_none Tryd.sortA p cap W)⟩

def Tryd.kA (zs : List Int) (k : Nat) : List Lit := (zs.take k).map fun z => .int .i64 (z / 16)
def Tryd.D (zs : List Int) (k : Nat) : DataW Unit := setOf (.agg []) (Tryd.kA zs k)
theorem Tryd.D_succ (zs : List Int) (k : Nat) (hk : k < zs.length) : Tryd.D zs (k + 1) = (Tryd.D zs k).put (.int .i64 (zs[k] / 16)) (.agg []) := by
 unfold Tryd.D Tryd.kA
 rw [List.take_add_one, List.map_append]
 simp only [List.getElem?_eq_getElem hk, Option.toList_some, List.map_cons, List.map_nil]
 rw [setOf_snoc]
theorem Tryd.D_zero (zs : List Int) : Tryd.D zs 0 = .map [] := by simp [Tryd.D, Tryd.kA, setOf]

set_option maxHeartbeats 2000000 in
set_option maxRecDepth 100000 in
theorem Tryd.segs_any (b off cap : Nat) (zs : List Int) (w : World) (hn : zs.length <= 17592186044416) (hb : b < w.heap.size)
  (hc : ∀ (j : Nat) (h : j < zs.length), w.cell? ⟨b, off + j, none⟩ = some (.int .i64 zs[j])) (hz : ∀ z ∈ zs, -9223372036854775808 <= z /\ z <= 9223372036854775807) :
  Calls Tryd.prog 14 #[.slice (some ⟨b, off, none⟩) zs.length cap] w fun e w' => ∃ (v : Value) (ss : List Int), e = .returned v /\ ss.Perm (intKeys (Tryd.D zs zs.length)) /\
   w'.ownsRow w.heap.size 3 1 v ss.length ((ss.mergeSort (fun x y => decide (x <= y))).map encZ) /\ (v = .slice none 0 0 ↔ ss = []) /\ Below w.heap.size w w' := by
 refine (callsIn_wide (n := 6)).1 ?_
 have hmm := @run_makeMap Tryd.prog
 refine callsIn_of_wp Tryd.func14 rfl trivial ?_ rfl
 simp only [Tryd.ntmps14, List.size_toArray, List.length_cons, List.length_nil, Nat.reduceAdd, Nat.reduceSub, Array.replicate_succ, Array.replicate_zero, List.push_toArray, List.append_toArray, List.nil_append, List.cons_append]
 gi_wp2
 gi_loopw [9] (fun i wr => ∃ k : Nat, k <= zs.length /\ i = .int .i64 k /\ wr.ownsMap Tryd.prog 3 (unitElem (H := Unit)) w.heap.size k (Tryd.D zs k) /\ Below w.heap.size w wr)
  (fun i _ => zs.length - (intOf i).toNat)
 case atStart => exact ⟨0, Nat.zero_le _, rfl, by rw [Tryd.D_zero]; exact World.ownsMap_made _ _ _ _, (Below.refl _ _).alloc (Nat.le_refl _) _⟩
 case round =>
  obtain ⟨k, hk, rfl, hown, hnx⟩ := hrel;by_cases hkn : k < zs.length
  ·have hcx : wr.cell? ⟨b, off + k, none⟩ = some (.int .i64 zs[k]) := (hnx.cell (by exact hb)).trans (hc k hkn)
   have hzb := hz zs[k] (List.getElem_mem _)
   have hwf : (Lit.int .i64 (zs[k] / 16)).wf = true := WalkArith.wf_i64 (by omega)
   gi_wp2_with (first
    | (gi_at_mapUpdate; refine wpListIn_mapUpdate_own _ rfl _ _ _ 67 rfl 3 68 (Maps.int_keyed Tryd.underlying3) Tryd.underlying67 _ w.heap.size k _ rfl hown (by unfold maxLen; omega) _ _ _ rfl rfl (Maps.keyOf_int_mk Tryd.underlying3 hwf) _ [] (unitElem_mk (H := Unit)) ?_; intro w1 hown1 hgrow1)
    | gi_in)
   go_roundw
   case rel => exact ⟨k + 1, by omega, by go_num, (Tryd.D_succ zs k hkn).symm ▸ hown1, hnx.grown hgrow1 hnx.size (fun j hj => by cases hj; exact Nat.le_refl _)⟩
   case measure => simp [intOf]; omega
  ·obtain rfl : k = zs.length := by omega
   have hbl := hown.lt
   have hD : Maps.size (Tryd.D zs zs.length) <= zs.length := hown.size_le
   have hseq : SeqGives Fence.wide 2 Tryd.prog 35 #[.pointer (some ⟨wr.heap.size, 0, none⟩)] encZ (fun ss => ss.Perm (intKeys (Tryd.D zs zs.length))) (Maps.size (Tryd.D zs zs.length)) (wr.alloc (.cells #[.map (some w.heap.size)] 67)) :=
    AnyZI.keys_gives (ρ := Tryd.keysA_ren) { Tryd.keysA with } Fence.wide _ trivial rfl (by omega) wr.heap.size w.heap.size zs.length (Tryd.D zs zs.length) _ (by simp) (by simp) (by
     obtain ⟨es, clock, hb, Ft, hs, hD⟩ := hown;exact ⟨es, clock, (Below.heap_alloc _ _ w.heap.size hbl).trans hb, Ft, hs, hD⟩)
   have cK : ∀ mb W, CallsIn Fence.wide 5 Tryd.prog 29 #[.map mb] W fun e w' => e = .returned (.func (.func 35) #[] #[.pointer (some ⟨W.heap.size, 0, none⟩)]) /\ w' = W.alloc (.cells #[.map mb] 67) := fun mb W => AnyZI.keys_in Tryd.keysA Fence.wide 5 trivial rfl mb W
   have cS := AnyZI.sorted_in Tryd.sortedA Fence.wide 5 trivial trivial trivial trivial rfl (by omega) (Tryd.sortsA _) (enters_of Tryd.func34 (by kernel_rfl) rfl) 35 #[.pointer (some ⟨wr.heap.size, 0, none⟩)] trivial (enters_of Tryd.func35 (by kernel_rfl) rfl) _ _ (by unfold maxLen; omega) (by omega) _ hseq
   change CallsIn _ _ Tryd.prog 28 _ _ _ at cS
   have hfK : Fence.wide.fn 29 := trivial
   have hfS : Fence.wide.fn 28 := trivial
   gi_wp2_with (first
    | (gi_at_call 29; refine (cK _ _).mono ?_; rintro e w' ⟨rfl, rfl⟩)
    | (gi_at_call 28; refine cS.mono ?_; rintro e w' ⟨v, ss, rfl, hS, hrow, hnil, hbb⟩))
   go_ret
   exact ⟨v, ss, rfl, hS, ownsRow_base_a hrow (by have := hnx.size; simp; omega), hnil, (hnx.alloc hnx.size _).trans (hbb.mono (by have := hnx.size; simp; omega))⟩

set_option maxHeartbeats 2000000 in
set_option maxRecDepth 100000 in
theorem Tryd.segs_none (ao : Option Addr) (cap : Nat) (w : World) :
  Calls Tryd.prog 14 #[.slice ao 0 cap] w fun e w' => ∃ (v : Value) (ss : List Int), e = .returned v /\ ss.Perm (intKeys (Tryd.D [] 0)) /\
   w'.ownsRow w.heap.size 3 1 v ss.length ((ss.mergeSort (fun x y => decide (x <= y))).map encZ) /\ (v = .slice none 0 0 ↔ ss = []) /\ Below w.heap.size w w' := by
 refine (callsIn_wide (n := 6)).1 ?_
 have hmm := @run_makeMap Tryd.prog
 refine callsIn_of_wp Tryd.func14 rfl trivial ?_ rfl
 simp only [Tryd.ntmps14, List.size_toArray, List.length_cons, List.length_nil, Nat.reduceAdd, Nat.reduceSub, Array.replicate_succ, Array.replicate_zero, List.push_toArray, List.append_toArray, List.nil_append, List.cons_append]
 gi_wp2
 gi_loopw [9] (fun i wr => i = .int .i64 0 /\ wr.ownsMap Tryd.prog 3 (unitElem (H := Unit)) w.heap.size 0 (Tryd.D [] 0) /\ Below w.heap.size w wr) (fun _ _ => 0)
 case atStart => exact ⟨rfl, by rw [Tryd.D_zero]; exact World.ownsMap_made _ _ _ _, (Below.refl _ _).alloc (Nat.le_refl _) _⟩
 case round =>
  obtain ⟨rfl, hown, hnx⟩ := hrel;have hbl := hown.lt;have hD : Maps.size (Tryd.D [] 0) <= 0 := hown.size_le;have hseq : SeqGives Fence.wide 2 Tryd.prog 35 #[.pointer (some ⟨wr.heap.size, 0, none⟩)] encZ (fun ss => ss.Perm (intKeys (Tryd.D [] 0))) (Maps.size (Tryd.D [] 0)) (wr.alloc (.cells #[.map (some w.heap.size)] 67)) :=
   AnyZI.keys_gives (ρ := Tryd.keysA_ren) { Tryd.keysA with } Fence.wide _ trivial rfl (by omega) wr.heap.size w.heap.size 0 (Tryd.D [] 0) _ (by simp) (by simp) (by
    obtain ⟨es, clock, hb, Ft, hs, hD⟩ := hown;exact ⟨es, clock, (Below.heap_alloc _ _ w.heap.size hbl).trans hb, Ft, hs, hD⟩)
  have cK : ∀ mb W, CallsIn Fence.wide 5 Tryd.prog 29 #[.map mb] W fun e w' => e = .returned (.func (.func 35) #[] #[.pointer (some ⟨W.heap.size, 0, none⟩)]) /\ w' = W.alloc (.cells #[.map mb] 67) := fun mb W => AnyZI.keys_in Tryd.keysA Fence.wide 5 trivial rfl mb W
  have cS := AnyZI.sorted_in Tryd.sortedA Fence.wide 5 trivial trivial trivial trivial rfl (by omega) (Tryd.sortsA _) (enters_of Tryd.func34 (by kernel_rfl) rfl) 35 #[.pointer (some ⟨wr.heap.size, 0, none⟩)] trivial (enters_of Tryd.func35 (by kernel_rfl) rfl) _ _ (by unfold maxLen; omega) (by omega) _ hseq
  change CallsIn _ _ Tryd.prog 28 _ _ _ at cS
  have hfK : Fence.wide.fn 29 := trivial
  have hfS : Fence.wide.fn 28 := trivial
  gi_wp2_with (first
   | (gi_at_call 29; refine (cK _ _).mono ?_; rintro e w' ⟨rfl, rfl⟩)
   | (gi_at_call 28; refine cS.mono ?_; rintro e w' ⟨v, ss, rfl, hS, hrow, hnil, hbb⟩))
  go_ret
  exact ⟨v, ss, rfl, hS, ownsRow_base_a hrow (by have := hnx.size; simp; omega), hnil, (hnx.alloc hnx.size _).trans (hbb.mono (by have := hnx.size; simp; omega))⟩
end Go.Proofs
namespace Go.Proofs
open Go.RowKit Go.Maps Go.Sort Go.Shelf

theorem Tryd.keys_fold {H : Type} (u : DataW H) (Q : Lit -> Prop) : ∀ (xs : List Lit) (es : List (Lit × DataW H)), (∀ p ∈ es, Q p.1) -> (∀ x ∈ xs, Q x) ->
  ∃ es', xs.foldl (fun (m : DataW H) x => m.put x u) (DataW.map es) = DataW.map es' /\ ∀ p ∈ es', Q p.1
 | [], es, h, _ => ⟨es, rfl, h⟩
 | x :: xs, es, h, hx => by
  have e : ((.map es : DataW H).put x u) = .map (DataW.insert (x, u) (es.filter fun p => !p.1.sameKey x)) := rfl
  rw [List.foldl_cons, e];refine Tryd.keys_fold u Q xs _ (fun p hp => ?_) (fun y hy => hx y (by simp [hy]))
  rcases ChangeMaps.mem_insert_iff.1 hp with rfl | hp
  ·exact hx x (by simp)
  ·exact h p (List.mem_filter.1 hp).1

theorem Tryd.sort_segs {zs ss : List Int} (h : ss.Perm (intKeys (Tryd.D zs zs.length))) : ss.mergeSort (fun x y => decide (x <= y)) = Go.User.segs zs := by
 have hkey : ∀ x ∈ Tryd.kA zs zs.length, WideAt.IsKeyLit x := by
  intro x hx;obtain ⟨z, _, rfl⟩ := List.mem_map.1 hx
  trivial
 have hhas : ∀ x, has (Tryd.D zs zs.length) (.int .i64 x) = true ↔ x ∈ Go.User.segs zs := by
  intro x;rw [Go.User.mem_segs];unfold Tryd.D;rw [has_setOf _ _ _ hkey, List.any_eq_true];unfold Tryd.kA;rw [List.take_length];constructor
  ·rintro ⟨l, hl, he⟩
   obtain ⟨z, hz, rfl⟩ := List.mem_map.1 hl;have := WideAt.sameKey_eq he;injection this with _ this;exact ⟨z, hz, this.symm⟩
  ·rintro ⟨z, hz, rfl⟩
   exact ⟨_, List.mem_map.2 ⟨z, hz, rfl⟩, WideAt.sameKey_self trivial⟩
 obtain ⟨es, he, hne⟩ := tidy_setOf (H := Unit) (.agg []) (Tryd.kA zs zs.length) hkey
 have hD : Tryd.D zs zs.length = .map es := he
 have hks : ∀ p ∈ es, ∃ x, p.1 = .int .i64 x := by
  obtain ⟨es', he', hq⟩ := Tryd.keys_fold (.agg [] : DataW Unit) (fun l => ∃ x, l = .int .i64 x) (Tryd.kA zs zs.length) [] (by simp) (fun x hx => by
   obtain ⟨z, _, rfl⟩ := List.mem_map.1 hx;exact ⟨_, rfl⟩)
  have : DataW.map es = DataW.map es' := he.symm.trans he'
  injection this with this;rw [this];exact hq
 have hp : (Go.User.segs zs).Perm (intKeys (Tryd.D zs zs.length)) := by
  rw [hD];refine perm_intKeys hne hks (Go.User.strict_nodup (Go.User.segs_strict zs)) fun x => ?_
  rw [<- hD];exact (hhas x).symm
 have hperm : (ss.mergeSort (fun x y => decide (x <= y))).Perm (Go.User.segs zs) := (List.mergeSort_perm _ _).trans (h.trans hp.symm)
 have hsort := List.pairwise_mergeSort (le := fun x y : Int => decide (x <= y)) (by intro a b c; simp; omega) (by intro a b; simp; omega) ss
 refine Go.User.strict_ext ?_ (Go.User.segs_strict zs) fun x => hperm.mem_iff
 have hnd := hperm.nodup_iff.2 (Go.User.strict_nodup (Go.User.segs_strict zs))
 unfold Go.User.Strict
 exact (hsort.and hnd).imp fun {a b} hab => by
  have h1 := hab.1
  have h2 := hab.2
  simp at h1
  omega
end Go.Proofs
namespace Go.User
open Go.Lf Go.Proofs Go.RowKit

theorem row_post {w w' : World} {F : NSet} (hF : ∀ b, F b -> b < w.heap.size) {v : Value} {ns : List Int} (hn : ∀ z ∈ ns, -9223372036854775808 <= z /\ z <= 9223372036854775807) (hl : ns.length <= lim)
  (h : w'.ownsRow w.heap.size 3 1 v ns.length (ns.map (Value.int .i64))) (hb : Below w.heap.size w w') : Post F w false (.slice tI) (.own .shr) ns (.returned v) w' := by
 obtain ⟨h1, ⟨rfl, h2⟩ | ⟨g, cap, cur, rfl, hg, hcell, hc1, hc2, hc3, hc4⟩⟩ := h
 ·have : ns = [] := List.eq_nil_of_length_eq_zero h2
  subst this;exact ⟨_, F, none', rfl, hb, fun _ h => h, fun b h h' => absurd h h', fun b h => h.elim (fun h => Nat.lt_of_lt_of_le (hF b h) hb.size) (fun h => h.elim), fun b h => h.elim, OwnV.nil _ _ _ _ _⟩
 ·have hglt : g < w'.heap.size := (Array.getElem?_eq_some_iff.1 hcell).1
  refine ⟨_, F, fun b => b = g, rfl, hb, fun _ h => h, fun b h h' => absurd h h', ?_, ?_, ?_⟩
  ·rintro b (h | rfl)
   ·exact Nat.lt_of_lt_of_le (hF b h) hb.size
   ·exact hglt
  ·rintro b rfl
   exact ⟨hg, fun h => by have := hF _ h; omega⟩
  ·refine ⟨_, rfl, some ⟨g, 0, none⟩, cap, rfl, hc1, hl, .inr ⟨g, 0, cur, 3, fun _ => none', rfl, rfl, hcell, ?_, fun _ _ h => h.elim, fun _ h => h.elim, fun _ _ _ _ h => h.elim, fun i x h => ?_⟩⟩
   ·show 0 + cap * 1 <= cur.size; omega
   ·have hi : i < ns.length := (List.getElem?_eq_some_iff.1 h).1
    have hx := hn x (List.mem_of_getElem? h)
    have e : seg cur.toList (0 + i * 1) 1 = [.int .i64 x] := by
     have e1 : (cur.toList.take (ns.length * 1))[i]? = some (.int .i64 x) := by rw [hc4, List.getElem?_map, h]; rfl
     rw [List.getElem?_take_of_lt (by omega)] at e1;unfold seg;rw [Nat.zero_add, Nat.mul_one];obtain ⟨q1, q2⟩ := List.getElem?_eq_some_iff.1 e1;rw [List.drop_eq_getElem_cons q1, q2]
     rfl
    exact ⟨e, hx.1, hx.2⟩

theorem ok14 : FOk Tryd.prog 14 S14 := by
 refine ⟨Tryd.call14, fun w F vs xs _ hF ha hp => ?_⟩
 obtain ⟨v, r, rfl, ⟨cs, rfl, ao, cap, rfl, hc1, hc2, hm⟩, rfl⟩ := ha
 obtain ⟨(zs : List Int), ⟨⟩⟩ := xs
 have hp : zs.length <= 1000000 := hp
 have fin : ∀ (W : World) (v : Value) (ss : List Int), (∀ z ∈ zs, -9223372036854775808 <= z /\ z <= 9223372036854775807) -> ss.Perm (Go.intKeys (Tryd.D zs zs.length)) ->
   W.ownsRow w.heap.size 3 1 v ss.length ((ss.mergeSort (fun x y => decide (x <= y))).map encZ) -> Below w.heap.size w W -> Post F w false (.slice tI) (.own .shr) (segs zs) (.returned v) W := by
  intro W v ss hz hS hrow hb;have e := Tryd.sort_segs hS;have hl : ss.length = (segs zs).length := by rw [<- e, List.length_mergeSort]
  rw [e, hl] at hrow;refine row_post hF (fun z hz' => ?_) (by have := segs_len_le zs; rw [lim_eq]; omega) hrow hb
  obtain ⟨a, ha, rfl⟩ := (mem_segs _ _).1 hz';obtain ⟨q1, q2⟩ : (-9223372036854775808 : Int) <= a /\ a <= (9223372036854775807 : Int) := hz a ha;omega
 rcases hm with he | ⟨b, off, row, T, fr, rfl, hFb, hcell, hlen, hel⟩
 ·have he : zs = [] := he
  subst he;refine (Tryd.segs_none ao cap w).mono ?_;rintro e w' ⟨v, ss, rfl, hS, hrow, _, hb⟩;exact fin w' v ss (by simp) hS hrow hb
 ·have hz : ∀ z ∈ zs, -9223372036854775808 <= z /\ z <= 9223372036854775807 := by
   intro z hz;obtain ⟨i, hi⟩ := List.mem_iff_getElem?.1 hz;exact (hel i z hi).2
  refine (Tryd.segs_any b off cap zs w (by omega) (hF b hFb) (fun j hj => ?_) hz).mono ?_
  ·have h := (hel j zs[j] (List.getElem?_eq_getElem hj)).1
   have hsz : off + zs.length * 1 <= row.size := hlen
   have hj2 : off + j < row.size := by omega
   have h : seg row.toList (off + j * 1) 1 = [.int .i64 zs[j]] := h
   unfold seg at h;rw [Nat.mul_one, List.drop_eq_getElem_cons (by simpa using hj2)] at h;simp at h;simp [World.cell?, hcell, h, Array.getElem?_eq_getElem hj2]
  ·rintro e w' ⟨v, ss, rfl, hS, hrow, _, hb⟩
   exact fin w' v ss hz hS hrow hb
end Go.User
namespace Go.Proofs
open Go.RowKit Go.Maps Go.Sort Go.Shelf

theorem Tryd.len64 (x : Int) (w : World) (h0 : 0 <= x) (h1 : x <= 18446744073709551615) :
  Calls Tryd.prog 32 #[.int .u64 x] w fun e w' => e = .returned (.int .i64 (Lib.bitLen x.toNat)) /\ w' = w :=
 calls_of_every_depth fun D => AnySM.bits_Len64In { Tryd.sortA with } D x w h0 h1

set_option maxHeartbeats 1000000 in
theorem Tryd.lz64 (x : Nat) (w : World) (h1 : x < 18446744073709551616) :
  Calls Tryd.prog 25 #[.int .u64 x] w fun e w' => e = .returned (.int .i64 (64 - (Lib.bitLen x : Int))) /\ w' = w := by
 have hb : Lib.bitLen x <= 64 := Lib.bitLen_le x 64 (by omega) h1
 go_enter Tryd.func25, Tryd.ntmps25
 go_wp2_with (go_at_call 32; refine (Tryd.len64 _ _ (by omega) (by omega)).mono ?_; rintro e w' ⟨rfl, rfl⟩)
 go_ret
 refine ⟨?_, rfl⟩
 simp

set_option maxHeartbeats 1000000 in
theorem Tryd.tz64_core (x k idx : Nat) (w : World) (hx0 : ((x : Int) == 0) = false)
  (key : IntKind.u64.wrap (bits BinOp.and IntKind.u64 (x : Int) (IntKind.u64.wrap (-(x : Int))) * 285870213051353865) / 288230376151711744 = (idx : Int))
  (hi : idx < 64) (hk : k < 64) (hcell : w.cell? ⟨0, idx, none⟩ = some (.int .u8 k)) :
  Calls Tryd.prog 24 #[.int .u64 x] w fun e w' => e = .returned (.int .i64 k) /\ w' = w := by
 go_enter Tryd.func24, Tryd.ntmps24
 go_wp2_with (simp only [key])
 go_ret
 exact ⟨rfl, rfl⟩
theorem Tryd.tz64_zero (w : World) : Calls Tryd.prog 24 #[.int .u64 0] w fun e w' => e = .returned (.int .i64 64) /\ w' = w := by
 go_enter Tryd.func24, Tryd.ntmps24
 go_wp2
 go_ret
 exact ⟨rfl, rfl⟩
theorem Tryd.tz64 (x : Nat) (hx : x < 18446744073709551616) (w : World) (hT : TabAt 0 Lib.deBruijn64tab w) :
  Calls Tryd.prog 24 #[.int .u64 x] w fun e w' => e = .returned (.int .i64 (Lib.ctz 64 x)) /\ w' = w := by
 by_cases hx0 : x = 0
 ·subst hx0
  exact Tryd.tz64_zero w
 ·obtain ⟨hlow, hk⟩ := Lib.lowest_bit 64 x hx0 hx
  obtain ⟨hi, htab⟩ := Lib.deBruijn64_at _ hk;have hcell := hT _ hi;rw [htab] at hcell;exact Tryd.tz64_core x _ _ w (by simp; omega) (tz64_key x _ hx hx0 hlow) hi hk hcell
end Go.Proofs
namespace Go.User
open Go
def onesI (x : Nat) : List Int := (onesN 64 x).map Int.ofNat
theorem mem_onesI {x : Nat} {y : Int} : y ∈ onesI x ↔ ∃ i : Nat, i < 64 /\ x.testBit i = true /\ y = i := by
 unfold onesI onesN
 simp only [List.mem_map, List.mem_filter, List.mem_range]
 constructor
 ·rintro ⟨i, ⟨h1, h2⟩, rfl⟩
  exact ⟨i, h1, h2, rfl⟩
 ·rintro ⟨i, h1, h2, rfl⟩
  exact ⟨i, ⟨h1, h2⟩, rfl⟩
theorem onesI_strict (x : Nat) : Strict (onesI x) := by
 unfold onesI onesN Strict
 rw [List.pairwise_map]
 exact (List.Pairwise.filter _ List.pairwise_lt_range).imp fun h => Int.ofNat_lt.2 h
theorem onesI_len (x : Nat) : (onesI x).length = (onesN 64 x).length := by simp [onesI]
theorem bits_low (k m : Nat) : (∀ i, i < k -> (2 ^ k * (2 * m + 1)).testBit i = false) /\ (2 ^ k * (2 * m + 1)).testBit k = true /\
  ∀ i, (2 ^ k * (2 * m + 1) &&& (2 ^ k * (2 * m + 1) - 1)).testBit i = ((2 ^ k * (2 * m + 1)).testBit i && decide (i ≠ k)) := by
 have h1 : ∀ i, i < k -> (2 ^ k * (2 * m + 1)).testBit i = false := fun i hi => by
  rw [Nat.testBit_two_pow_mul]
  simp; omega
 have h2 : (2 ^ k * (2 * m + 1)).testBit k = true := by
  rw [Nat.testBit_two_pow_mul]
  simp
 refine ⟨h1, h2, fun i => ?_⟩
 have e : 2 ^ k * (2 * m + 1) - 1 = 2 ^ k * (2 * m) + (2 ^ k - 1) := by
  have := Nat.two_pow_pos k
  rw [Nat.mul_add];omega
 rw [Nat.testBit_and, e]
 have hlt : 2 ^ k - 1 < 2 ^ k := by have := Nat.two_pow_pos k; omega
 rw [Nat.testBit_two_pow_mul_add _ hlt]
 by_cases hi : i < k
 ·rw [h1 i hi]; simp
 ·rw [if_neg hi]
  by_cases hk : i = k
  ·subst hk
   simp
  ·rw [Nat.testBit_two_pow_mul]
   have h3 : k <= i := by omega
   have h4 : i - k ≠ 0 := by omega
   obtain ⟨j, hj⟩ : ∃ j, i - k = j + 1 := ⟨i - k - 1, by omega⟩
   rw [hj, Nat.testBit_succ, Nat.testBit_succ];have a1 : (2 * m + 1) / 2 = m := by omega
   have a2 : 2 * m / 2 = m := by omega
   rw [a1, a2];simp [h3, hk]
theorem onesI_cons (x : Nat) (hx : x < 2 ^ 64) (h0 : x ≠ 0) : onesI x = (Lib.ctz 64 x : Int) :: onesI (x &&& (x - 1)) /\ Lib.ctz 64 x < 64 /\ x &&& (x - 1) < x := by
 obtain ⟨m, hm, hk⟩ := Lib.ctzFrom_spec 64 x (by omega) hx
 have hc : Lib.ctz 64 x = Lib.ctzFrom 64 x := by unfold Lib.ctz; rw [if_neg h0]
 rw [hc]
 generalize Lib.ctzFrom 64 x = k at *
 obtain ⟨b1, b2, b3⟩ := bits_low k m
 rw [<- hm] at b1 b2 b3
 have hle : x &&& (x - 1) <= x - 1 := Nat.and_le_right
 refine ⟨?_, hk, by omega⟩
 refine strict_ext (onesI_strict x) ?_ fun y => ?_
 ·refine List.pairwise_cons.2 ⟨fun y hy => ?_, onesI_strict _⟩
  obtain ⟨i, h1, h2, rfl⟩ := mem_onesI.1 hy;rw [b3] at h2;simp at h2;by_cases hik : i < k
  ·rw [b1 i hik] at h2; simp at h2
  ·omega
 ·rw [List.mem_cons, mem_onesI, mem_onesI]
  constructor
  ·rintro ⟨i, h1, h2, rfl⟩
   by_cases hik : i = k
   ·left; omega
   ·right
    exact ⟨i, h1, by rw [b3, h2]; simp [hik], rfl⟩
  ·rintro (rfl | ⟨i, h1, h2, rfl⟩)
   ·exact ⟨k, hk, b2, rfl⟩
   ·rw [b3] at h2
    simp at h2
    exact ⟨i, h1, h2.1, rfl⟩
theorem onesI_zero : onesI 0 = [] := by
 unfold onesI onesN
 rw [List.map_eq_nil_iff, List.filter_eq_nil_iff]
 simp
theorem onesI_nil {x : Nat} (hx : x < 2 ^ 64) (h : onesI x = []) : x = 0 := by
 by_cases h0 : x = 0
 ·exact h0
 ·rw [(onesI_cons x hx h0).1] at h; cases h
theorem onesI_lanes (a L : Nat) (hL : L <= 64) : onesI (a % 2 ^ L) = Sp.lanes (L : Int) (a : Int) := by
 refine strict_ext (onesI_strict _) (lanes_strict _ _) fun y => ?_
 rw [mem_onesI, mem_lanes]
 constructor
 ·rintro ⟨i, h1, h2, rfl⟩
  rw [Nat.testBit_mod_two_pow] at h2;simp at h2;exact ⟨i, h1, by omega, by simpa using h2.2, rfl⟩
 ·rintro ⟨i, h1, h2, h3, rfl⟩
  refine ⟨i, h1, ?_, rfl⟩
  rw [Nat.testBit_mod_two_pow]
  simp
  exact ⟨by omega, by simpa using h3⟩
theorem bitLen_top (x : Nat) (hx : x < 2 ^ 64) (h0 : x ≠ 0) : 1 <= Lib.bitLen x /\ Lib.bitLen x <= 64 /\ x.testBit (Lib.bitLen x - 1) = true /\ ∀ i, Lib.bitLen x <= i -> x.testBit i = false := by
 have key : ∀ (f x : Nat), x < 2 ^ f -> x ≠ 0 -> 1 <= Lib.bitLenAux f x /\ Lib.bitLenAux f x <= f /\ x.testBit (Lib.bitLenAux f x - 1) = true /\ ∀ i, Lib.bitLenAux f x <= i -> x.testBit i = false := by
  intro f
  induction f with
  | zero => intro x hx h0; simp at hx; omega
  | succ f ih =>
   intro x hx h0;unfold Lib.bitLenAux;rw [if_neg h0];by_cases h1 : x / 2 = 0
   ·have : x = 1 := by omega
    subst this;have e : Lib.bitLenAux f (1 / 2) = 0 := by
     cases f with
     | zero => rfl
     | succ f => unfold Lib.bitLenAux; rw [if_pos (by decide)]
    rw [e];refine ⟨by omega, by omega, by decide, fun i hi => ?_⟩
    obtain ⟨j, rfl⟩ : ∃ j, i = j + 1 := ⟨i - 1, by omega⟩
    rw [Nat.testBit_succ]
    simp
   ·obtain ⟨q1, q2, q3, q4⟩ := ih (x / 2) (by rw [Nat.pow_succ] at hx; omega) h1
    refine ⟨by omega, by omega, ?_, fun i hi => ?_⟩
    ·obtain ⟨j, hj⟩ : ∃ j, Lib.bitLenAux f (x / 2) = j + 1 := ⟨Lib.bitLenAux f (x / 2) - 1, by omega⟩
     rw [hj] at q3 ⊢;rw [show 1 + (j + 1) - 1 = j + 1 by omega, Nat.testBit_succ]
     exact q3
    ·obtain ⟨j, rfl⟩ : ∃ j, i = j + 1 := ⟨i - 1, by omega⟩
     rw [Nat.testBit_succ];exact q4 j (by omega)
 exact key 64 x hx h0
theorem lastI_of {l : List Int} {m : Int} (hs : Strict l) (hm : m ∈ l) (h : ∀ y ∈ l, y <= m) : Sp.lastI l = m := by
 obtain ⟨i, hi, rfl⟩ := List.mem_iff_getElem.1 hm
 unfold Sp.lastI
 have hl : l.length - 1 < l.length := by omega
 rw [List.getD, List.getElem?_eq_getElem hl, Option.getD_some]
 have h1 := h _ (List.getElem_mem hl)
 by_cases he : i = l.length - 1
 ·subst he; rfl
 ·have := List.pairwise_iff_getElem.1 hs i (l.length - 1) hi hl (by omega)
  omega
theorem onesI_last (x : Nat) (hx : x < 2 ^ 64) (h0 : x ≠ 0) : Sp.lastI (onesI x) = (Lib.bitLen x : Int) - 1 := by
 obtain ⟨h1, h2, h3, h4⟩ := bitLen_top x hx h0
 refine lastI_of (onesI_strict x) (mem_onesI.2 ⟨Lib.bitLen x - 1, by omega, h3, by omega⟩) fun y hy => ?_
 obtain ⟨i, _, hi, rfl⟩ := mem_onesI.1 hy
 by_cases hb : Lib.bitLen x <= i
 ·rw [h4 i hb] at hi; cases hi
 ·omega
end Go.User
