/- Written by gen.py: what is left to show of each function. The machine of the caches stays well formed. Written by gen.py: what is left to show of each function. Caches: loads, stores, atomic operations, evictions, flushes: proved. The machine of the caches: its methods do what they should. A litmus test on caches: what can happen, and a run: what is computed. Written by gen.py: what is left to show of each function. -/
import Derived.Test.YtohcfjfnmgkadaaLfh
set_option linter.unusedVariables false
set_option linter.unusedSimpArgs false
namespace Go.User
open Go.Proofs Go.Lf
set_option maxRecDepth 100000
theorem vc62 : (∀ q : Nat, funP (C62 q) (stpR (C62 q)) S62 (L62 q) Try.f62) = (
let q0 : Int := (1 : Int);
let q1 : Prop := True ∧ True ∧ True;
let q2 : Int := (0 : Int);
let q3 : Prop := (([] : List Go.ResultVar)).toArray.toList = ([] : List Go.ResultVar) ∧ Ty.unit = Ty.unit;
let q4 : Int × Unit := (q2, ());
let q5 : Int × (Int × Int × Int × Unit) × Int × Unit := (q2, (q2, q2, q4), q4);
∀ (q : Nat) (x : (List (List (Int × Int × Int × Unit)) × Unit) × List (Int × Int × List (Int × Int × Int × Bool × Unit) × List (List Int) × Unit) × List (List Int) × (List (Int × (Int × Int × Int × Unit) × Int × Unit) × List Int × List (List Int) × List Int × Unit) × Unit),
  let q6 : List (Int × (Int × Int × Int × Unit) × Int × Unit) := x.2.2.2.1.1;
  let q7 : Nat := q6.length;
  let q8 : Int := (↑q7 : Int);
  let q9 : List Int × List (List Int) × List Int × Unit := x.2.2.2.1.2;
  let q10 : List Int := q9.1;
  let q11 : Nat := q10.length;
  let q12 : List (List Int) × List Int × Unit := q9.2;
  ∀ (y : Int × Int × Unit),
    let q13 : Int := y.2.1 - q0;
    let q14 : Bool := decide (q13 < q2);
    let q15 : List Int × List (List Int) × List Int × Unit := (q10.set y.1.toNat q13, q12);
    let q16 : (List (List (Int × Int × Int × Unit)) × Unit) × List (Int × Int × List (Int × Int × Int × Bool × Unit) × List (List Int) × Unit) × List (List Int) × (List (Int × (Int × Int × Int × Unit) × Int × Unit) × List Int × List (List Int) × List Int × Unit) × Unit := Sp.readM x y.1 y.2.1;
    let q17 : (Int × Int × Int × Unit) × Int × Unit := (q6.getD q13.toNat q5).2;
    let q18 : Int × Int × Int × Unit := q17.1;
    let q19 : Bool := q18.1 == (3 : Int);
    let q20 : Int × (Int × Int × Int × Unit) × Int × Unit := q6.getD y.1.toNat q5;
    let q21 : (Int × Int × Int × Unit) × Int × Unit := q20.2;
    let q22 : List (Int × (Int × Int × Int × Unit) × Int × Unit) := q6.set y.1.toNat (q20.1, q21.1, q18.2.2.1, q21.2.2);
    let q23 : Prop := inN y.1 q22.length;
    let q24 : Int × (Int × Int × Int × Unit) × Int × Unit := q22.getD y.1.toNat q5;
    let q25 : (Int × Int × Int × Unit) × Int × Unit := q24.2;
    let q26 : Int × Unit := q25.2;
    (0 : (AK.val tI).den) ≤ y.1 ∧ y.1 < q8 ∧ q11 = q7 ∧ (0 : (AK.val (Ty.int IntKind.i32)).den) ≤ y.2.1 ∧ y.2.1 ≤ q8 → dFact ((((Ty.int IntKind.i64).prod ((Ty.int IntKind.i64).prod ((Ty.int IntKind.i64).prod Ty.unit))).slice.slice.prod Ty.unit).prod (((Ty.int IntKind.i64).prod ((Ty.int IntKind.i64).prod (((Ty.int IntKind.i64).prod ((Ty.int IntKind.i64).prod ((Ty.int IntKind.i32).prod (Ty.bool.prod Ty.unit)))).slice.prod ((Ty.arr (3 : Nat) (Ty.int IntKind.i64).slice).prod Ty.unit)))).slice.prod ((Ty.int IntKind.i32).slice.slice.prod ((((Ty.int IntKind.i64).prod (((Ty.int IntKind.i64).prod ((Ty.int IntKind.i64).prod ((Ty.int IntKind.i64).prod Ty.unit))).prod ((Ty.int IntKind.i64).prod Ty.unit))).slice.prod ((Ty.int IntKind.i64).slice.prod ((Ty.int IntKind.i64).slice.slice.prod ((Ty.int IntKind.i64).slice.prod Ty.unit)))).prod Ty.unit)))) x → dFact (Ty.int IntKind.i64) y.1 ∧ dFact (Ty.int IntKind.i32) y.2.1 ∧ True → ((True ∧ True ∧ inK IntKind.i64 q13 ∧ True ∧ True) ∧ True) ∧ ((True ∧ True ∧ True ∧ True ∧ True ∧ True ∧ True ∧ inN y.1 q11 ∧ True) ∧ True ∧ True) ∧ (q1 ∧ True) ∧ (q14 = true → (x.1, x.2.1, x.2.2.1, (q6, q15), x.2.2.2.2) = q16 ∧ q3) ∧ (q14 = false → ((True ∧ True ∧ True ∧ True ∧ True ∧ True ∧ inN q13 q7 ∧ q1) ∧ True ∧ True) ∧ ((True ∧ True ∧ True ∧ True ∧ True ∧ True ∧ True ∧ True ∧ True ∧ inN y.1 q7 ∧ True ∧ True) ∧ True ∧ True) ∧ ((True ∧ True ∧ q1) ∧ True) ∧ (q19 = true → ((True ∧ True ∧ True ∧ True ∧ True ∧ True ∧ q23 ∧ True ∧ True ∧ True ∧ True ∧ True ∧ q23 ∧ True ∧ True) ∧ True ∧ True) ∧ (x.1, x.2.1, x.2.2.1, (q22.set y.1.toNat (q24.1, q25.1, IntKind.i64.wrap (q26.1 + q17.2.1), q26.2), q15), x.2.2.2.2) = q16 ∧ q3) ∧ (q19 = false → (x.1, x.2.1, x.2.2.1, (q22, q15), x.2.2.2.2) = q16 ∧ q3))) := by kernel_rfl
theorem vc49 : (∀ q : Nat, funP (C49 q) (stpR (C49 q)) S49 (L49 q) Try.f49) = (
let q0 : Int := (0 : (AK.val tI).den);
let q1 : Nat := (3 : Nat);
let q2 : Int := (0 : Int);
let q3 : Int × Int × List (Int × Int × Int × Bool × Unit) × List (List Int) × Unit := (q2, q2, ([] : List tW.den), List.replicate q1 (([] : List tI.den)), ());
let q4 : Prop := True ∧ True ∧ True;
let q5 : Prop := True ∧ True ∧ q4;
let q6 : Prop := True ∧ q5;
let q7 : Int × Int × Int × Bool × Unit := (q2, q2, q2, false, ());
let q8 : Prop := Step.snd = Step.snd ∧ Step.snd = Step.snd ∧ Step.snd = Step.snd ∧ Step.fst = Step.fst ∧ Step.snd = Step.snd ∧ Step.snd = Step.snd ∧ Step.fst = Step.fst ∧ True;
let q9 : Prop := True ∧ True ∧ True ∧ True ∧ q6;
let q10 : List Step := Step.fst :: ([] : List Step);
let q11 : List Step := Step.snd :: q10;
let q12 : List Step := Step.snd :: q11;
let q13 : Prop := (([] : List Go.ResultVar)).toArray.toList = ([] : List Go.ResultVar) ∧ Ty.unit = Ty.unit;
∀ (q : Nat) (x : (List (List (Int × Int × Int × Unit)) × Unit) × List (Int × Int × List (Int × Int × Int × Bool × Unit) × List (List Int) × Unit) × List (List Int) × (List (Int × (Int × Int × Int × Unit) × Int × Unit) × List Int × List (List Int) × List Int × Unit) × Unit),
  let q14 : List Int × List (List Int) × List Int × Unit := x.2.2.2.1.2;
  let q15 : List (List Int) × List Int × Unit := q14.2;
  let q16 : List (List Int) := q15.1;
  ∀ (y : Int × Int × Unit),
    let q17 : Prop := q0 ≤ y.2.1;
    let q18 : Int × Int × List (Int × Int × Int × Bool × Unit) × List (List Int) × Unit := x.2.1.getD y.1.toNat q3;
    let q19 : Int × List (Int × Int × Int × Bool × Unit) × List (List Int) × Unit := q18.2;
    let q20 : List (Int × Int × Int × Bool × Unit) × List (List Int) × Unit := q19.2;
    let q21 : List (Int × Int × Int × Bool × Unit) := q20.1;
    let q22 : Nat := q21.length;
    let q23 : Int × Int × Bool × Unit := (q21.getD y.2.1.toNat q7).2;
    let q24 : Bool := q23.2.2.1;
    let q25 : Int := q23.1;
    let q26 : Prop := inN q25 q16.length;
    let q27 : Prop := inN q25 q1;
    let q28 : Nat := q25.toNat;
    let q29 : List Int := q16.getD q28 (([] : List tI.den));
    let q30 : List (Int × Int × List (Int × Int × Int × Bool × Unit) × List (List Int) × Unit) := x.2.1.set y.1.toNat (q18.1, q19.1, List.take y.2.1.toNat q21 ++ List.drop (y.2.1 + (1 : Int)).toNat q21, q20.2);
    let q31 : Int × Int × List (Int × Int × Int × Bool × Unit) × List (List Int) × Unit := q30.getD y.1.toNat q3;
    let q32 : Int × List (Int × Int × Int × Bool × Unit) × List (List Int) × Unit := q31.2;
    let q33 : List (Int × Int × Int × Bool × Unit) × List (List Int) × Unit := q32.2;
    let q34 : List (List Int) × Unit := q33.2;
    let q35 : List (List Int) := q34.1;
    let q36 : List Int := q35.getD q28 (([] : List tI.den));
    let q37 : List Step := List.append._f (Step.snd :: List.append._f q12 ⟨List.append._f q11 ⟨List.append._f q10 ⟨List.append._f (([] : List Step)) PUnit.unit, PUnit.unit⟩, List.append._f (([] : List Step)) PUnit.unit, PUnit.unit⟩, List.append._f q10 ⟨List.append._f (([] : List Step)) PUnit.unit, PUnit.unit⟩, List.append._f (([] : List Step)) PUnit.unit, PUnit.unit⟩ q12) ⟨List.append._f (Step.snd :: List.append._f q11 ⟨List.append._f q10 ⟨List.append._f (([] : List Step)) PUnit.unit, PUnit.unit⟩, List.append._f (([] : List Step)) PUnit.unit, PUnit.unit⟩ q12) ⟨List.append._f (Step.snd :: List.append._f q10 ⟨List.append._f (([] : List Step)) PUnit.unit, PUnit.unit⟩ q12) ⟨List.append._f (Step.fst :: List.append._f (([] : List Step)) PUnit.unit q12) ⟨List.append._f q12 ⟨List.append._f q11 ⟨List.append._f q10 ⟨List.append._f (([] : List Step)) PUnit.unit, PUnit.unit⟩, List.append._f (([] : List Step)) PUnit.unit, PUnit.unit⟩, List.append._f q10 ⟨List.append._f (([] : List Step)) PUnit.unit, PUnit.unit⟩, List.append._f (([] : List Step)) PUnit.unit, PUnit.unit⟩, List.append._f q11 ⟨List.append._f q10 ⟨List.append._f (([] : List Step)) PUnit.unit, PUnit.unit⟩, List.append._f (([] : List Step)) PUnit.unit, PUnit.unit⟩, List.append._f q10 ⟨List.append._f (([] : List Step)) PUnit.unit, PUnit.unit⟩, List.append._f (([] : List Step)) PUnit.unit, PUnit.unit⟩, List.append._f q12 ⟨List.append._f q11 ⟨List.append._f q10 ⟨List.append._f (([] : List Step)) PUnit.unit, PUnit.unit⟩, List.append._f (([] : List Step)) PUnit.unit, PUnit.unit⟩, List.append._f q10 ⟨List.append._f (([] : List Step)) PUnit.unit, PUnit.unit⟩, List.append._f (([] : List Step)) PUnit.unit, PUnit.unit⟩, List.append._f q11 ⟨List.append._f q10 ⟨List.append._f (([] : List Step)) PUnit.unit, PUnit.unit⟩, List.append._f (([] : List Step)) PUnit.unit, PUnit.unit⟩, List.append._f q10 ⟨List.append._f (([] : List Step)) PUnit.unit, PUnit.unit⟩, List.append._f (([] : List Step)) PUnit.unit, PUnit.unit⟩, List.append._f (Step.fst :: List.append._f (([] : List Step)) PUnit.unit q12) ⟨List.append._f q12 ⟨List.append._f q11 ⟨List.append._f q10 ⟨List.append._f (([] : List Step)) PUnit.unit, PUnit.unit⟩, List.append._f (([] : List Step)) PUnit.unit, PUnit.unit⟩, List.append._f q10 ⟨List.append._f (([] : List Step)) PUnit.unit, PUnit.unit⟩, List.append._f (([] : List Step)) PUnit.unit, PUnit.unit⟩, List.append._f q11 ⟨List.append._f q10 ⟨List.append._f (([] : List Step)) PUnit.unit, PUnit.unit⟩, List.append._f (([] : List Step)) PUnit.unit, PUnit.unit⟩, List.append._f q10 ⟨List.append._f (([] : List Step)) PUnit.unit, PUnit.unit⟩, List.append._f (([] : List Step)) PUnit.unit, PUnit.unit⟩, List.append._f q12 ⟨List.append._f q11 ⟨List.append._f q10 ⟨List.append._f (([] : List Step)) PUnit.unit, PUnit.unit⟩, List.append._f (([] : List Step)) PUnit.unit, PUnit.unit⟩, List.append._f q10 ⟨List.append._f (([] : List Step)) PUnit.unit, PUnit.unit⟩, List.append._f (([] : List Step)) PUnit.unit, PUnit.unit⟩, List.append._f q11 ⟨List.append._f q10 ⟨List.append._f (([] : List Step)) PUnit.unit, PUnit.unit⟩, List.append._f (([] : List Step)) PUnit.unit, PUnit.unit⟩, List.append._f q10 ⟨List.append._f (([] : List Step)) PUnit.unit, PUnit.unit⟩, List.append._f (([] : List Step)) PUnit.unit, PUnit.unit⟩, List.append._f (Step.snd :: List.append._f q10 ⟨List.append._f (([] : List Step)) PUnit.unit, PUnit.unit⟩ q12) ⟨List.append._f (Step.fst :: List.append._f (([] : List Step)) PUnit.unit q12) ⟨List.append._f q12 ⟨List.append._f q11 ⟨List.append._f q10 ⟨List.append._f (([] : List Step)) PUnit.unit, PUnit.unit⟩, List.append._f (([] : List Step)) PUnit.unit, PUnit.unit⟩, List.append._f q10 ⟨List.append._f (([] : List Step)) PUnit.unit, PUnit.unit⟩, List.append._f (([] : List Step)) PUnit.unit, PUnit.unit⟩, List.append._f q11 ⟨List.append._f q10 ⟨List.append._f (([] : List Step)) PUnit.unit, PUnit.unit⟩, List.append._f (([] : List Step)) PUnit.unit, PUnit.unit⟩, List.append._f q10 ⟨List.append._f (([] : List Step)) PUnit.unit, PUnit.unit⟩, List.append._f (([] : List Step)) PUnit.unit, PUnit.unit⟩, List.append._f q12 ⟨List.append._f q11 ⟨List.append._f q10 ⟨List.append._f (([] : List Step)) PUnit.unit, PUnit.unit⟩, List.append._f (([] : List Step)) PUnit.unit, PUnit.unit⟩, List.append._f q10 ⟨List.append._f (([] : List Step)) PUnit.unit, PUnit.unit⟩, List.append._f (([] : List Step)) PUnit.unit, PUnit.unit⟩, List.append._f q11 ⟨List.append._f q10 ⟨List.append._f (([] : List Step)) PUnit.unit, PUnit.unit⟩, List.append._f (([] : List Step)) PUnit.unit, PUnit.unit⟩, List.append._f q10 ⟨List.append._f (([] : List Step)) PUnit.unit, PUnit.unit⟩, List.append._f (([] : List Step)) PUnit.unit, PUnit.unit⟩, List.append._f (Step.fst :: List.append._f (([] : List Step)) PUnit.unit q12) ⟨List.append._f q12 ⟨List.append._f q11 ⟨List.append._f q10 ⟨List.append._f (([] : List Step)) PUnit.unit, PUnit.unit⟩, List.append._f (([] : List Step)) PUnit.unit, PUnit.unit⟩, List.append._f q10 ⟨List.append._f (([] : List Step)) PUnit.unit, PUnit.unit⟩, List.append._f (([] : List Step)) PUnit.unit, PUnit.unit⟩, List.append._f q11 ⟨List.append._f q10 ⟨List.append._f (([] : List Step)) PUnit.unit, PUnit.unit⟩, List.append._f (([] : List Step)) PUnit.unit, PUnit.unit⟩, List.append._f q10 ⟨List.append._f (([] : List Step)) PUnit.unit, PUnit.unit⟩, List.append._f (([] : List Step)) PUnit.unit, PUnit.unit⟩, List.append._f q12 ⟨List.append._f q11 ⟨List.append._f q10 ⟨List.append._f (([] : List Step)) PUnit.unit, PUnit.unit⟩, List.append._f (([] : List Step)) PUnit.unit, PUnit.unit⟩, List.append._f q10 ⟨List.append._f (([] : List Step)) PUnit.unit, PUnit.unit⟩, List.append._f (([] : List Step)) PUnit.unit, PUnit.unit⟩, List.append._f q11 ⟨List.append._f q10 ⟨List.append._f (([] : List Step)) PUnit.unit, PUnit.unit⟩, List.append._f (([] : List Step)) PUnit.unit, PUnit.unit⟩, List.append._f q10 ⟨List.append._f (([] : List Step)) PUnit.unit, PUnit.unit⟩, List.append._f (([] : List Step)) PUnit.unit, PUnit.unit⟩ (Step.idx q28 :: ([] : List Step));
    let q38 : List (List Int) := Sp.wback (Sp.wd q21 y.2.1) x.2.2.1;
    let q39 : (List (List (Int × Int × Int × Unit)) × Unit) × List (Int × Int × List (Int × Int × Int × Bool × Unit) × List (List Int) × Unit) × List (List Int) × (List (Int × (Int × Int × Int × Unit) × Int × Unit) × List Int × List (List Int) × List Int × Unit) × Unit := Sp.evictM x y.1 y.2.1;
    Sp.OkM x ∧ Sp.inC x y.1 ∧ q17 ∧ y.2.1 < (↑(Sp.co x.2.1 y.1).2.2.1.length : Int) → dFact ((((Ty.int IntKind.i64).prod ((Ty.int IntKind.i64).prod ((Ty.int IntKind.i64).prod Ty.unit))).slice.slice.prod Ty.unit).prod (((Ty.int IntKind.i64).prod ((Ty.int IntKind.i64).prod (((Ty.int IntKind.i64).prod ((Ty.int IntKind.i64).prod ((Ty.int IntKind.i32).prod (Ty.bool.prod Ty.unit)))).slice.prod ((Ty.arr q1 (Ty.int IntKind.i64).slice).prod Ty.unit)))).slice.prod ((Ty.int IntKind.i32).slice.slice.prod ((((Ty.int IntKind.i64).prod (((Ty.int IntKind.i64).prod ((Ty.int IntKind.i64).prod ((Ty.int IntKind.i64).prod Ty.unit))).prod ((Ty.int IntKind.i64).prod Ty.unit))).slice.prod ((Ty.int IntKind.i64).slice.prod ((Ty.int IntKind.i64).slice.slice.prod ((Ty.int IntKind.i64).slice.prod Ty.unit)))).prod Ty.unit)))) x → dFact (Ty.int IntKind.i64) y.1 ∧ dFact (Ty.int IntKind.i64) y.2.1 ∧ True → ((True ∧ True ∧ True ∧ True ∧ True ∧ inN y.1 x.2.1.length ∧ True ∧ True) ∧ True) ∧ ((True ∧ True ∧ True ∧ True ∧ True ∧ inN y.2.1 q22 ∧ q4) ∧ True ∧ True) ∧ ((True ∧ True ∧ True ∧ True ∧ True ∧ True ∧ True ∧ True ∧ True ∧ True ∧ True ∧ (Sp.okS q21 x.2.2.1 ∧ q17 ∧ y.2.1 < (↑q22 : Int)) ∧ q6) ∧ q5) ∧ (q4 ∧ True) ∧ (q24 = true → (((True ∧ True ∧ True ∧ True ∧ True ∧ True ∧ True ∧ True ∧ True ∧ True ∧ True ∧ True ∧ True ∧ True ∧ q26 ∧ True ∧ True ∧ True ∧ True ∧ True ∧ True ∧ q27 ∧ True ∧ (↑(q29.length + q36.length) : Int) ≤ maxNew ∧ q26 ∧ True) ∧ True ∧ True ∧ True ∧ True ∧ True ∧ True ∧ True ∧ True ∧ True ∧ True ∧ True ∧ True ∧ True ∧ True ∧ True ∧ True ∧ True ∧ True ∧ True ∧ True ∧ True ∧ True ∧ True ∧ ((True ∧ True ∧ True ∧ True ∧ q8 ∧ True ∧ True ∧ True ∧ True ∧ True ∧ True ∧ q8 ∧ True ∧ True ∧ True ∧ (Step.snd = Step.snd ∧ Step.snd = Step.snd ∧ Step.snd = Step.snd ∧ Step.fst = Step.fst ∧ Step.snd = Step.snd ∧ Step.snd = Step.snd ∧ Step.fst = Step.fst ∧ Step.idx q28 = Step.idx q28 ∧ True) ∧ q9) ∧ True ∧ True ∧ True ∧ True ∧ True ∧ True ∧ True ∧ True ∧ True ∧ True ∧ True ∧ True ∧ True ∧ True ∧ True ∧ True ∧ True ∧ True ∧ True ∧ True ∧ True ∧ True ∧ True ∧ True ∧ True ∧ True ∧ True ∧ True ∧ True ∧ True ∧ True ∧ True ∧ True ∧ True ∧ True ∧ True ∧ True ∧ True ∧ True ∧ True ∧ True ∧ True ∧ True ∧ True ∧ True ∧ True ∧ True ∧ True ∧ True ∧ True ∧ True ∧ True ∧ True ∧ True ∧ True ∧ True ∧ True ∧ True ∧ True ∧ True ∧ True ∧ True ∧ True ∧ True ∧ q9) ∧ True ∧ True) ∧ q37 = q37 ∧ True) ∧ ((True ∧ True ∧ True ∧ True ∧ True ∧ q27 ∧ True) ∧ True ∧ True) ∧ (x.1, q30.set y.1.toNat (q31.1, q32.1, q33.1, q35.set q28 (([] : List tI.den)), q34.2), q38, (x.2.2.2.1.1, q14.1, q16.set q28 (q29 ++ q36), q15.2), x.2.2.2.2) = q39 ∧ q13) ∧ (q24 = false → (x.1, q30, q38, x.2.2.2) = q39 ∧ q13)) := by kernel_rfl
theorem vc26 : (∀ q : Nat, funP (C26 q) (stpR (C26 q)) S26 (L26 q) Try.f26) = (
let q0 : Nat := (3 : Nat);
let q1 : Prop := True ∧ True ∧ True;
let q2 : Int := (0 : Int);
∀ (q : Nat) (x : (List (List (Int × Int × Int × Unit)) × Unit) × List (Int × Int × List (Int × Int × Int × Bool × Unit) × List (List Int) × Unit) × List (List Int) × (List (Int × (Int × Int × Int × Unit) × Int × Unit) × List Int × List (List Int) × List Int × Unit) × Unit) (y : Int × Unit),
  let q3 : Prop := y.1 = y.1 ∧ True;
  Sp.OkM x ∧ Sp.inC x y.1 →
    dFact ((((Ty.int IntKind.i64).prod ((Ty.int IntKind.i64).prod ((Ty.int IntKind.i64).prod Ty.unit))).slice.slice.prod Ty.unit).prod (((Ty.int IntKind.i64).prod ((Ty.int IntKind.i64).prod (((Ty.int IntKind.i64).prod ((Ty.int IntKind.i64).prod ((Ty.int IntKind.i32).prod (Ty.bool.prod Ty.unit)))).slice.prod ((Ty.arr q0 (Ty.int IntKind.i64).slice).prod Ty.unit)))).slice.prod ((Ty.int IntKind.i32).slice.slice.prod ((((Ty.int IntKind.i64).prod (((Ty.int IntKind.i64).prod ((Ty.int IntKind.i64).prod ((Ty.int IntKind.i64).prod Ty.unit))).prod ((Ty.int IntKind.i64).prod Ty.unit))).slice.prod ((Ty.int IntKind.i64).slice.prod ((Ty.int IntKind.i64).slice.slice.prod ((Ty.int IntKind.i64).slice.prod Ty.unit)))).prod Ty.unit)))) x →
      dFact (Ty.int IntKind.i64) y.1 ∧ True →
        (∃ (x_1 : Sp.Mach), (Sp.OkM x_1 ∧ Sp.inC x_1 y.1 ∧ Sp.flushM x_1 y.1 = Sp.flushM x y.1) ∧ x = x_1 ∧ q3) ∧
          ∀ (x_1 : Sp.Mach),
            let q4 : Bool := decide ((↑(List.length (x_1.2.1.getD y.1.toNat (q2, q2, ([] : List tW.den), List.replicate q0 (([] : List tI.den)), ())).2.2.1) : Int) > q2);
            let q5 : Nat := (Sp.co x_1.2.1 y.1).2.2.1.length;
            Sp.OkM x_1 ∧ Sp.inC x_1 y.1 ∧ Sp.flushM x_1 y.1 = Sp.flushM x y.1 → dFact ((((Ty.int IntKind.i64).prod ((Ty.int IntKind.i64).prod ((Ty.int IntKind.i64).prod Ty.unit))).slice.slice.prod Ty.unit).prod (((Ty.int IntKind.i64).prod ((Ty.int IntKind.i64).prod (((Ty.int IntKind.i64).prod ((Ty.int IntKind.i64).prod ((Ty.int IntKind.i32).prod (Ty.bool.prod Ty.unit)))).slice.prod ((Ty.arr q0 (Ty.int IntKind.i64).slice).prod Ty.unit)))).slice.prod ((Ty.int IntKind.i32).slice.slice.prod ((((Ty.int IntKind.i64).prod (((Ty.int IntKind.i64).prod ((Ty.int IntKind.i64).prod ((Ty.int IntKind.i64).prod Ty.unit))).prod ((Ty.int IntKind.i64).prod Ty.unit))).slice.prod ((Ty.int IntKind.i64).slice.prod ((Ty.int IntKind.i64).slice.slice.prod ((Ty.int IntKind.i64).slice.prod Ty.unit)))).prod Ty.unit)))) x_1 ∧ True → ((True ∧ True ∧ True ∧ True ∧ True ∧ inN y.1 x_1.2.1.length ∧ True ∧ True ∧ q1) ∧ True) ∧ (q4 = true → (q1 ∧ (Sp.OkM x_1 ∧ Sp.inC x_1 y.1 ∧ (0 : (AK.val tI).den) ≤ q2 ∧ q2 < (↑q5 : Int)) ∧ True) ∧ ∃ (y_1 : Sp.Mach), (Sp.OkM y_1 ∧ Sp.inC y_1 y.1 ∧ Sp.flushM y_1 y.1 = Sp.flushM x y.1) ∧ (Sp.co y_1.2.1 y.1).2.2.1.length < q5 ∧ Sp.evictM x_1 y.1 q2 = y_1 ∧ q3) ∧ (q4 = false → x_1 = Sp.flushM x y.1 ∧ (([] : List Go.ResultVar)).toArray.toList = ([] : List Go.ResultVar) ∧ Ty.unit = Ty.unit)) := by kernel_rfl
theorem vc47 : (∀ q : Nat, funP (C47 q) (stpR (C47 q)) S47 (L47 q) Try.f47) = (
let q0 : Nat := (3 : Nat);
let q1 : Int := (0 : Int);
let q2 : Int × Int × List (Int × Int × Int × Bool × Unit) × List (List Int) × Unit := (q1, q1, ([] : List tW.den), List.replicate q0 (([] : List tI.den)), ());
let q3 : Prop := True ∧ True ∧ True;
let q4 : Prop := True ∧ q3;
let q5 : Int := (1 : Int);
let q6 : Prop := q3 ∧ True;
let q7 : Int × Int × Int × Unit := (q1, q1, q1, ());
let q8 : Prop := (True ∧ True) ∧ True;
let q9 : Int := (0 : (AK.val tI).den);
let q10 : Prop := q1 = q9;
let q11 : Nat := (0 : Nat);
let q12 : List Int := ([] : List (Ty.int IntKind.i32).den);
let q13 : Prop := True ∧ q4;
let q14 : Prop := True ∧ q13;
let q15 : Prop := True ∧ q14;
let q16 : Int := (0 : (AK.val (Ty.int IntKind.i32)).den);
let q17 : Prop := (([] : List Go.ResultVar)).toArray.toList = ([] : List Go.ResultVar) ∧ Ty.unit = Ty.unit;
let q18 : Prop := True ∧ True ∧ q15;
let q19 : Prop := True ∧ True ∧ True ∧ True ∧ True ∧ True ∧ True ∧ True ∧ True ∧ True ∧ True ∧ True ∧ True ∧ True ∧ True ∧ True ∧ True ∧ True ∧ True ∧ True ∧ True ∧ True ∧ True ∧ True ∧ True ∧ True ∧ True ∧ True ∧ True ∧ True ∧ True ∧ True ∧ True ∧ True ∧ True ∧ True ∧ True ∧ True ∧ True ∧ True ∧ True ∧ True ∧ True ∧ True ∧ True ∧ True ∧ True ∧ True ∧ True ∧ True ∧ True ∧ True ∧ True ∧ True ∧ True ∧ True ∧ True ∧ True ∧ True ∧ True ∧ True ∧ True ∧ True ∧ True ∧ True ∧ True ∧ True ∧ True ∧ True ∧ True ∧ True ∧ True ∧ True ∧ True ∧ True ∧ True ∧ True ∧ True ∧ True ∧ True ∧ True ∧ True ∧ True ∧ True ∧ True ∧ True ∧ True ∧ True ∧ True ∧ True ∧ True ∧ True ∧ True ∧ True ∧ True ∧ True ∧ True ∧ True ∧ True ∧ True ∧ True ∧ True ∧ True ∧ True ∧ True ∧ True ∧ True ∧ True ∧ True ∧ True ∧ True ∧ True ∧ True ∧ True ∧ True ∧ True ∧ True ∧ True ∧ True ∧ True ∧ True ∧ True ∧ True ∧ True ∧ True ∧ True ∧ True ∧ True ∧ True ∧ True ∧ True ∧ True ∧ True ∧ True ∧ True ∧ True ∧ True ∧ True ∧ True ∧ True ∧ True ∧ True ∧ True ∧ True ∧ True ∧ True ∧ True ∧ True ∧ True ∧ True ∧ True ∧ True ∧ True ∧ True ∧ True ∧ True ∧ True ∧ True ∧ True ∧ True ∧ True ∧ True ∧ True ∧ True ∧ True ∧ True ∧ True ∧ True ∧ True ∧ True ∧ True ∧ True ∧ True ∧ True ∧ True ∧ q18;
let q20 : List Step := Step.fst :: ([] : List Step);
let q21 : List Step := Step.snd :: q20;
let q22 : List Step := Step.snd :: q21;
let q23 : List Step := Step.snd :: q22;
let q24 : Nat := (55 : Go.FuncId);
let q25 : Nat := q1.toNat;
let q26 : Prop := Step.snd = Step.snd ∧ Step.snd = Step.snd ∧ Step.snd = Step.snd ∧ Step.fst = Step.fst ∧ Step.snd = Step.snd ∧ Step.snd = Step.snd ∧ Step.fst = Step.fst ∧ True;
let q27 : List Step := List.append._f q23 ⟨List.append._f q22 ⟨List.append._f q21 ⟨List.append._f q20 ⟨List.append._f (([] : List Step)) PUnit.unit, PUnit.unit⟩, List.append._f (([] : List Step)) PUnit.unit, PUnit.unit⟩, List.append._f q20 ⟨List.append._f (([] : List Step)) PUnit.unit, PUnit.unit⟩, List.append._f (([] : List Step)) PUnit.unit, PUnit.unit⟩, List.append._f q21 ⟨List.append._f q20 ⟨List.append._f (([] : List Step)) PUnit.unit, PUnit.unit⟩, List.append._f (([] : List Step)) PUnit.unit, PUnit.unit⟩, List.append._f q20 ⟨List.append._f (([] : List Step)) PUnit.unit, PUnit.unit⟩, List.append._f (([] : List Step)) PUnit.unit, PUnit.unit⟩ q23;
∀ (q : Nat) (x : (List (List (Int × Int × Int × Unit)) × Unit) × List (Int × Int × List (Int × Int × Int × Bool × Unit) × List (List Int) × Unit) × List (List Int) × (List (Int × (Int × Int × Int × Unit) × Int × Unit) × List Int × List (List Int) × List Int × Unit) × Unit),
  let q28 : Int := (↑(List.length (x.2.2.1.getD q11 q12)) : Int);
  let q29 : List (Int × (Int × Int × Int × Unit) × Int × Unit) := x.2.2.2.1.1;
  let q30 : Nat := q29.length;
  let q31 : Int := (↑q30 : Int);
  let q32 : List Int × List (List Int) × List Int × Unit := x.2.2.2.1.2;
  let q33 : List Int := q32.1;
  let q34 : Prop := q33.length = q30;
  let q35 : List (List Int) × List Int × Unit := q32.2;
  let q36 : List (List Int) := q35.1;
  let q37 : List Int × Unit := (q35.2.1, ());
  let q38 : List Int := x.2.2.1.getD q25 q12;
  ∀ (y : Int × Unit),
    let q39 : List (Int × Int × Int × Unit) := x.1.1.getD y.1.toNat (([] : List tLOp.den));
    let q40 : Nat := q39.length;
    let q41 : Int × Int × List (Int × Int × Int × Bool × Unit) × List (List Int) × Unit := x.2.1.getD y.1.toNat q2;
    let q42 : Int := q41.1;
    let q43 : Int × List (Int × Int × Int × Bool × Unit) × List (List Int) × Unit := q41.2;
    let q44 : Int := q43.1;
    let q45 : Int := q42 + q44;
    let q46 : Int := q44 + q5;
    let q47 : Int × Int × Int × Unit := q39.getD q44.toNat q7;
    let q48 : Int := q47.1;
    let q49 : Bool := q48 == q5;
    let q50 : List (Int × Int × List (Int × Int × Int × Bool × Unit) × List (List Int) × Unit) := x.2.1.set y.1.toNat (q42, q46, q43.2);
    let q51 : Int × Int × List (Int × Int × Int × Bool × Unit) × List (List Int) × Unit := q50.getD y.1.toNat q2;
    let q52 : Int × List (Int × Int × Int × Bool × Unit) × List (List Int) × Unit := q51.2;
    let q53 : List (Int × Int × Int × Bool × Unit) × List (List Int) × Unit := q52.2;
    let q54 : List (Int × Int × Int × Bool × Unit) := q53.1;
    let q55 : Int := q47.2.1;
    let q56 : Prop := q9 ≤ q55;
    let q57 : Prop := q10 ∧ q56 ∧ q55 < q28;
    let q58 : Prop := q9 ≤ q45;
    let q59 : Prop := q45 < q31;
    let q60 : Int × List (Int × Int × Int × Bool × Unit) × Unit := Sp.load q54 x.2.2.1 q55;
    let q61 : Int := q60.1;
    let q62 : Int := q51.1;
    let q63 : Int := q52.1;
    let q64 : List (List Int) × Unit := q53.2;
    let q65 : Bool := q48 == (2 : Int);
    let q66 : Int := q45 + q5;
    let q67 : Prop := inK IntKind.i64 q66;
    let q68 : Prop := inN q55 q0;
    let q69 : Int := IntKind.i32.wrap q66;
    let q70 : List (Int × Int × List (Int × Int × Int × Bool × Unit) × List (List Int) × Unit) := q50.set y.1.toNat (q62, q63, Sp.store q54 q55 q69, q64);
    let q71 : Int × Int × List (Int × Int × Int × Bool × Unit) × List (List Int) × Unit := q70.getD y.1.toNat q2;
    let q72 : Int × List (Int × Int × Int × Bool × Unit) × List (List Int) × Unit := q71.2;
    let q73 : List (Int × Int × Int × Bool × Unit) × List (List Int) × Unit := q72.2;
    let q74 : List (List Int) × Unit := q73.2;
    let q75 : List (List Int) := q74.1;
    let q76 : Nat := q55.toNat;
    let q77 : List Int := q75.getD q76 (([] : List tI.den));
    let q78 : List Int := q45 :: ([] : List tI.den);
    let q79 : Nat := q78.length;
    let q80 : Prop := Step.snd = Step.snd ∧ Step.snd = Step.snd ∧ Step.fst = Step.fst ∧ Step.idx q76 = Step.idx q76 ∧ True;
    let q81 : List Step := Step.idx y.1.toNat :: ([] : List Step);
    let q82 : List Step := Step.idx q76 :: ([] : List Step);
    let q83 : List Step := List.append._f (Step.snd :: List.append._f (Step.fst :: List.append._f (([] : List Step)) PUnit.unit q81) ⟨List.append._f q81 ⟨List.append._f (([] : List Step)) PUnit.unit, PUnit.unit⟩, List.append._f (([] : List Step)) PUnit.unit, PUnit.unit⟩ q23) ⟨List.append._f (Step.fst :: List.append._f q81 ⟨List.append._f (([] : List Step)) PUnit.unit, PUnit.unit⟩ q23) ⟨List.append._f (Step.idx y.1.toNat :: List.append._f (([] : List Step)) PUnit.unit q23) ⟨List.append._f q23 ⟨List.append._f q22 ⟨List.append._f q21 ⟨List.append._f q20 ⟨List.append._f (([] : List Step)) PUnit.unit, PUnit.unit⟩, List.append._f (([] : List Step)) PUnit.unit, PUnit.unit⟩, List.append._f q20 ⟨List.append._f (([] : List Step)) PUnit.unit, PUnit.unit⟩, List.append._f (([] : List Step)) PUnit.unit, PUnit.unit⟩, List.append._f q21 ⟨List.append._f q20 ⟨List.append._f (([] : List Step)) PUnit.unit, PUnit.unit⟩, List.append._f (([] : List Step)) PUnit.unit, PUnit.unit⟩, List.append._f q20 ⟨List.append._f (([] : List Step)) PUnit.unit, PUnit.unit⟩, List.append._f (([] : List Step)) PUnit.unit, PUnit.unit⟩, List.append._f q22 ⟨List.append._f q21 ⟨List.append._f q20 ⟨List.append._f (([] : List Step)) PUnit.unit, PUnit.unit⟩, List.append._f (([] : List Step)) PUnit.unit, PUnit.unit⟩, List.append._f q20 ⟨List.append._f (([] : List Step)) PUnit.unit, PUnit.unit⟩, List.append._f (([] : List Step)) PUnit.unit, PUnit.unit⟩, List.append._f q21 ⟨List.append._f q20 ⟨List.append._f (([] : List Step)) PUnit.unit, PUnit.unit⟩, List.append._f (([] : List Step)) PUnit.unit, PUnit.unit⟩, List.append._f q20 ⟨List.append._f (([] : List Step)) PUnit.unit, PUnit.unit⟩, List.append._f (([] : List Step)) PUnit.unit, PUnit.unit⟩, List.append._f q23 ⟨List.append._f q22 ⟨List.append._f q21 ⟨List.append._f q20 ⟨List.append._f (([] : List Step)) PUnit.unit, PUnit.unit⟩, List.append._f (([] : List Step)) PUnit.unit, PUnit.unit⟩, List.append._f q20 ⟨List.append._f (([] : List Step)) PUnit.unit, PUnit.unit⟩, List.append._f (([] : List Step)) PUnit.unit, PUnit.unit⟩, List.append._f q21 ⟨List.append._f q20 ⟨List.append._f (([] : List Step)) PUnit.unit, PUnit.unit⟩, List.append._f (([] : List Step)) PUnit.unit, PUnit.unit⟩, List.append._f q20 ⟨List.append._f (([] : List Step)) PUnit.unit, PUnit.unit⟩, List.append._f (([] : List Step)) PUnit.unit, PUnit.unit⟩, List.append._f q22 ⟨List.append._f q21 ⟨List.append._f q20 ⟨List.append._f (([] : List Step)) PUnit.unit, PUnit.unit⟩, List.append._f (([] : List Step)) PUnit.unit, PUnit.unit⟩, List.append._f q20 ⟨List.append._f (([] : List Step)) PUnit.unit, PUnit.unit⟩, List.append._f (([] : List Step)) PUnit.unit, PUnit.unit⟩, List.append._f q21 ⟨List.append._f q20 ⟨List.append._f (([] : List Step)) PUnit.unit, PUnit.unit⟩, List.append._f (([] : List Step)) PUnit.unit, PUnit.unit⟩, List.append._f q20 ⟨List.append._f (([] : List Step)) PUnit.unit, PUnit.unit⟩, List.append._f (([] : List Step)) PUnit.unit, PUnit.unit⟩, List.append._f (Step.idx y.1.toNat :: List.append._f (([] : List Step)) PUnit.unit q23) ⟨List.append._f q23 ⟨List.append._f q22 ⟨List.append._f q21 ⟨List.append._f q20 ⟨List.append._f (([] : List Step)) PUnit.unit, PUnit.unit⟩, List.append._f (([] : List Step)) PUnit.unit, PUnit.unit⟩, List.append._f q20 ⟨List.append._f (([] : List Step)) PUnit.unit, PUnit.unit⟩, List.append._f (([] : List Step)) PUnit.unit, PUnit.unit⟩, List.append._f q21 ⟨List.append._f q20 ⟨List.append._f (([] : List Step)) PUnit.unit, PUnit.unit⟩, List.append._f (([] : List Step)) PUnit.unit, PUnit.unit⟩, List.append._f q20 ⟨List.append._f (([] : List Step)) PUnit.unit, PUnit.unit⟩, List.append._f (([] : List Step)) PUnit.unit, PUnit.unit⟩, List.append._f q22 ⟨List.append._f q21 ⟨List.append._f q20 ⟨List.append._f (([] : List Step)) PUnit.unit, PUnit.unit⟩, List.append._f (([] : List Step)) PUnit.unit, PUnit.unit⟩, List.append._f q20 ⟨List.append._f (([] : List Step)) PUnit.unit, PUnit.unit⟩, List.append._f (([] : List Step)) PUnit.unit, PUnit.unit⟩, List.append._f q21 ⟨List.append._f q20 ⟨List.append._f (([] : List Step)) PUnit.unit, PUnit.unit⟩, List.append._f (([] : List Step)) PUnit.unit, PUnit.unit⟩, List.append._f q20 ⟨List.append._f (([] : List Step)) PUnit.unit, PUnit.unit⟩, List.append._f (([] : List Step)) PUnit.unit, PUnit.unit⟩, List.append._f q23 ⟨List.append._f q22 ⟨List.append._f q21 ⟨List.append._f q20 ⟨List.append._f (([] : List Step)) PUnit.unit, PUnit.unit⟩, List.append._f (([] : List Step)) PUnit.unit, PUnit.unit⟩, List.append._f q20 ⟨List.append._f (([] : List Step)) PUnit.unit, PUnit.unit⟩, List.append._f (([] : List Step)) PUnit.unit, PUnit.unit⟩, List.append._f q21 ⟨List.append._f q20 ⟨List.append._f (([] : List Step)) PUnit.unit, PUnit.unit⟩, List.append._f (([] : List Step)) PUnit.unit, PUnit.unit⟩, List.append._f q20 ⟨List.append._f (([] : List Step)) PUnit.unit, PUnit.unit⟩, List.append._f (([] : List Step)) PUnit.unit, PUnit.unit⟩, List.append._f q22 ⟨List.append._f q21 ⟨List.append._f q20 ⟨List.append._f (([] : List Step)) PUnit.unit, PUnit.unit⟩, List.append._f (([] : List Step)) PUnit.unit, PUnit.unit⟩, List.append._f q20 ⟨List.append._f (([] : List Step)) PUnit.unit, PUnit.unit⟩, List.append._f (([] : List Step)) PUnit.unit, PUnit.unit⟩, List.append._f q21 ⟨List.append._f q20 ⟨List.append._f (([] : List Step)) PUnit.unit, PUnit.unit⟩, List.append._f (([] : List Step)) PUnit.unit, PUnit.unit⟩, List.append._f q20 ⟨List.append._f (([] : List Step)) PUnit.unit, PUnit.unit⟩, List.append._f (([] : List Step)) PUnit.unit, PUnit.unit⟩ q82;
    let q84 : Bool := q48 == (3 : Int);
    let q85 : List Int := q1 :: q55 :: ([] : List Int);
    let q86 : Nat × List Int := (q24, q85);
    let q87 : Int := Sp.findW (Sp.cloW q86) q54;
    let q88 : Bool := decide (q1 ≤ q87);
    let q89 : (List (List (Int × Int × Int × Unit)) × Unit) × List (Int × Int × List (Int × Int × Int × Bool × Unit) × List (List Int) × Unit) × List (List Int) × (List (Int × (Int × Int × Int × Unit) × Int × Unit) × List Int × List (List Int) × List Int × Unit) × Unit := (x.1, q50, x.2.2);
    let q90 : Prop := Sp.OkM q89;
    let q91 : Prop := Sp.inC q89 y.1;
    let q92 : Int × Int × List (Int × Int × Int × Bool × Unit) × List (List Int) × Unit := Sp.co q50 y.1;
    let q93 : List (Int × Int × Int × Bool × Unit) := q92.2.2.1;
    let q94 : List (List Int) := Sp.wback (Sp.wd q93 q87) x.2.2.1;
    let q95 : List Int := q94.getD q25 q12;
    let q96 : Int := q95.getD q76 q1;
    let q97 : List (List Int) := Sp.eMo q36 q92 q87;
    let q98 : Prop := inN q55 q97.length;
    let q99 : List Int := q97.getD q76 (([] : List tI.den));
    let q100 : Prop := True ∧ True ∧ True ∧ True ∧ True ∧ True ∧ True ∧ True ∧ True ∧ True ∧ True ∧ True ∧ True ∧ True ∧ True ∧ True ∧ True ∧ True ∧ ((True ∧ True ∧ True ∧ True ∧ q26 ∧ True ∧ True ∧ True ∧ True ∧ True ∧ True ∧ q26 ∧ True ∧ True ∧ True ∧ (Step.snd = Step.snd ∧ Step.snd = Step.snd ∧ Step.snd = Step.snd ∧ Step.fst = Step.fst ∧ q80) ∧ q13) ∧ q19) ∧ True ∧ True;
    let q101 : List Step := List.append._f (Step.snd :: List.append._f q22 ⟨List.append._f q21 ⟨List.append._f q20 ⟨List.append._f (([] : List Step)) PUnit.unit, PUnit.unit⟩, List.append._f (([] : List Step)) PUnit.unit, PUnit.unit⟩, List.append._f q20 ⟨List.append._f (([] : List Step)) PUnit.unit, PUnit.unit⟩, List.append._f (([] : List Step)) PUnit.unit, PUnit.unit⟩ q22) ⟨List.append._f (Step.snd :: List.append._f q21 ⟨List.append._f q20 ⟨List.append._f (([] : List Step)) PUnit.unit, PUnit.unit⟩, List.append._f (([] : List Step)) PUnit.unit, PUnit.unit⟩ q22) ⟨List.append._f (Step.snd :: List.append._f q20 ⟨List.append._f (([] : List Step)) PUnit.unit, PUnit.unit⟩ q22) ⟨List.append._f (Step.fst :: List.append._f (([] : List Step)) PUnit.unit q22) ⟨List.append._f q22 ⟨List.append._f q21 ⟨List.append._f q20 ⟨List.append._f (([] : List Step)) PUnit.unit, PUnit.unit⟩, List.append._f (([] : List Step)) PUnit.unit, PUnit.unit⟩, List.append._f q20 ⟨List.append._f (([] : List Step)) PUnit.unit, PUnit.unit⟩, List.append._f (([] : List Step)) PUnit.unit, PUnit.unit⟩, List.append._f q21 ⟨List.append._f q20 ⟨List.append._f (([] : List Step)) PUnit.unit, PUnit.unit⟩, List.append._f (([] : List Step)) PUnit.unit, PUnit.unit⟩, List.append._f q20 ⟨List.append._f (([] : List Step)) PUnit.unit, PUnit.unit⟩, List.append._f (([] : List Step)) PUnit.unit, PUnit.unit⟩, List.append._f q22 ⟨List.append._f q21 ⟨List.append._f q20 ⟨List.append._f (([] : List Step)) PUnit.unit, PUnit.unit⟩, List.append._f (([] : List Step)) PUnit.unit, PUnit.unit⟩, List.append._f q20 ⟨List.append._f (([] : List Step)) PUnit.unit, PUnit.unit⟩, List.append._f (([] : List Step)) PUnit.unit, PUnit.unit⟩, List.append._f q21 ⟨List.append._f q20 ⟨List.append._f (([] : List Step)) PUnit.unit, PUnit.unit⟩, List.append._f (([] : List Step)) PUnit.unit, PUnit.unit⟩, List.append._f q20 ⟨List.append._f (([] : List Step)) PUnit.unit, PUnit.unit⟩, List.append._f (([] : List Step)) PUnit.unit, PUnit.unit⟩, List.append._f (Step.fst :: List.append._f (([] : List Step)) PUnit.unit q22) ⟨List.append._f q22 ⟨List.append._f q21 ⟨List.append._f q20 ⟨List.append._f (([] : List Step)) PUnit.unit, PUnit.unit⟩, List.append._f (([] : List Step)) PUnit.unit, PUnit.unit⟩, List.append._f q20 ⟨List.append._f (([] : List Step)) PUnit.unit, PUnit.unit⟩, List.append._f (([] : List Step)) PUnit.unit, PUnit.unit⟩, List.append._f q21 ⟨List.append._f q20 ⟨List.append._f (([] : List Step)) PUnit.unit, PUnit.unit⟩, List.append._f (([] : List Step)) PUnit.unit, PUnit.unit⟩, List.append._f q20 ⟨List.append._f (([] : List Step)) PUnit.unit, PUnit.unit⟩, List.append._f (([] : List Step)) PUnit.unit, PUnit.unit⟩, List.append._f q22 ⟨List.append._f q21 ⟨List.append._f q20 ⟨List.append._f (([] : List Step)) PUnit.unit, PUnit.unit⟩, List.append._f (([] : List Step)) PUnit.unit, PUnit.unit⟩, List.append._f q20 ⟨List.append._f (([] : List Step)) PUnit.unit, PUnit.unit⟩, List.append._f (([] : List Step)) PUnit.unit, PUnit.unit⟩, List.append._f q21 ⟨List.append._f q20 ⟨List.append._f (([] : List Step)) PUnit.unit, PUnit.unit⟩, List.append._f (([] : List Step)) PUnit.unit, PUnit.unit⟩, List.append._f q20 ⟨List.append._f (([] : List Step)) PUnit.unit, PUnit.unit⟩, List.append._f (([] : List Step)) PUnit.unit, PUnit.unit⟩, List.append._f (Step.snd :: List.append._f q20 ⟨List.append._f (([] : List Step)) PUnit.unit, PUnit.unit⟩ q22) ⟨List.append._f (Step.fst :: List.append._f (([] : List Step)) PUnit.unit q22) ⟨List.append._f q22 ⟨List.append._f q21 ⟨List.append._f q20 ⟨List.append._f (([] : List Step)) PUnit.unit, PUnit.unit⟩, List.append._f (([] : List Step)) PUnit.unit, PUnit.unit⟩, List.append._f q20 ⟨List.append._f (([] : List Step)) PUnit.unit, PUnit.unit⟩, List.append._f (([] : List Step)) PUnit.unit, PUnit.unit⟩, List.append._f q21 ⟨List.append._f q20 ⟨List.append._f (([] : List Step)) PUnit.unit, PUnit.unit⟩, List.append._f (([] : List Step)) PUnit.unit, PUnit.unit⟩, List.append._f q20 ⟨List.append._f (([] : List Step)) PUnit.unit, PUnit.unit⟩, List.append._f (([] : List Step)) PUnit.unit, PUnit.unit⟩, List.append._f q22 ⟨List.append._f q21 ⟨List.append._f q20 ⟨List.append._f (([] : List Step)) PUnit.unit, PUnit.unit⟩, List.append._f (([] : List Step)) PUnit.unit, PUnit.unit⟩, List.append._f q20 ⟨List.append._f (([] : List Step)) PUnit.unit, PUnit.unit⟩, List.append._f (([] : List Step)) PUnit.unit, PUnit.unit⟩, List.append._f q21 ⟨List.append._f q20 ⟨List.append._f (([] : List Step)) PUnit.unit, PUnit.unit⟩, List.append._f (([] : List Step)) PUnit.unit, PUnit.unit⟩, List.append._f q20 ⟨List.append._f (([] : List Step)) PUnit.unit, PUnit.unit⟩, List.append._f (([] : List Step)) PUnit.unit, PUnit.unit⟩, List.append._f (Step.fst :: List.append._f (([] : List Step)) PUnit.unit q22) ⟨List.append._f q22 ⟨List.append._f q21 ⟨List.append._f q20 ⟨List.append._f (([] : List Step)) PUnit.unit, PUnit.unit⟩, List.append._f (([] : List Step)) PUnit.unit, PUnit.unit⟩, List.append._f q20 ⟨List.append._f (([] : List Step)) PUnit.unit, PUnit.unit⟩, List.append._f (([] : List Step)) PUnit.unit, PUnit.unit⟩, List.append._f q21 ⟨List.append._f q20 ⟨List.append._f (([] : List Step)) PUnit.unit, PUnit.unit⟩, List.append._f (([] : List Step)) PUnit.unit, PUnit.unit⟩, List.append._f q20 ⟨List.append._f (([] : List Step)) PUnit.unit, PUnit.unit⟩, List.append._f (([] : List Step)) PUnit.unit, PUnit.unit⟩, List.append._f q22 ⟨List.append._f q21 ⟨List.append._f q20 ⟨List.append._f (([] : List Step)) PUnit.unit, PUnit.unit⟩, List.append._f (([] : List Step)) PUnit.unit, PUnit.unit⟩, List.append._f q20 ⟨List.append._f (([] : List Step)) PUnit.unit, PUnit.unit⟩, List.append._f (([] : List Step)) PUnit.unit, PUnit.unit⟩, List.append._f q21 ⟨List.append._f q20 ⟨List.append._f (([] : List Step)) PUnit.unit, PUnit.unit⟩, List.append._f (([] : List Step)) PUnit.unit, PUnit.unit⟩, List.append._f q20 ⟨List.append._f (([] : List Step)) PUnit.unit, PUnit.unit⟩, List.append._f (([] : List Step)) PUnit.unit, PUnit.unit⟩ q82;
    let q102 : Prop := q101 = q101 ∧ True;
    let q103 : Int := q96 - q5;
    let q104 : Nat := q45.toNat;
    let q105 : Int := q38.getD q76 q1;
    let q106 : Prop := inN q55 q36.length;
    let q107 : List Int := q36.getD q76 (([] : List tI.den));
    let q108 : Int := q105 - q5;
    let q109 : Bool := q48 == (4 : Int);
    let q110 : (List (List (Int × Int × Int × Unit)) × Unit) × List (Int × Int × List (Int × Int × Int × Bool × Unit) × List (List Int) × Unit) × List (List Int) × (List (Int × (Int × Int × Int × Unit) × Int × Unit) × List Int × List (List Int) × List Int × Unit) × Unit := Sp.flushM q89 y.1;
    let q111 : List (Int × Int × List (Int × Int × Int × Bool × Unit) × List (List Int) × Unit) × List (List Int) × (List (Int × (Int × Int × Int × Unit) × Int × Unit) × List Int × List (List Int) × List Int × Unit) × Unit := q110.2;
    let q112 : List (List Int) × (List (Int × (Int × Int × Int × Unit) × Int × Unit) × List Int × List (List Int) × List Int × Unit) × Unit := q111.2;
    let q113 : (List (Int × (Int × Int × Int × Unit) × Int × Unit) × List Int × List (List Int) × List Int × Unit) × Unit := q112.2;
    let q114 : List (Int × (Int × Int × Int × Unit) × Int × Unit) × List Int × List (List Int) × List Int × Unit := q113.1;
    let q115 : List Int × List (List Int) × List Int × Unit := q114.2;
    let q116 : List (List Int) × List Int × Unit := q115.2;
    let q117 : List Int × Unit := q116.2;
    let q118 : List Int := q117.1;
    Sp.OkM x ∧ Sp.inC x y.1 ∧ (Sp.co x.2.1 y.1).2.1 < (↑q40 : Int) → dFact ((((Ty.int IntKind.i64).prod ((Ty.int IntKind.i64).prod ((Ty.int IntKind.i64).prod Ty.unit))).slice.slice.prod Ty.unit).prod (((Ty.int IntKind.i64).prod ((Ty.int IntKind.i64).prod (((Ty.int IntKind.i64).prod ((Ty.int IntKind.i64).prod ((Ty.int IntKind.i32).prod (Ty.bool.prod Ty.unit)))).slice.prod ((Ty.arr q0 (Ty.int IntKind.i64).slice).prod Ty.unit)))).slice.prod ((Ty.int IntKind.i32).slice.slice.prod ((((Ty.int IntKind.i64).prod (((Ty.int IntKind.i64).prod ((Ty.int IntKind.i64).prod ((Ty.int IntKind.i64).prod Ty.unit))).prod ((Ty.int IntKind.i64).prod Ty.unit))).slice.prod ((Ty.int IntKind.i64).slice.prod ((Ty.int IntKind.i64).slice.slice.prod ((Ty.int IntKind.i64).slice.prod Ty.unit)))).prod Ty.unit)))) x → dFact (Ty.int IntKind.i64) y.1 ∧ True → ((True ∧ True ∧ True ∧ True ∧ True ∧ inN y.1 x.2.1.length ∧ True ∧ True) ∧ True) ∧ ((True ∧ True ∧ True ∧ True ∧ True ∧ True ∧ True ∧ True ∧ inK IntKind.i64 q45 ∧ True ∧ True ∧ True ∧ True ∧ True ∧ True ∧ inN y.1 x.1.1.length ∧ True ∧ True ∧ True ∧ True ∧ True ∧ inN q44 q40 ∧ q4) ∧ True ∧ True) ∧ ((True ∧ True ∧ True ∧ True ∧ inK IntKind.i64 q46 ∧ q3) ∧ True ∧ True) ∧ q6 ∧ q6 ∧ (q49 = true → q8 ∧ ((True ∧ True ∧ True ∧ True ∧ True ∧ True ∧ True ∧ True ∧ True ∧ True ∧ True ∧ (Sp.okS q54 x.2.2.1 ∧ q57) ∧ q15) ∧ True ∧ True) ∧ (q4 ∧ (q58 ∧ q59 ∧ q34 ∧ q16 ≤ q61 ∧ q61 ≤ q31) ∧ True) ∧ Sp.readM (x.1, q50.set y.1.toNat (q62, q63, q60.2.1, q64), x.2.2) q45 q61 = Sp.doM x y.1 ∧ q17) ∧ (q49 = false → q6 ∧ (q65 = true → ((True ∧ True ∧ True ∧ True ∧ True ∧ True ∧ True ∧ True ∧ q67 ∧ True ∧ (q54.length ≤ (1000 : Nat) ∧ q10) ∧ q3) ∧ True ∧ True) ∧ (((True ∧ True ∧ True ∧ True ∧ True ∧ True ∧ True ∧ True ∧ q68 ∧ True ∧ True ∧ True ∧ (↑(q77.length + q79) : Int) ≤ maxNew ∧ True ∧ True ∧ q68 ∧ True) ∧ True ∧ True ∧ True ∧ True ∧ True ∧ True ∧ True ∧ True ∧ True ∧ True ∧ True ∧ True ∧ ((True ∧ True ∧ True ∧ True ∧ True ∧ True ∧ True ∧ True ∧ True ∧ (Step.snd = Step.snd ∧ Step.fst = Step.fst ∧ Step.idx y.1.toNat = Step.idx y.1.toNat ∧ Step.snd = Step.snd ∧ q80) ∧ q15) ∧ q19) ∧ q4) ∧ q83 = q83 ∧ True) ∧ (x.1, q70.set y.1.toNat (q71.1, q72.1, q73.1, q75.set q76 (q77 ++ q78), q74.2), x.2.2) = Sp.doM x y.1 ∧ q17) ∧ (q65 = false → q6 ∧ (q84 = true → ((True ∧ True ∧ True ∧ True ∧ True ∧ True ∧ True ∧ ((Option.some q86).isSome = true ∧ q24 = q24 ∧ q85.length = (2 : Nat)) ∧ q14) ∧ True) ∧ q8 ∧ (q88 = true → (q4 ∧ (q90 ∧ q91 ∧ q9 ≤ q87 ∧ q87 < (↑q93.length : Int)) ∧ True) ∧ ((True ∧ True ∧ True ∧ True ∧ True ∧ True ∧ inN q1 q94.length ∧ True ∧ True ∧ True ∧ inN q55 q95.length ∧ True ∧ True) ∧ (q58 ∧ q59 ∧ q34 ∧ q16 ≤ q96 ∧ q96 ≤ q31) ∧ True) ∧ ((True ∧ True ∧ True ∧ True ∧ True ∧ True ∧ True ∧ True ∧ q67 ∧ True ∧ (Sp.okM q94 ∧ q10 ∧ q56 ∧ q55 < (↑(List.length (q94.getD q11 q12)) : Int)) ∧ q3) ∧ True ∧ True) ∧ (((True ∧ True ∧ True ∧ True ∧ True ∧ True ∧ True ∧ True ∧ True ∧ True ∧ True ∧ True ∧ True ∧ True ∧ q98 ∧ True ∧ True ∧ True ∧ (↑(q99.length + q79) : Int) ≤ maxNew ∧ q98 ∧ True) ∧ q100) ∧ q102) ∧ (x.1, q50.set y.1.toNat (Sp.eC q92 x.2.2.1 q87), Sp.setM q94 q55 q69, (Sp.readE q29 q45 q103, q33.set q104 q103, q97.set q76 (q99 ++ q78), q37), ()) = Sp.doM x y.1 ∧ q17) ∧ (q88 = false → ((True ∧ True ∧ True ∧ True ∧ True ∧ True ∧ inN q1 x.2.2.1.length ∧ True ∧ True ∧ True ∧ inN q55 q38.length ∧ True ∧ True) ∧ (q58 ∧ q59 ∧ q34 ∧ q16 ≤ q105 ∧ q105 ≤ q31) ∧ True) ∧ ((True ∧ True ∧ True ∧ True ∧ True ∧ True ∧ True ∧ True ∧ q67 ∧ True ∧ (Sp.okM x.2.2.1 ∧ q57) ∧ q3) ∧ True ∧ True) ∧ (((True ∧ True ∧ True ∧ True ∧ True ∧ True ∧ True ∧ True ∧ True ∧ True ∧ True ∧ True ∧ True ∧ True ∧ q106 ∧ True ∧ True ∧ True ∧ (↑(q107.length + q79) : Int) ≤ maxNew ∧ q106 ∧ True) ∧ q100) ∧ q102) ∧ (x.1, q50, Sp.setM x.2.2.1 q55 q69, (Sp.readE q29 q45 q108, q33.set q104 q108, q36.set q76 (q107 ++ q78), q37), ()) = Sp.doM x y.1 ∧ q17)) ∧ (q84 = false → q6 ∧ (q109 = true → (q3 ∧ (q90 ∧ q91) ∧ True) ∧ (q18 ∧ (↑(q118.length + q79) : Int) ≤ maxNew ∧ True ∧ True ∧ True ∧ q27 = q27 ∧ True) ∧ (q110.1, q111.1, q112.1, (q114.1, q115.1, q116.1, q118 ++ q78, q117.2), q113.2) = Sp.doM x y.1 ∧ q17) ∧ (q109 = false → q89 = Sp.doM x y.1 ∧ q17))))) := by kernel_rfl
end Go.User
namespace Sp
theorem getD_set_self {α : Type} {l : List α} {i : Nat} {a d : α} (h : i < l.length) : (l.set i a).getD i d = a := by
  rw [List.getD_eq_getElem?_getD, List.getElem?_set_self h]; rfl
theorem getD_set_ne {α : Type} {l : List α} {i j : Nat} {a d : α} (h : i ≠ j) : (l.set i a).getD j d = l.getD j d := by
  rw [List.getD_eq_getElem?_getD, List.getElem?_set_ne h, List.getD_eq_getElem?_getD]
theorem inC_lt {s : Mach} {n : Int} (h : inC s n) : n.toNat < s.2.1.length := by have := h.1; have := h.2; omega
theorem co_set {l : List Core} {n : Int} {a : Core} (h : n.toNat < l.length) : co (l.set n.toNat a) n = a := getD_set_self h
theorem sum_set {α : Type} (f : α → Nat) (d : α) : ∀ (l : List α) (i : Nat) (a : α), i < l.length → ((l.set i a).map f).sum + f (l.getD i d) = (l.map f).sum + f a
  | x :: l, 0, a, _ => by simp; omega
  | x :: l, i + 1, a, h => by
    have := sum_set f d l i a (by simpa using h)
    simp only [List.set_cons_succ, List.map_cons, List.sum_cons, List.getD_cons_succ]
    omega
theorem dn_set {l : List Core} {n : Int} {a : Core} (h : n.toNat < l.length) : dn (l.set n.toNat a) + (co l n).2.1.toNat = dn l + a.2.1.toNat := sum_set (fun c : Core => c.2.1.toNat) co0 l n.toNat a h
theorem pn_set {l : List Core} {n : Int} {a : Core} (x : Nat) (h : n.toNat < l.length) : pn x (l.set n.toNat a) + ((co l n).2.2.2.1.getD x []).length = pn x l + (a.2.2.2.1.getD x []).length := sum_set (fun c : Core => (c.2.2.2.1.getD x []).length) co0 l n.toNat a h
theorem sum_le {α : Type} (f : α → Nat) (b : Nat) : ∀ (l : List α), (∀ x ∈ l, f x ≤ b) → (l.map f).sum ≤ l.length * b
  | [], _ => by simp
  | x :: l, h => by
    have h1 := h x (by simp)
    have h2 := sum_le f b l (fun y hy => h y (by simp [hy]))
    simp only [List.map_cons, List.sum_cons, List.length_cons, Nat.add_mul, Nat.one_mul]
    omega
theorem nodup_lt : ∀ (k : Nat) {l : List Int}, l.Nodup → (∀ x ∈ l, 0 ≤ x ∧ x < k) → l.length ≤ k
  | 0, l, _, h => by
    cases l with
    | nil => exact Nat.le_refl _
    | cons x l => have := h x (by simp); omega
  | k + 1, l, hn, h => by
    by_cases hk : (k : Int) ∈ l
    · have h1 := nodup_lt k (hn.erase (k : Int)) (fun x hx => by
        have h2 := (hn.mem_erase_iff).1 hx
        have h3 := h x h2.2
        have h4 := h2.1
        omega)
      rw [List.length_erase_of_mem hk] at h1
      omega
    · have := nodup_lt k hn (fun x hx => by
        have h3 := h x hx
        have : x ≠ (k : Int) := fun e => hk (e ▸ hx)
        omega)
      omega
theorem nodup3 {l : List Int} (hn : l.Nodup) (h : ∀ x ∈ l, 0 ≤ x ∧ x < 3) : l.length ≤ 3 := nodup_lt 3 hn h
theorem OkM.okM {s : Mach} (h : OkM s) : Sp.okM s.2.2.1 ∧ (s.2.2.1.getD 0 []).length = 3 := by
  obtain ⟨l, h1, h2, _⟩ := h.mem
  rw [h1]
  exact ⟨⟨rfl, by show l.length ≤ 1000; omega⟩, h2⟩
theorem OkM.at {s : Mach} (h : OkM s) {n : Int} (hn : inC s n) : okCore s.2.2.2.1.1.length s.2.2.1 (s.1.1.getD n.toNat []) (co s.2.1 n) := h.core n.toNat (inC_lt hn)
theorem okCore.few {n : Nat} {m : Memo} {l : List LOp} {c : Core} (h : okCore n m l c) (hm : (m.getD 0 []).length = 3) : c.2.2.1.length ≤ 3 := by
  obtain ⟨_, _, _, _, h1, h2, _⟩ := h
  have := nodup3 h2 (by
    intro x hx
    obtain ⟨w, hw, rfl⟩ := List.mem_map.1 hx
    have := h1.2.2 w hw
    exact ⟨this.2.1, by omega⟩)
  simpa using this
theorem OkM.done_le {s : Mach} (h : OkM s) : dn s.2.1 ≤ 1000000 := by
  have h1 : dn s.2.1 ≤ s.2.1.length * 1000 := sum_le _ 1000 _ (by
    intro c hc
    obtain ⟨i, hi, rfl⟩ := List.mem_iff_getElem.1 hc
    have := h.core i hi
    rw [getD_at hi] at this
    have := this.2.2.2
    have := h.ev
    obtain ⟨h1, h2, h3, h4, _⟩ := h.core i hi
    rw [getD_at hi] at h1 h2 h3 h4
    omega)
  have := h.few
  have : s.2.1.length * 1000 ≤ 1000 * 1000 := Nat.mul_le_mul_right _ this
  omega
theorem okCore.mem {n : Nat} {m m' : Memo} {l : List LOp} {c : Core} (h : okCore n m l c) (h1 : Sp.okM m') (h2 : (m'.getD 0 []).length = (m.getD 0 []).length) : okCore n m' l c :=
  ⟨h.1, h.2.1, h.2.2.1, h.2.2.2.1, okS_mem h.2.2.2.2.1 h1 h2, h.2.2.2.2.2⟩
/-- One core changes, and the memory. -/
theorem OkM.upd {s : Mach} (h : OkM s) {n : Int} (hn : inC s n) {c' : Core} {m' : Memo} {g : Gr} (hm : ∃ l, m' = [l] ∧ l.length = 3 ∧ ∀ v ∈ l, 0 ≤ v ∧ v ≤ s.2.2.2.1.1.length) (hE : g.1.length = s.2.2.2.1.1.length) (hF : g.2.1.length = s.2.2.2.1.1.length)
    (hc : okCore s.2.2.2.1.1.length m' (s.1.1.getD n.toNat []) c') (hMo : g.2.2.1.length = 3) (hB : ∀ x, x < 3 → (g.2.2.1.getD x []).length + pn x (s.2.1.set n.toNat c') ≤ dn (s.2.1.set n.toNat c')) (hFo : g.2.2.2.1.length ≤ dn (s.2.1.set n.toNat c')) (u : Unit) :
    OkM (s.1, s.2.1.set n.toNat c', m', g, u) := by
  have hlt := inC_lt hn
  obtain ⟨l, e1, e2, e3⟩ := hm
  have hm' : Sp.okM m' ∧ (m'.getD 0 []).length = 3 := by rw [e1]; exact ⟨⟨rfl, by show l.length ≤ 1000; omega⟩, e2⟩
  refine ⟨⟨l, e1, e2, by rw [hE]; exact e3⟩, by rw [List.length_set]; exact h.len, ?_, h.ops, by rw [hE]; exact h.ev, by rw [hE]; exact hF, hMo, by rw [List.length_set]; exact h.few, hB, hFo⟩
  intro i hi
  have hi : i < s.2.1.length := by have hi : i < (s.2.1.set n.toNat c').length := hi
                                   rwa [List.length_set] at hi
  show okCore g.1.length m' (s.1.1.getD i []) ((s.2.1.set n.toNat c').getD i co0)
  rw [hE]
  by_cases e : n.toNat = i
  · subst e
    rw [getD_set_self hlt]; exact hc
  · rw [getD_set_ne e]
    exact (h.core i hi).mem hm'.1 (hm'.2.trans h.okM.2.symm)
theorem OkM.inc {s : Mach} (h : OkM s) {n : Int} (hn : inC s n) (hd : (co s.2.1 n).2.1 < (s.1.1.getD n.toNat []).length) : OkM (incD s n) := by
  obtain ⟨h1, h2, h3, h4, h5, h6, h7, h8⟩ := h.at hn
  have hlt := inC_lt hn
  have hdn := dn_set (a := ((co s.2.1 n).1, (co s.2.1 n).2.1 + 1, (co s.2.1 n).2.2)) hlt
  have hpn := fun x => pn_set (a := ((co s.2.1 n).1, (co s.2.1 n).2.1 + 1, (co s.2.1 n).2.2)) x hlt
  simp only at hdn hpn
  refine h.upd (c' := ((co s.2.1 n).1, (co s.2.1 n).2.1 + 1, (co s.2.1 n).2.2)) hn h.mem rfl h.from_ ⟨h1, by show 0 ≤ (co s.2.1 n).2.1 + 1; omega, by show (co s.2.1 n).2.1 + 1 ≤ _; omega, h4, h5, h6, h7, h8⟩ h.mo ?_ ?_ _
  · intro x hx
    have := h.moB x hx
    have := hpn x
    omega
  · have := h.foB
    omega
theorem incD_inC {s : Mach} {n k : Int} (h : inC s k) : inC (incD s n) k := ⟨h.1, by show k < ((s.2.1.set _ _).length : Int); rw [List.length_set]; exact h.2⟩
theorem wd_mem {c : List Word} {k : Int} (h0 : 0 ≤ k) (h1 : k < c.length) : wd c k ∈ c := by
  unfold wd; rw [getD_at (by omega)]; exact List.getElem_mem _
theorem nodup_del {l : List Word} {k : Int} (h : (l.map fun w => w.2.1).Nodup) : ((l.take k.toNat ++ l.drop (k + 1).toNat).map fun w => w.2.1).Nodup := by
  refine List.Sublist.nodup (List.Sublist.map _ ?_) h
  have h1 : List.Sublist (l.take k.toNat ++ l.drop (k + 1).toNat) (l.take k.toNat ++ l.drop k.toNat) := List.Sublist.append (List.Sublist.refl _) (by
    have : l.drop (k + 1).toNat = (l.drop k.toNat).drop ((k + 1).toNat - k.toNat) := by rw [List.drop_drop]; congr 1; omega
    rw [this]; exact List.drop_sublist _ _)
  rwa [List.take_append_drop] at h1
theorem mem_del {l : List Word} {k : Int} {w : Word} (h : w ∈ l.take k.toNat ++ l.drop (k + 1).toNat) : w ∈ l := by
  rcases List.mem_append.1 h with h | h
  · exact List.mem_of_mem_take h
  · exact List.mem_of_mem_drop h
theorem OkM.evict {s : Mach} (h : OkM s) {n k : Int} (hn : inC s n) (h0 : 0 ≤ k) (h1 : k < (co s.2.1 n).2.2.1.length) : OkM (evictM s n k) := by
  obtain ⟨g1, g2, g3, g4, g5, g6, g7, g8⟩ := h.at hn
  have hlt := inC_lt hn
  have hw := okS_wd g5 h0 h1
  have hv := g7 _ (wd_mem h0 h1)
  obtain ⟨l, e1, e2, e3⟩ := h.mem
  have h3 : (s.2.2.1.getD 0 []).length = 3 := h.okM.2
  rw [h3] at hw
  have hmb := okM_wback h.okM.1 (wd (co s.2.1 n).2.2.1 k)
  have hdn := dn_set (a := eC (co s.2.1 n) s.2.2.1 k) hlt
  have hpn := fun x => pn_set (a := eC (co s.2.1 n) s.2.2.1 k) x hlt
  have hdone : (eC (co s.2.1 n) s.2.2.1 k).2.1 = (co s.2.1 n).2.1 := rfl
  rw [hdone] at hdn
  refine h.upd (c' := eC (co s.2.1 n) s.2.2.1 k) (g := (s.2.2.2.1.1, s.2.2.2.1.2.1, eMo s.2.2.2.1.2.2.1 (co s.2.1 n) k, s.2.2.2.1.2.2.2.1, ())) hn ?_ rfl h.from_ ⟨g1, g2, g3, g4, okS_mem (okS_del g5 k) hmb.1 hmb.2, nodup_del g6, fun w hw => g7 w (mem_del hw), ?_⟩ ?_ ?_ ?_ _
  · unfold wback
    split
    · rw [e1, setM_one]
      refine ⟨_, rfl, by rw [List.length_set]; exact e2, fun v hv' => ?_⟩
      rcases List.mem_or_eq_of_mem_set hv' with h | h
      · exact e3 v h
      · rw [h]; exact hv
    · exact ⟨l, e1, e2, e3⟩
  · unfold eC
    simp only
    split
    · rw [List.length_set]; exact g8
    · exact g8
  · show (eMo s.2.2.2.1.2.2.1 (co s.2.1 n) k).length = 3
    unfold eMo
    split
    · rw [List.length_set]; exact h.mo
    · exact h.mo
  · intro x hx
    have hb := h.moB x hx
    have hp := hpn x
    show ((eMo s.2.2.2.1.2.2.1 (co s.2.1 n) k).getD x []).length + _ ≤ _
    unfold eC at hp hdn ⊢
    unfold eMo
    by_cases hd : (wd (co s.2.1 n).2.2.1 k).2.2.2.1 = true
    · simp only [hd, if_true] at hp hdn ⊢
      by_cases hx2 : (wd (co s.2.1 n).2.2.1 k).2.1.toNat = x
      · rw [hx2] at hp hdn ⊢
        rw [getD_set_self (by omega)] at hp
        rw [getD_set_self (by rw [h.mo]; omega), List.length_append]
        simp only [List.length_nil] at hp
        omega
      · rw [getD_set_ne hx2] at hp ⊢
        omega
    · simp only [hd, Bool.false_eq_true, if_false] at hp hdn ⊢
      omega
  · have := h.foB
    show s.2.2.2.1.2.2.2.1.length ≤ _
    omega
theorem evictM_inC {s : Mach} {n k j : Int} (h : inC s j) : inC (evictM s n k) j := ⟨h.1, by show j < ((s.2.1.set _ _).length : Int); rw [List.length_set]; exact h.2⟩
theorem evictM_cache {s : Mach} {n : Int} (hn : inC s n) (h1 : 0 < (co s.2.1 n).2.2.1.length) : (co (evictM s n 0).2.1 n).2.2.1.length = (co s.2.1 n).2.2.1.length - 1 := by
  show (co (s.2.1.set n.toNat _) n).2.2.1.length = _
  rw [co_set (inC_lt hn)]
  show ((co s.2.1 n).2.2.1.take 0 ++ (co s.2.1 n).2.2.1.drop 1).length = _
  simp
theorem flushM_step {s : Mach} {n : Int} (hn : inC s n) (h1 : 0 < (co s.2.1 n).2.2.1.length) : flushM (evictM s n 0) n = flushM s n := by
  unfold flushM
  rw [evictM_cache hn h1]
  obtain ⟨k, hk⟩ : ∃ k, (co s.2.1 n).2.2.1.length = k + 1 := ⟨_, (Nat.succ_pred_eq_of_pos h1).symm⟩
  rw [hk]; rfl
theorem flushM_nil {s : Mach} {n : Int} (h1 : (co s.2.1 n).2.2.1.length = 0) : flushM s n = s := by
  unfold flushM; rw [h1]; rfl
/-- What holds at the start and is kept by evictions holds behind a flush. -/
theorem flush_ind {p : Mach → Prop} {n : Int} : ∀ (k : Nat) {s : Mach}, OkM s → inC s n → (co s.2.1 n).2.2.1.length = k → p s →
    (∀ s, OkM s → inC s n → 0 < (co s.2.1 n).2.2.1.length → p s → p (evictM s n 0)) → p (flushM s n) ∧ OkM (flushM s n) ∧ inC (flushM s n) n ∧ (co (flushM s n).2.1 n).2.2.1 = []
  | 0, s, h, hn, hk, hp, hs => by
    rw [flushM_nil hk]
    exact ⟨hp, h, hn, List.eq_nil_of_length_eq_zero hk⟩
  | k + 1, s, h, hn, hk, hp, hs => by
    rw [← flushM_step hn (by omega)]
    exact flush_ind k (h.evict hn (by omega) (by omega)) (evictM_inC hn) (by rw [evictM_cache hn (by omega)]; omega) (hs s h hn (by omega) hp) hs
theorem readE_len (E : List LEv) (e f : Int) : (readE E e f).length = E.length := by
  unfold readE setR
  split
  · rfl
  · split
    · rw [List.length_set, List.length_set]
    · rw [List.length_set]
theorem OkM.read {s : Mach} (h : OkM s) (e w : Int) : OkM (readM s e w) := by
  obtain ⟨h1, h2, h3, h4, h5, h6, h7, h8, h9, h10⟩ := h
  have hl : (readM s e w).2.2.2.1.1.length = s.2.2.2.1.1.length := readE_len _ _ _
  refine ⟨by rw [hl]; exact h1, h2, by rw [hl]; exact h3, h4, by rw [hl]; exact h5, ?_, h7, h8, h9, h10⟩
  show (s.2.2.2.1.2.1.set _ _).length = _
  rw [List.length_set, hl]; exact h6
theorem fW_none {c : List Word} {i : Int} (h : ¬ 0 ≤ fW i c) (h0 : ∀ w ∈ c, w.1 = 0) : ∀ w ∈ c, w.2.1 ≠ i := by
  rcases fW_cases i c with ⟨_, h1⟩ | ⟨k, h1, _⟩
  · intro w hw e
    have := h1 w hw
    simp [atW, h0 w hw, e] at this
  · omega
theorem fW_some {c : List Word} {i : Int} (h : 0 ≤ fW i c) : fW i c < c.length ∧ (wd c (fW i c)).1 = 0 ∧ (wd c (fW i c)).2.1 = i := by
  rcases fW_cases i c with ⟨h1, _⟩ | ⟨k, h1, h2, _, h3⟩
  · omega
  · rw [h1]
    simp only [atW, Bool.and_eq_true, decide_eq_true_eq] at h3
    exact ⟨by omega, h3⟩
/-- A word is added to a cache that has none of its place. -/
theorem okCore.add {n : Nat} {m : Memo} {l : List LOp} {c : Core} (h : okCore n m l c) (hm : (m.getD 0 []).length = 3) {i v : Int} {d : Bool} (hi : 0 ≤ i ∧ i < 3) (hv : 0 ≤ v ∧ v ≤ n) (hn : ¬ 0 ≤ fW i c.2.2.1) {u : Unit} {w : Unit} :
    okCore n m l (c.1, c.2.1, c.2.2.1 ++ [(0, i, v, d, w)], c.2.2.2.1, u) := by
  have hf := h.few hm
  obtain ⟨g1, g2, g3, g4, g5, g6, g7, g8⟩ := h
  refine ⟨g1, g2, g3, g4, ⟨g5.1, ?_, ?_⟩, ?_, ?_, g8⟩
  · show (c.2.2.1 ++ [_]).length ≤ 1000
    rw [List.length_append, List.length_singleton]; omega
  · intro w hw
    rcases List.mem_append.1 hw with hw | hw
    · exact g5.2.2 w hw
    · rw [List.mem_singleton] at hw; rw [hw, hm]; exact ⟨rfl, hi.1, by show i < ((3 : Nat) : Int); omega⟩
  · show ((c.2.2.1 ++ [_]).map _).Nodup
    rw [List.map_append, List.nodup_append]
    refine ⟨g6, by simp, ?_⟩
    intro a ha b hb
    obtain ⟨w, hw, rfl⟩ := List.mem_map.1 ha
    simp only [List.map_cons, List.map_nil, List.mem_singleton] at hb
    subst hb
    exact fW_none hn (fun w hw => (g5.2.2 w hw).1) w hw
  · intro w hw
    rcases List.mem_append.1 hw with hw | hw
    · exact g7 w hw
    · rw [List.mem_singleton] at hw; rw [hw]; exact hv
/-- A word of a cache has another value. -/
theorem okCore.set {n : Nat} {m : Memo} {l : List LOp} {c : Core} (h : okCore n m l c) (hm : (m.getD 0 []).length = 3) {i v : Int} {d : Bool} (hi : 0 ≤ i ∧ i < 3) (hv : 0 ≤ v ∧ v ≤ n) (hn : 0 ≤ fW i c.2.2.1) {u : Unit} {w : Unit} :
    okCore n m l (c.1, c.2.1, c.2.2.1.set (fW i c.2.2.1).toNat (0, i, v, d, w), c.2.2.2.1, u) := by
  obtain ⟨g1, g2, g3, g4, g5, g6, g7, g8⟩ := h
  obtain ⟨k1, k2, k3⟩ := fW_some hn
  refine ⟨g1, g2, g3, g4, ⟨g5.1, ?_, ?_⟩, ?_, ?_, g8⟩
  · show (c.2.2.1.set _ _).length ≤ 1000
    rw [List.length_set]; exact g5.2.1
  · intro w hw
    rcases List.mem_or_eq_of_mem_set hw with hw | hw
    · exact g5.2.2 w hw
    · rw [hw, hm]; exact ⟨rfl, hi.1, by show i < ((3 : Nat) : Int); omega⟩
  · show ((c.2.2.1.set _ _).map _).Nodup
    have : (c.2.2.1.set (fW i c.2.2.1).toNat (0, i, v, d, w)).map (fun w => w.2.1) = c.2.2.1.map (fun w => w.2.1) := by
      rw [List.map_set]
      show (c.2.2.1.map fun w => w.2.1).set _ i = _
      have hlt : (fW i c.2.2.1).toNat < c.2.2.1.length := by omega
      have hlt' : (fW i c.2.2.1).toNat < (c.2.2.1.map fun w => w.2.1).length := by rw [List.length_map]; exact hlt
      have hkey : (c.2.2.1.map fun w => w.2.1)[(fW i c.2.2.1).toNat] = i := by
        rw [List.getElem_map]
        unfold wd at k3
        rw [getD_at hlt] at k3
        exact k3
      have := List.set_getElem_self hlt'
      rw [hkey] at this
      exact this
    rw [this]; exact g6
  · intro w hw
    rcases List.mem_or_eq_of_mem_set hw with hw | hw
    · exact g7 w hw
    · rw [hw]; exact hv
theorem mget_mem {s : Mach} (h : OkM s) {i : Int} (hi : 0 ≤ i ∧ i < 3) : 0 ≤ mget s.2.2.1 i ∧ mget s.2.2.1 i ≤ s.2.2.2.1.1.length := by
  obtain ⟨l, e1, e2, e3⟩ := h.mem
  unfold mget
  rw [e1]
  show 0 ≤ l.getD i.toNat 0 ∧ l.getD i.toNat 0 ≤ _
  rw [getD_at (by omega)]
  exact e3 _ (List.getElem_mem _)
theorem load_val {s : Mach} (h : OkM s) {n x : Int} (hn : inC s n) (hx : 0 ≤ x ∧ x < 3) : 0 ≤ (load (co s.2.1 n).2.2.1 s.2.2.1 x).1 ∧ (load (co s.2.1 n).2.2.1 s.2.2.1 x).1 ≤ s.2.2.2.1.1.length := by
  obtain ⟨g1, g2, g3, g4, g5, g6, g7, g8⟩ := h.at hn
  unfold load
  split
  · rename_i hf
    have := fW_lt x (co s.2.1 n).2.2.1
    exact g7 _ (wd_mem hf this)
  · exact mget_mem h hx
theorem pend_le {s : Mach} (h : OkM s) {n : Int} (hn : inC s n) {x : Nat} (hx : x < 3) : (s.2.2.2.1.2.2.1.getD x []).length + ((co s.2.1 n).2.2.2.1.getD x []).length ≤ 1000000 := by
  have hb := h.moB x hx
  have hd := h.done_le
  have hp := pn_set (a := co0) x (inC_lt hn)
  have : ((co0.2.2.2.1).getD x []).length = 0 := by
    match x, hx with
    | 0, _ => rfl
    | 1, _ => rfl
    | 2, _ => rfl
  omega
theorem fo_le {s : Mach} (h : OkM s) : s.2.2.2.1.2.2.2.1.length ≤ 1000000 := Nat.le_trans h.foB h.done_le
theorem ev_lt {s : Mach} (h : OkM s) {n : Int} (hn : inC s n) (hd : (co s.2.1 n).2.1 < (s.1.1.getD n.toNat []).length) : 0 ≤ (co s.2.1 n).1 + (co s.2.1 n).2.1 ∧ (co s.2.1 n).1 + (co s.2.1 n).2.1 < s.2.2.2.1.1.length := by
  obtain ⟨g1, g2, g3, g4, _⟩ := h.at hn
  omega
theorem op_ok {s : Mach} (h : OkM s) {n : Int} (hn : inC s n) (hd : (co s.2.1 n).2.1 < (s.1.1.getD n.toNat []).length) : 0 ≤ (opAt s n).2.1 ∧ (opAt s n).2.1 < 3 := by
  obtain ⟨g1, g2, g3, g4, _⟩ := h.at hn
  have hlt := inC_lt hn
  refine h.ops (s.1.1.getD n.toNat []) ?_ _ ?_
  · rw [getD_at (by rw [← h.len]; exact hlt)]; exact List.getElem_mem _
  · unfold opAt
    have : (co s.2.1 n).2.1.toNat < (s.1.1.getD n.toNat []).length := by omega
    rw [getD_at this]; exact List.getElem_mem _
theorem wrap_small {z : Int} (h0 : 0 ≤ z) (h1 : z ≤ 1000000) : Go.IntKind.wrap .i32 z = z := Go.Lf.inK_wrap (k := .i32) ⟨by show (-2147483648 : Int) ≤ z; omega, by show z ≤ 2147483647; omega⟩
theorem OkM.setCache {s : Mach} (h : OkM s) {n : Int} (hn : inC s n) {c : List Word} (hc : okCore s.2.2.2.1.1.length s.2.2.1 (s.1.1.getD n.toNat []) ((co s.2.1 n).1, (co s.2.1 n).2.1, c, (co s.2.1 n).2.2.2)) : OkM (setCache s n c) := by
  have hlt := inC_lt hn
  have hdn := dn_set (a := ((co s.2.1 n).1, (co s.2.1 n).2.1, c, (co s.2.1 n).2.2.2)) hlt
  have hpn := fun x => pn_set (a := ((co s.2.1 n).1, (co s.2.1 n).2.1, c, (co s.2.1 n).2.2.2)) x hlt
  simp only at hdn hpn
  refine h.upd (c' := ((co s.2.1 n).1, (co s.2.1 n).2.1, c, (co s.2.1 n).2.2.2)) hn h.mem rfl h.from_ hc h.mo ?_ ?_ _
  · intro x hx
    have := h.moB x hx
    have := hpn x
    omega
  · have := h.foB
    omega
end Sp
namespace Go.User
open Go.Proofs Go.Lf
set_option maxRecDepth 100000
theorem vc45 : (funI C45 (stpR C45) S45 L45 Try.f45) = (
let q0 : Int := (0 : (AK.val tI).den);
let q1 : List Int := ([] : List (Ty.int IntKind.i32).den);
let q2 : Nat := (1000000 : Nat);
∀ (x : List (List Int) × Int × Int × Int × Unit),
  let q3 : Nat := x.1.length;
  let q4 : Prop := inN x.2.1 q3;
  let q5 : List Int := x.1.getD x.2.1.toNat q1;
  let q6 : List (List Int) := q5 :: ([] : List (Ty.int IntKind.i32).slice.den);
  let q7 : List Int := q6.getD x.2.1.toNat q1;
  Sp.okM x.1 ∧ x.2.1 = q0 ∧ q0 ≤ x.2.2.1 ∧ x.2.2.1 < (↑(List.length (x.1.getD (0 : Nat) q1)) : Int) → dFact (Ty.int IntKind.i32).slice.slice x.1 ∧ dFact (Ty.int IntKind.i64) x.2.1 ∧ dFact (Ty.int IntKind.i64) x.2.2.1 ∧ dFact (Ty.int IntKind.i32) x.2.2.2.1 ∧ True → ((True ∧ True) ∧ True) ∧ ((True ∧ q3 ≤ q2 ∧ True) ∧ True ∧ True) ∧ ((True ∧ True ∧ True ∧ True ∧ q4 ∧ True ∧ q5.length ≤ q2 ∧ q4 ∧ True) ∧ q3 = (1 : Nat) ∧ True) ∧ ((True ∧ True ∧ inN x.2.1 q6.length ∧ True ∧ True ∧ True ∧ inN x.2.2.1 q7.length ∧ True) ∧ True ∧ True) ∧ ((True ∧ True ∧ True) ∧ True) ∧ q6.set x.2.1.toNat (q7.set x.2.2.1.toNat x.2.2.2.1) = Sp.setM x.1 x.2.2.1 x.2.2.2.1) := by kernel_rfl
theorem vc43 : (funI C43 (stpR C43) S43 L43 Try.f43) = (
let q0 : Int := (0 : (AK.val tI).den);
let q1 : Prop := True ∧ True ∧ True;
let q2 : Prop := q1 ∧ True;
let q3 : Int := (0 : Int);
let q4 : Int × Int × Int × Bool × Unit := (q3, q3, q3, false, ());
∀ (x : List (Int × Int × Int × Bool × Unit) × List (List Int) × Int × Unit),
  let q5 : Prop := q0 ≤ x.2.2.1;
  let q6 : Nat := x.1.length;
  let q7 : Int := (↑q6 : Int);
  let q8 : Nat := x.2.2.1.toNat;
  let q9 : Int × Int × Int × Bool × Unit := x.1.getD q8 q4;
  let q10 : Int × Int × Bool × Unit := q9.2;
  let q11 : Int × Bool × Unit := q10.2;
  let q12 : Bool := q11.2.1;
  let q13 : Int := q10.1;
  let q14 : Prop := q6 ≤ (1000000 : Nat);
  let q15 : Int := x.2.2.1 + (1 : Int);
  let q16 : Prop := (True ∧ q14 ∧ True ∧ True ∧ inK IntKind.i64 q15 ∧ True) ∧ (q5 ∧ x.2.2.1 < q15 ∧ q15 ≤ q7 ∧ q14) ∧ True ∧ q1;
  let q17 : List (Int × Int × Int × Bool × Unit) := List.take q8 x.1 ++ List.drop q15.toNat x.1;
  let q18 : List (Int × Int × Int × Bool × Unit) × List (List Int) × Unit := Sp.evict x.1 x.2.1 x.2.2.1;
  Sp.okS x.1 x.2.1 ∧ q5 ∧ x.2.2.1 < q7 → dFact ((Ty.int IntKind.i64).prod ((Ty.int IntKind.i64).prod ((Ty.int IntKind.i32).prod (Ty.bool.prod Ty.unit)))).slice x.1 ∧ dFact (Ty.int IntKind.i32).slice.slice x.2.1 ∧ dFact (Ty.int IntKind.i64) x.2.2.1 ∧ True → q2 ∧ ((True ∧ True ∧ inN x.2.2.1 q6 ∧ q1) ∧ True ∧ True) ∧ q2 ∧ (q12 = true → ((True ∧ True ∧ True ∧ True ∧ True ∧ True ∧ True ∧ (Sp.okM x.2.1 ∧ q9.1 = q0 ∧ q0 ≤ q13 ∧ q13 < (↑(List.length (x.2.1.getD (0 : Nat) (([] : List (Ty.int IntKind.i32).den)))) : Int)) ∧ True ∧ True) ∧ True) ∧ q16 ∧ (q17, Sp.setM x.2.1 q13 q11.1, ()) = q18) ∧ (q12 = false → q16 ∧ (q17, x.2.1, ()) = q18)) := by kernel_rfl
theorem vc19 : (funI C19 (stpR C19) S19 L19 Try.f19) = (
let q0 : Int := (0 : (AK.val tI).den);
let q1 : List Int := ([] : List (Ty.int IntKind.i32).den);
let q2 : Prop := True ∧ True ∧ True;
let q3 : Nat := (55 : Go.FuncId);
let q4 : Prop := True ∧ True ∧ True ∧ q2;
let q5 : Int := (0 : Int);
let q6 : Bool × Unit := (false, ());
∀ (x : List (Int × Int × Int × Bool × Unit) × List (List Int) × Int × Int × Unit),
  let q7 : List Int := x.2.2.1 :: x.2.2.2.1 :: ([] : List Int);
  let q8 : Nat × List Int := (q3, q7);
  let q9 : Int := Sp.findW (Sp.cloW q8) x.1;
  let q10 : Bool := decide (q5 ≤ q9);
  let q11 : Nat := x.1.length;
  let q12 : Int × List (Int × Int × Int × Bool × Unit) × Unit := Sp.load x.1 x.2.1 x.2.2.2.1;
  let q13 : Prop := inN x.2.2.1 x.2.1.length;
  let q14 : List Int := x.2.1.getD x.2.2.1.toNat q1;
  let q15 : Prop := inN x.2.2.2.1 q14.length;
  let q16 : Int := q14.getD x.2.2.2.1.toNat q5;
  let q17 : List (Int × Int × Int × Bool × Unit) := (x.2.2.1, x.2.2.2.1, q16, q6) :: ([] : List tW.den);
  Sp.okS x.1 x.2.1 ∧ x.2.2.1 = q0 ∧ q0 ≤ x.2.2.2.1 ∧ x.2.2.2.1 < (↑(List.length (x.2.1.getD (0 : Nat) q1)) : Int) → dFact ((Ty.int IntKind.i64).prod ((Ty.int IntKind.i64).prod ((Ty.int IntKind.i32).prod (Ty.bool.prod Ty.unit)))).slice x.1 ∧ dFact (Ty.int IntKind.i32).slice.slice x.2.1 ∧ dFact (Ty.int IntKind.i64) x.2.2.1 ∧ dFact (Ty.int IntKind.i64) x.2.2.2.1 ∧ True → (q2 ∧ True) ∧ ((True ∧ True ∧ True ∧ True ∧ ((Option.some q8).isSome = true ∧ q3 = q3 ∧ q7.length = (2 : Nat)) ∧ q4) ∧ True) ∧ ((True ∧ True) ∧ True) ∧ (q10 = true → ((True ∧ True ∧ inN q9 q11 ∧ q4) ∧ True) ∧ ((x.1.getD q9.toNat (q5, q5, q5, q6)).2.2.1, x.1, ()) = q12) ∧ (q10 = false → ((True ∧ True ∧ q13 ∧ True ∧ True ∧ q15 ∧ True ∧ True ∧ q11 ≤ (1000000 : Nat) ∧ True ∧ True ∧ True ∧ True ∧ q13 ∧ True ∧ True ∧ q15 ∧ True ∧ True ∧ True ∧ (↑(q11 + q17.length) : Int) ≤ maxNew ∧ q2) ∧ True) ∧ (q16, x.1 ++ q17, ()) = q12)) := by kernel_rfl
theorem vc20 : (funI C20 (stpR C20) S20 L20 Try.f20) = (
let q0 : Prop := (True ∧ True) ∧ True;
let q1 : Prop := True ∧ True ∧ True;
let q2 : Prop := True ∧ q1;
let q3 : Prop := True ∧ True ∧ q2;
let q4 : Nat := (55 : Go.FuncId);
∀ (x : List (Int × Int × Int × Bool × Unit) × Int × Int × Int × Unit),
  let q5 : Nat := x.1.length;
  let q6 : List Int := x.2.1 :: x.2.2.1 :: ([] : List Int);
  let q7 : Nat × List Int := (q4, q6);
  let q8 : Int := Sp.findW (Sp.cloW q7) x.1;
  let q9 : Bool := decide ((0 : Int) ≤ q8);
  let q10 : Int × Int × Int × Bool × Unit := (x.2.1, x.2.2.1, x.2.2.2.1, true, ());
  let q11 : List (Int × Int × Int × Bool × Unit) := Sp.store x.1 x.2.2.1 x.2.2.2.1;
  let q12 : List (Int × Int × Int × Bool × Unit) := q10 :: ([] : List tW.den);
  q5 ≤ (1000 : Nat) ∧ x.2.1 = (0 : (AK.val tI).den) → dFact ((Ty.int IntKind.i64).prod ((Ty.int IntKind.i64).prod ((Ty.int IntKind.i32).prod (Ty.bool.prod Ty.unit)))).slice x.1 ∧ dFact (Ty.int IntKind.i64) x.2.1 ∧ dFact (Ty.int IntKind.i64) x.2.2.1 ∧ dFact (Ty.int IntKind.i32) x.2.2.2.1 ∧ True → q0 ∧ ((True ∧ q5 ≤ (1000000 : Nat) ∧ True) ∧ True ∧ True) ∧ (q3 ∧ True ∧ True) ∧ ((True ∧ True ∧ True ∧ True ∧ ((Option.some q7).isSome = true ∧ q4 = q4 ∧ q6.length = (2 : Nat)) ∧ q3) ∧ True) ∧ q0 ∧ (q9 = true → ((True ∧ True ∧ True ∧ inN q8 q5 ∧ True) ∧ True ∧ True) ∧ (q1 ∧ True) ∧ x.1.set q8.toNat q10 = q11) ∧ (q9 = false → (q2 ∧ (↑(q5 + q12.length) : Int) ≤ maxNew ∧ True ∧ True) ∧ x.1 ++ q12 = q11)) := by kernel_rfl
end Go.User
namespace Go.User
open Go.Lf Go.Proofs

theorem ins_56 : ∀ f s, Lf.look [((56 : FuncId), S56)] f = some s → IOk Try.prog f s := by
  intro f s hs
  simp only [Lf.look] at hs
  cases hb : Nat.beq 56 f
  · rw [hb] at hs; cases hs
  · rw [hb] at hs
    have := Nat.eq_of_beq_eq_true hb
    simp only [cond_true, Option.some.injEq] at hs
    rw [← this, ← hs]; exact ok56
theorem okD {C : Ctx} (h : ∀ f s, Lf.look C.fns f = some s → FOk Try.prog f s) (h1 : C.tys = tysQ 0) (h2 : C.eqs = eqs) (h3 : C.ptrs = []) (h4 : C.thk = none) (h5 : C.clo = some tClo) (h6 : C.ins = [(56, S56)]) : CtxOK Try.prog C :=
  ctx_okQ 0 h1 h2 h (by rw [h3]; exact ptrs_nil) (fun _ h => by rw [h4] at h; cases h) (fun t h => by rw [h5] at h; injection h with h; subst h; exact clo_ok) (by rw [h6]; exact ins_56)
theorem ok45 : FOk Try.prog 45 S45 := by
  have hC : CtxOK Try.prog C45 := okD (fns_cons ok60 (fns_cons ok61 fns_nil)) rfl rfl rfl rfl rfl rfl
  refine FOk.intro hC (stpR_ok hC) Try.call45 Try.func45 (by kernel_rfl) (by kernel_rfl) L45 (vc45.mpr ?_)
  simp only [z1, z2, z3, z4, z5, z6, z7, z8, z9, z10, z11, z12, z13, z14, z15, z16, z17, z18, z19, z20, z21, z22, z23, z24, z25, z26, z27, z28, z29, z30, z31, z32, z33, z34, z35, z36, z37, z38]
  rintro ⟨m, a, i, v, u⟩ ⟨hm, ha, h0, h1⟩ hx
  change a = 0 at ha
  subst ha
  obtain ⟨l, rfl, hl⟩ := Sp.okM_one hm
  simp only [List.length_cons, List.length_nil, List.getD_cons_zero, Int.toNat_zero] at *
  refine ⟨by omega, ⟨⟨⟨by omega, by omega⟩, by omega, by omega, by omega⟩, trivial⟩, ⟨⟨by omega, by omega⟩, h0, h1⟩, rfl⟩
theorem ok43 : FOk Try.prog 43 S43 := by
  have hC : CtxOK Try.prog C43 := okD (fns_cons ok45 (fns_cons ok42 fns_nil)) rfl rfl rfl rfl rfl rfl
  refine FOk.intro hC (stpR_ok hC) Try.call43 Try.func43 (by kernel_rfl) (by kernel_rfl) L43 (vc43.mpr ?_)
  simp only [z1, z2, z3, z4, z5, z6, z7, z8, z9, z10, z11, z12, z13, z14, z15, z16, z17, z18, z19, z20, z21, z22, z23, z24, z25, z26, z27, z28, z29, z30, z31, z32, z33, z34, z35, z36, z37, z38]
  rintro ⟨c, m, k, u⟩ ⟨hs, h0, h1⟩ hx
  have hw := Sp.okS_wd hs h0 h1
  have hl := hs.2.1
  simp only at h0 h1 hl hw ⊢
  refine ⟨⟨h0, h1⟩, fun hd => ⟨⟨hs.1, hw⟩, ⟨⟨by omega, inK_of (by omega) (by omega)⟩, h0, by omega, by omega, by omega⟩, ?_⟩, fun hd => ⟨⟨⟨by omega, inK_of (by omega) (by omega)⟩, h0, by omega, by omega, by omega⟩, ?_⟩⟩
  · unfold Sp.evict Sp.wback Sp.wd Sp.wd0
    rw [if_pos hd]
  · unfold Sp.evict Sp.wback Sp.wd Sp.wd0
    rw [if_neg (by rw [hd]; simp)]
theorem ok19 : FOk Try.prog 19 S19 := by
  have hC : CtxOK Try.prog C19 := okD (fns_cons ok41 (fns_cons ok40 (fns_cons ok42 fns_nil))) rfl rfl rfl rfl rfl rfl
  refine FOk.intro hC (stpR_ok hC) Try.call19 Try.func19 (by kernel_rfl) (by kernel_rfl) L19 (vc19.mpr ?_)
  simp only [z1, z2, z3, z4, z5, z6, z7, z8, z9, z10, z11, z12, z13, z14, z15, z16, z17, z18, z19, z20, z21, z22, z23, z24, z25, z26, z27, z28, z29, z30, z31, z32, z33, z34, z35, z36, z37, z38]
  rintro ⟨c, m, a, i, u⟩ ⟨hs, ha, h0, h1⟩ hx
  change a = 0 at ha
  subst ha
  have hl := hs.2.1
  have hlt := Sp.fW_lt i c
  have hm := hs.1.1
  have e1 : Sp.findW (Sp.cloW (55, [0, i])) c = Sp.fW i c := rfl
  simp only [e1] at h0 h1 hl hm ⊢
  refine ⟨⟨rfl, rfl⟩, fun h => ⟨⟨h, hlt⟩, ?_⟩, fun h => ⟨⟨⟨by omega, by omega⟩, ⟨h0, h1⟩, by omega, ⟨by omega, by omega⟩, ⟨h0, h1⟩, by rw [maxNew_eq]; omega⟩, ?_⟩⟩
  · unfold Sp.load; rw [if_pos h]; rfl
  · unfold Sp.load; rw [if_neg (by omega)]; rfl
theorem ok20 : FOk Try.prog 20 S20 := by
  have hC : CtxOK Try.prog C20 := okD (fns_cons ok41 (fns_cons ok40 (fns_cons ok42 fns_nil))) rfl rfl rfl rfl rfl rfl
  refine FOk.intro hC (stpR_ok hC) Try.call20 Try.func20 (by kernel_rfl) (by kernel_rfl) L20 (vc20.mpr ?_)
  simp only [z1, z2, z3, z4, z5, z6, z7, z8, z9, z10, z11, z12, z13, z14, z15, z16, z17, z18, z19, z20, z21, z22, z23, z24, z25, z26, z27, z28, z29, z30, z31, z32, z33, z34, z35, z36, z37, z38]
  rintro ⟨c, a, i, v, u⟩ ⟨hl, ha⟩ hx
  change a = 0 at ha
  subst ha
  have hlt := Sp.fW_lt i c
  have e1 : Sp.findW (Sp.cloW (55, [0, i])) c = Sp.fW i c := rfl
  simp only [e1] at hl ⊢
  refine ⟨by omega, ⟨rfl, rfl⟩, fun h => ⟨⟨h, hlt⟩, ?_⟩, fun h => ⟨by rw [maxNew_eq]; omega, ?_⟩⟩
  · unfold Sp.store; rw [if_pos h]
  · unfold Sp.store; rw [if_neg (by omega)]
end Go.User
namespace Go.User
open Go.Lf Go.Proofs

theorem ptr_cons {P : Program} {C : Ctx} {g : FuncId} {t : PSpec} {l : List (FuncId × PSpec)} (h : POk P g t) (hl : ∀ f s, Lf.look l f = some s → ∃ o, POk P f s o ∧ ∀ q, o = some q → C.pin.isSome = true ∧ q = C.q) :
    ∀ f s, Lf.look ((g, t) :: l) f = some s → ∃ o, POk P f s o ∧ ∀ q, o = some q → C.pin.isSome = true ∧ q = C.q := by
  intro f s hs
  simp only [Lf.look] at hs
  cases hb : Nat.beq g f
  · rw [hb] at hs; exact hl f s hs
  · rw [hb] at hs
    have := Nat.eq_of_beq_eq_true hb
    simp only [cond_true, Option.some.injEq] at hs
    rw [← this, ← hs]; exact ⟨none, h, fun q hq => by cases hq⟩
theorem okM' {C : Ctx} (q : Nat) (h : ∀ f s, Lf.look C.fns f = some s → FOk Try.prog f s) (hp : ∀ f s, Lf.look C.ptrs f = some s → ∃ o, POk Try.prog f s o ∧ ∀ q, o = some q → C.pin.isSome = true ∧ q = C.q) (h1 : C.tys = tysQ q) (h2 : C.eqs = eqs) (h4 : C.thk = none) (h5 : C.clo = some tClo) (h6 : C.ins = []) : CtxOK Try.prog C :=
  ctx_okQ q h1 h2 h hp (fun _ h => by rw [h4] at h; cases h) (fun t h => by rw [h5] at h; injection h with h; subst h; exact clo_ok) (by rw [h6]; exact ins_nil)
theorem inK_mid {z : Int} (h0 : -1000000 ≤ z) (h1 : z ≤ 1000000) : inK .i64 z := inK_of (by omega) (by omega)
theorem pk62 : POk Try.prog 62 S62 := by
  have hC : ∀ q, CtxOK Try.prog (C62 q) := fun q => okM' q fns_nil ptrs_nil rfl rfl rfl rfl rfl
  refine POk.intro hC (fun q => stpR_ok (hC q)) Try.call62 Try.func62 (fun q => rfl) (by kernel_rfl) L62 (vc62.mpr ?_)
  simp only [z1, z2, z3, z4, z5, z6, z7, z8, z9, z10, z11, z12, z13, z14, z15, z16, z17, z18, z19, z20, z21, z22, z23, z24, z25, z26, z27, z28, z29, z30, z31, z32, z33, z34, z35, z36, z37, z38]
  rintro ⟨t, cs, m, ⟨E, Fr, Mo, Fo, u1⟩, u2⟩ ⟨e, w, u3⟩ ⟨h0, h1, h2, h3, h4⟩ hx hy
  change Int at e
  change Int at w
  have h0 : 0 ≤ e := h0
  have h1 : e < (E.length : Int) := h1
  have h2 : Fr.length = E.length := h2
  have h3 : 0 ≤ w := h3
  have h4 : w ≤ (E.length : Int) := h4
  have hE : E.length ≤ lim := by
    have := hx.2.2.2.1.1
    exact this.1
  rw [lim_eq] at hE
  refine ⟨inK_of (by show _ ≤ w - 1; omega) (by show w - 1 ≤ _; omega), ⟨h0, by show e < (Fr.length : Int); omega⟩, fun h => ?_, fun h => ⟨⟨h, by show w - 1 < (E.length : Int); omega⟩, ⟨h0, h1⟩, fun h5 => ⟨⟨h0, by show e < (((E.set _ _).length : Nat) : Int); rw [List.length_set]; exact h1⟩, ?_⟩, fun h5 => ?_⟩⟩
  · have h : w - 1 < 0 := h
    show _ = Sp.readM _ e w
    unfold Sp.readM Sp.readG Sp.readE
    rw [if_pos h]
  · have h : 0 ≤ w - 1 := h
    show _ = Sp.readM _ e w
    unfold Sp.readM Sp.readG Sp.readE
    have h5 : (Sp.ev E (w - 1)).2.1.1 = 3 := h5
    rw [if_neg (by omega), if_pos h5]
    rfl
  · have h : 0 ≤ w - 1 := h
    show _ = Sp.readM _ e w
    unfold Sp.readM Sp.readG Sp.readE
    have h5 : ¬ (Sp.ev E (w - 1)).2.1.1 = 3 := h5
    rw [if_neg (by omega), if_neg h5]
    rfl
theorem pk49 : POk Try.prog 49 S49 := by
  have hC : ∀ q, CtxOK Try.prog (C49 q) := fun q => okM' q (fns_cons ok43 fns_nil) ptrs_nil rfl rfl rfl rfl rfl
  refine POk.intro hC (fun q => stpR_ok (hC q)) Try.call49 Try.func49 (fun q => rfl) (by kernel_rfl) L49 (vc49.mpr ?_)
  simp only [z1, z2, z3, z4, z5, z6, z7, z8, z9, z10, z11, z12, z13, z14, z15, z16, z17, z18, z19, z20, z21, z22, z23, z24, z25, z26, z27, z28, z29, z30, z31, z32, z33, z34, z35, z36, z37, z38]
  intro s y ⟨hM, hn, h0, h1⟩ hx hy
  obtain ⟨n, k, u⟩ := y
  change Int at n
  change Int at k
  have hn : Sp.inC s n := hn
  have h0 : 0 ≤ k := h0
  have h1 : k < ((Sp.co s.2.1 n).2.2.1.length : Int) := h1
  have hlt := Sp.inC_lt hn
  obtain ⟨g1, g2, g3, g4, g5, g6, g7, g8⟩ := hM.at hn
  have hw := Sp.okS_wd g5 h0 h1
  have h3 := hM.okM.2
  rw [h3] at hw
  have hset : ∀ a : Sp.Core, (s.2.1.set n.toNat a).getD n.toNat (0, 0, [], List.replicate 3 [], ()) = a := fun a => Sp.getD_set_self hlt
  have hco : s.2.1.getD n.toNat (0, 0, [], List.replicate 3 [], ()) = Sp.co s.2.1 n := rfl
  simp only [hset, hco, List.set_set]
  have hmo := hM.mo
  have hin3 : inN (Sp.wd (Sp.co s.2.1 n).2.2.1 k).2.1 3 := ⟨hw.2.1, hw.2.2⟩
  have hinM : inN (Sp.wd (Sp.co s.2.1 n).2.2.1 k).2.1 s.2.2.2.1.2.2.1.length := by rw [hmo]; exact hin3
  refine ⟨⟨hn.1, hn.2⟩, ⟨h0, h1⟩, ⟨g5, h0, h1⟩, fun hd => ⟨⟨hinM, hin3, ?_, hinM⟩, hin3, ?_⟩, fun hd => ?_⟩
  · have hb := hM.moB (Sp.wd (Sp.co s.2.1 n).2.2.1 k).2.1.toNat (by omega)
    have hd := hM.done_le
    have hp := Sp.pn_set (a := Sp.co0) (Sp.wd (Sp.co s.2.1 n).2.2.1 k).2.1.toNat hlt
    have e1 : ((Sp.co s.2.1 n).2.2.2.1.getD (Sp.wd (Sp.co s.2.1 n).2.2.1 k).2.1.toNat []).length ≤ Sp.pn (Sp.wd (Sp.co s.2.1 n).2.2.1 k).2.1.toNat s.2.1 := by
      have : ((Sp.co0.2.2.2.1).getD (Sp.wd (Sp.co s.2.1 n).2.2.1 k).2.1.toNat []).length = 0 := by
        have : (Sp.wd (Sp.co s.2.1 n).2.2.1 k).2.1.toNat < 3 := by omega
        generalize (Sp.wd (Sp.co s.2.1 n).2.2.1 k).2.1.toNat = z at this
        match z, this with
        | 0, _ => rfl
        | 1, _ => rfl
        | 2, _ => rfl
      omega
    rw [maxNew_eq]
    show (((s.2.2.2.1.2.2.1.getD (Sp.wd (Sp.co s.2.1 n).2.2.1 k).2.1.toNat []).length + ((Sp.co s.2.1 n).2.2.2.1.getD (Sp.wd (Sp.co s.2.1 n).2.2.1 k).2.1.toNat []).length : Nat) : Int) ≤ 2147483648
    omega
  · have hd : (Sp.wd (Sp.co s.2.1 n).2.2.1 k).2.2.2.1 = true := hd
    show _ = Sp.evictM s n k
    unfold Sp.evictM Sp.eC Sp.eMo
    rw [if_pos hd, if_pos hd]
    rfl
  · have hd : (Sp.wd (Sp.co s.2.1 n).2.2.1 k).2.2.2.1 = false := hd
    show _ = Sp.evictM s n k
    unfold Sp.evictM Sp.eC Sp.eMo
    rw [if_neg (by rw [hd]; simp), if_neg (by rw [hd]; simp)]
    rfl
theorem pk26 : POk Try.prog 26 S26 := by
  have hC : ∀ q, CtxOK Try.prog (C26 q) := fun q => okM' q fns_nil (ptr_cons pk49 ptrs_nil) rfl rfl rfl rfl rfl
  refine POk.intro hC (fun q => stpR_ok (hC q)) Try.call26 Try.func26 (fun q => rfl) (by kernel_rfl) L26 (vc26.mpr ?_)
  simp only [z1, z2, z3, z4, z5, z6, z7, z8, z9, z10, z11, z12, z13, z14, z15, z16, z17, z18, z19, z20, z21, z22, z23, z24, z25, z26, z27, z28, z29, z30, z31, z32, z33, z34, z35, z36, z37, z38]
  intro s y ⟨hM, hn⟩ hx hy
  obtain ⟨n, u⟩ := y
  change Int at n
  have hn : Sp.inC s n := hn
  refine ⟨⟨s, ⟨hM, hn, rfl⟩, rfl⟩, ?_⟩
  intro s' ⟨hM', hn', hf⟩ hx'
  have hn' : Sp.inC s' n := hn'
  have hf : Sp.flushM s' n = Sp.flushM s n := hf
  refine ⟨⟨hn'.1, hn'.2⟩, fun h => ?_, fun h => ?_⟩
  · have h : 0 < ((Sp.co s'.2.1 n).2.2.1.length : Int) := h
    refine ⟨⟨hM', hn', by decide, h⟩, _, ⟨hM'.evict hn' (by decide) h, Sp.evictM_inC hn', ?_⟩, ?_, rfl⟩
    · show Sp.flushM (Sp.evictM s' n 0) n = Sp.flushM s n
      rw [Sp.flushM_step hn' (by omega), hf]
    · show (Sp.co (Sp.evictM s' n 0).2.1 n).2.2.1.length < (Sp.co s'.2.1 n).2.2.1.length
      rw [Sp.evictM_cache hn' (by omega)]; omega
  · have h : ((Sp.co s'.2.1 n).2.2.1.length : Int) ≤ 0 := h
    show s' = Sp.flushM s n
    rw [← hf, Sp.flushM_nil (by omega)]
theorem pk47 : POk Try.prog 47 S47 := by
  have hC : ∀ q, CtxOK Try.prog (C47 q) := fun q => okM' q (fns_cons ok19 (fns_cons ok20 (fns_cons ok40 (fns_cons ok41 (fns_cons ok45 fns_nil))))) (ptr_cons pk49 (ptr_cons pk62 (ptr_cons pk26 ptrs_nil))) rfl rfl rfl rfl rfl
  refine POk.intro hC (fun q => stpR_ok (hC q)) Try.call47 Try.func47 (fun q => rfl) (by kernel_rfl) L47 (vc47.mpr ?_)
  simp only [z1, z2, z3, z4, z5, z6, z7, z8, z9, z10, z11, z12, z13, z14, z15, z16, z17, z18, z19, z20, z21, z22, z23, z24, z25, z26, z27, z28, z29, z30, z31, z32, z33, z34, z35, z36, z37, z38]
  intro s y ⟨hM, hn, hd⟩ hx hy
  obtain ⟨n, u⟩ := y
  change Int at n
  have hn : Sp.inC s n := hn
  have hd : (Sp.co s.2.1 n).2.1 < ((s.1.1.getD n.toNat []).length : Int) := hd
  have hlt := Sp.inC_lt hn
  have h3 := hM.okM.2
  have hmo := hM.mo
  have hE := hM.ev
  have hop := Sp.op_ok hM hn hd
  have he := Sp.ev_lt hM hn hd
  have h1 := hM.inc hn hd
  have hn1 : Sp.inC (Sp.incD s n) n := Sp.incD_inC hn
  have hc1 : Sp.co (Sp.incD s n).2.1 n = ((Sp.co s.2.1 n).1, (Sp.co s.2.1 n).2.1 + 1, (Sp.co s.2.1 n).2.2) := Sp.co_set hlt
  obtain ⟨g1, g2, g3, g4, g5, g6, g7, g8⟩ := hM.at hn
  have hset : ∀ a : Sp.Core, (s.2.1.set n.toNat a).getD n.toNat (0, 0, [], List.replicate 3 [], ()) = a := fun a => Sp.getD_set_self hlt
  have hco : s.2.1.getD n.toNat (0, 0, [], List.replicate 3 [], ()) = Sp.co s.2.1 n := rfl
  have hopd : (s.1.1.getD n.toNat []).getD (Sp.co s.2.1 n).2.1.toNat (0, 0, 0, ()) = Sp.opAt s n := rfl
  have hset' : ∀ a : Sp.Core, Sp.co (s.2.1.set n.toNat a) n = a := fun a => Sp.getD_set_self hlt
  have hfw : Sp.findW (Sp.cloW (55, [0, (Sp.opAt s n).2.1])) (Sp.co s.2.1 n).2.2.1 = Sp.fW (Sp.opAt s n).2.1 (Sp.co s.2.1 n).2.2.1 := rfl
  simp only [hset, hset', hco, hopd, hfw, List.set_set]
  have hlv := Sp.load_val hM hn hop
  have hpl := Sp.pend_le hM hn (x := (Sp.opAt s n).2.1.toNat) (by omega)
  have hcl := g5.2.1
  have hX3 : inN (Sp.opAt s n).2.1 3 := hop
  have hXm : (Sp.opAt s n).2.1 < ((s.2.2.1.getD 0 []).length : Int) := by rw [h3]; exact hop.2
  have hfo := Sp.fo_le hM
  have hfl := Sp.fW_lt (Sp.opAt s n).2.1 (Sp.co s.2.1 n).2.2.1
  refine ⟨⟨hn.1, hn.2⟩, ⟨inK_mid (by omega) (by omega), ⟨hn.1, by rw [← hM.len]; exact hn.2⟩, ⟨g2, hd⟩⟩, inK_mid (by omega) (by omega), fun ho => ⟨⟨g5, hop.1, hXm⟩, ⟨he.1, he.2, hM.from_, hlv.1, hlv.2⟩, ?_⟩, fun ho1 => ⟨fun ho => ⟨⟨inK_mid (by omega) (by omega), hcl⟩, ⟨hX3, by rw [maxNew_eq]; omega, hX3⟩, ?_⟩, fun ho2 => ⟨fun ho => ⟨⟨rfl, rfl⟩, fun hf => ?_, fun hf => ?_⟩, fun ho3 => ⟨fun ho => ⟨⟨h1, hn1⟩, ?_, ?_⟩, fun ho4 => ?_⟩⟩⟩⟩
  · show _ = Sp.doM s n
    unfold Sp.doM
    rw [if_pos ho]
    unfold Sp.doLoad Sp.setCache Sp.incD
    simp only [hset', List.set_set]
  · show _ = Sp.doM s n
    unfold Sp.doM
    rw [if_neg ho1, if_pos ho]
    unfold Sp.doStore Sp.addPend Sp.setCache Sp.incD
    simp only [hset', List.set_set]
  · -- an addition, the word is in the cache
    have hk1 : Sp.fW (Sp.opAt s n).2.1 (Sp.co s.2.1 n).2.2.1 < ((Sp.co (Sp.incD s n).2.1 n).2.2.1.length : Int) := by rw [hc1]; exact hfl
    have h2 := h1.evict hn1 hf hk1
    have h2n : Sp.inC (Sp.evictM (Sp.incD s n) n (Sp.fW (Sp.opAt s n).2.1 (Sp.co s.2.1 n).2.2.1)) n := Sp.evictM_inC hn1
    have m1 := h2.okM
    have m2 := Sp.mget_mem h2 hop
    have m3 := h2.mo
    have m4 := Sp.pend_le h2 h2n (x := (Sp.opAt s n).2.1.toNat) (by omega)
    simp only [Sp.evictM, Sp.incD, hset', Sp.mget] at m1 m2 m3 m4
    have m5 := m1.1.1
    refine ⟨⟨h1, hn1, hf, hfl⟩, ⟨⟨⟨by decide, by rw [m5]; decide⟩, ⟨hop.1, ?_⟩⟩, he.1, he.2, hM.from_, m2.1, m2.2⟩, ⟨inK_mid (by omega) (by omega), m1.1, hop.1, ?_⟩, ⟨⟨hop.1, by rw [m3]; exact hop.2⟩, ?_, ⟨hop.1, by rw [m3]; exact hop.2⟩⟩, ?_⟩
    · show (Sp.opAt s n).2.1 < _
      rw [show Int.toNat 0 = 0 from rfl, m1.2]; exact hop.2
    · rw [m1.2]; exact hop.2
    · rw [maxNew_eq]; omega
    · show _ = Sp.doM s n
      unfold Sp.doM
      rw [if_neg ho1, if_neg ho2, if_pos ho]
      unfold Sp.doAdd Sp.putM Sp.evX Sp.readM Sp.readG
      rw [hc1, if_pos hf]
      unfold Sp.evictM Sp.incD
      simp only [hset', List.set_set]
      rfl
  · -- an addition, the word is not in the cache
    have m2 := Sp.mget_mem hM hop
    have m5 := hM.okM.1.1
    refine ⟨⟨⟨⟨by decide, by rw [m5]; decide⟩, ⟨hop.1, hXm⟩⟩, he.1, he.2, hM.from_, m2.1, m2.2⟩, ⟨inK_mid (by omega) (by omega), hM.okM.1, hop.1, hXm⟩, ⟨⟨hop.1, by rw [hmo]; exact hop.2⟩, by rw [maxNew_eq]; omega, ⟨hop.1, by rw [hmo]; exact hop.2⟩⟩, ?_⟩
    show _ = Sp.doM s n
    unfold Sp.doM
    rw [if_neg ho1, if_neg ho2, if_pos ho]
    unfold Sp.doAdd Sp.putM Sp.evX Sp.readM Sp.readG
    rw [hc1, if_neg (show ¬ 0 ≤ Sp.fW (Sp.opAt s n).2.1 (Sp.co s.2.1 n).2.2.1 by omega)]
    rfl
  · -- a fence
    have h2 := Sp.flush_ind (p := fun _ => True) (n := n) _ h1 hn1 rfl trivial (fun _ _ _ _ _ => trivial)
    have := Sp.fo_le h2.2.1
    rw [maxNew_eq]
    show (((Sp.flushM (Sp.incD s n) n).2.2.2.1.2.2.2.1.length + 1 : Nat) : Int) ≤ 2147483648
    omega
  · show _ = Sp.doM s n
    unfold Sp.doM
    rw [if_neg ho1, if_neg ho2, if_neg ho3, if_pos ho]
    rfl
  · show _ = Sp.doM s n
    unfold Sp.doM
    rw [if_neg ho1, if_neg ho2, if_neg ho3, if_neg ho4]
    rfl
end Go.User
namespace Sp
abbrev Th := Nat × List Int
/-- What can happen: the next operation of a core; an eviction. -/
def th1 (s : Mach) (i : Nat) : List Th := ((List.range i).filter fun (n : Nat) => decide ((co s.2.1 n).2.1 < ((s.1.1.getD n []).length : Int))).map fun (n : Nat) => (46, [(n : Int)])
def ths (n k : Nat) : List Th := (List.range k).map fun (j : Nat) => (48, [(n : Int), (j : Int)])
def th2 (s : Mach) (i : Nat) : List Th := (List.range i).flatMap fun (n : Nat) => ths n (co s.2.1 n).2.2.1.length
def th12 (s : Mach) (i : Nat) : List Th := th1 s s.2.1.length ++ th2 s i
def th123 (s : Mach) (i k : Nat) : List Th := th1 s s.2.1.length ++ (th2 s i ++ ths i k)
def things (s : Mach) : List Th := if th1 s s.2.1.length = [] then [] else th1 s s.2.1.length ++ th2 s s.2.1.length
def up (q : Nat) (l : List Th) : List (Option (Nat × Nat × List Int)) := l.map fun z => some (q, z)
def runT (z : Nat × List Int) (s : Mach) : Mach := if z.1 = 46 then doM s (z.2.getD 0 0) else evictM s (z.2.getD 0 0) (z.2.getD 1 0)
def preT (z : Nat × List Int) (s : Mach) : Prop := OkM s ∧ inC s (z.2.getD 0 0) ∧
  (z.1 = 46 ∧ z.2.length = 1 ∧ (co s.2.1 (z.2.getD 0 0)).2.1 < ((s.1.1.getD (z.2.getD 0 0).toNat []).length : Int) ∨
   z.1 = 48 ∧ z.2.length = 2 ∧ 0 ≤ z.2.getD 1 0 ∧ z.2.getD 1 0 < ((co s.2.1 (z.2.getD 0 0)).2.2.1.length : Int))
def mkEv (c : Int) (o : LOp) : LEv := (c, o, 0, ())
def evs : Int → List (List LOp) → List LEv
  | _, [] => []
  | c, l :: ls => l.map (mkEv c) ++ evs (c + 1) ls
/-- The machine at the start: i cores are there, and j operations of the next one. -/
def coresN (p : List (List LOp)) (i : Nat) : List Core := (List.range i).map fun (n : Nat) => (((evs 0 (p.take n)).length : Int), 0, [], [[], [], []], ())
def evN (p : List (List LOp)) (i j : Nat) : List LEv := evs 0 (p.take i) ++ ((p.getD i []).take j).map (mkEv i)
def machN (t : Lit) (k i j : Nat) : Mach := (t, coresN t.1 k, [[0, 0, 0]], (evN t.1 i j, List.replicate (evN t.1 i j).length (-1), [[], [], []], [], ()), ())
def init (t : Lit) : Mach := machN t t.1.length t.1.length 0
def pick (ch : List Int) (n : Nat) : Int := if ch.length = 0 then 0 else ((ch.getD 0 0).tmod n + n).tmod n
def th (l : List Th) (k : Int) : Th := l.getD k.toNat (0, [])
def loopN : Nat → Mach → List Int → Mach
  | 0, s, _ => s
  | f + 1, s, ch => if (things s).length = 0 then s else loopN f (runT (th (things s) (pick ch (things s).length)) s) (ch.drop 1)
def flAll : Nat → Mach → Mach
  | 0, s => s
  | k + 1, s => flushM (flAll k s) k
def sumL (p : List (List LOp)) : Nat := (p.map List.length).sum
/-- How much can happen still. -/
def mu (s : Mach) : Nat := 2 * (sumL s.1.1 - dn s.2.1) + (s.2.1.map fun c => c.2.2.1.length).sum
def runM (t : Lit) (ch : List Int) : Mach := flAll t.1.length (loopN (mu (init t)) (init t) ch)
def run (t : Lit) (ch : List Int) : Gr := (runM t ch).2.2.2.1
def gE (t : Lit) (ch : List Int) : List LEv := (run t ch).1
def gF (t : Lit) (ch : List Int) : List Int := (run t ch).2.1
def gM (t : Lit) (ch : List Int) : List (List Int) := (run t ch).2.2.1
def gO (t : Lit) (ch : List Int) : List Int := (run t ch).2.2.2.1
def okT (t : Lit) : Prop := t.1.length ≤ 1000 ∧ (evs 0 t.1).length ≤ 1000 ∧ ∀ l ∈ t.1, ∀ o ∈ l, opOK o
end Sp
namespace Go.User
open Go.Lf
abbrev tTh : Ty := .slice (.abs .thk)
def S25 (q : Nat) : PSpec := { τ := tMach, m := mMach, multi := false, res := tTh, rm := .own .shr, pre := fun s _ => Sp.OkM s, fn := fun s _ => s, out := fun s _ => Sp.up q (Sp.things s) }
def C25 (q : Nat) : Ctx := mkM 68 q [] []
def L25 (q : Nat) (s : (S25 q).τ.den) (y : kdens (S25 q).args) : List LoopI := [
  { ι := Nat, inv := fun i => i ≤ List.length s.2.1, dec := fun i => List.length s.2.1 - i, ovr := fun i => [(12, .shr tI (i : Int)), (3, .own tTh (.own .shr) (Sp.up q (Sp.th1 s i)))], keep := [0, 1, 11] },
  { ι := Nat, inv := fun i => i ≤ List.length s.2.1, dec := fun i => List.length s.2.1 - i, ovr := fun i => [(46, .shr tI (i : Int)), (3, .own tTh (.own .shr) (Sp.up q (Sp.th12 s i)))], keep := [0, 1, 45], sub := fun i => [
    { ι := Nat, inv := fun k => k ≤ List.length (Sp.co s.2.1 i).2.2.1, dec := fun k => List.length (Sp.co s.2.1 i).2.2.1 - k, ovr := fun k => [(58, .shr tI (k : Int)), (3, .own tTh (.own .shr) (Sp.up q (Sp.th123 s i k)))], keep := [0, 1, 45, 46, 57, 5], frz := [5] }] }]
def tThk : TSpec := { τ := tMach, m := mMach, pre := fun z s => Sp.preT z s, fn := fun z s => Sp.runT z s }
def S16 : FSpec := { args := [.val tLit, .val (.slice tI)], multi := false, res := tGr, mode := .shr, pre := fun x => Sp.okT x.1, fn := fun x => (Sp.gE x.1 x.2.1, Sp.gF x.1 x.2.1, Sp.gM x.1 x.2.1, Sp.gO x.1 x.2.1, ()) }
def C16a : Ctx := { N := 122, tys := tysQ 0, fns := [], eqs := eqs, frz := [14, 15], mds := [(16, .own (.own .shr)), (17, mGr), (18, mMach), (39, mCore), (40, .own mCore)] }
def C16b (q : Nat) : Ctx := { N := 122, tys := tysQ q, fns := [], eqs := eqs, pin := some 19, q := q, ptrs := [(25, S25 q), (26, S26)], thk := some tThk, take := [19] }
def t16 : Nat := 19
def fl16 : List Bool := [true, true, true]
def L16a (x : kdens S16.args) : List LoopI := [
  { ι := Nat, inv := fun i => i ≤ List.length x.1.1, dec := fun i => List.length x.1.1 - i, ovr := fun i => [(23, .shr tI (i : Int)), (19, .box tMach mMach (Sp.machN x.1 i i 0))], keep := [1, 4, 5, 21, 22], sub := fun i => [
    { ι := Nat, inv := fun j => j ≤ List.length (x.1.1.getD i []), dec := fun j => List.length (x.1.1.getD i []) - j, ovr := fun j => [(46, .shr tI (j : Int)), (19, .box tMach mMach (Sp.machN x.1 (i + 1) i j))], keep := [1, 4, 5, 6, 21, 22, 23, 44, 45] }] }]
def L16b (q : Nat) (x : kdens S16.args) : List LoopI := [
  { ι := Unit, inv := fun _ => True, dec := fun _ => 0, ovr := fun _ => [], keep := [] },
  { ι := Nat × Sp.Mach × List Int, inv := fun i => Sp.OkM i.2.1 ∧ i.2.1.1 = x.1 ∧ Sp.mu i.2.1 ≤ i.1 ∧ Sp.loopN i.1 i.2.1 i.2.2 = Sp.loopN (Sp.mu (Sp.init x.1)) (Sp.init x.1) x.2.1, dec := fun i => i.1, ovr := fun i => [(19, .box tMach mMach i.2.1), (1, .shr (.slice tI) i.2.2), (10, .own tTh (.own .shr) (Sp.up q (Sp.things i.2.1)))], keep := [4, 5] },
  { ι := Nat, inv := fun i => i ≤ List.length x.1.1 ∧ Sp.OkM (Sp.flAll i (Sp.loopN (Sp.mu (Sp.init x.1)) (Sp.init x.1) x.2.1)) ∧ List.length (Sp.flAll i (Sp.loopN (Sp.mu (Sp.init x.1)) (Sp.init x.1) x.2.1)).2.1 = List.length x.1.1, dec := fun i => List.length x.1.1 - i, ovr := fun i => [(111, .shr tI (i : Int)), (19, .box tMach mMach (Sp.flAll i (Sp.loopN (Sp.mu (Sp.init x.1)) (Sp.init x.1) x.2.1)))], keep := [4, 5, 110] }]
end Go.User
namespace Go.User
open Go.Proofs Go.Lf
set_option maxRecDepth 100000
theorem vc25 : (∀ q : Nat, funP (C25 q) (stpR (C25 q)) (S25 q) (L25 q) Try.f25) = (
let q0 : Nat := (3 : Nat);
let q1 : Prop := True ∧ True ∧ True;
let q2 : Prop := q1 ∧ True;
let q3 : Prop := (True ∧ True) ∧ True;
let q4 : Prop := True ∧ q1;
let q5 : Prop := True ∧ q4;
let q6 : Prop := (True ∧ True ∧ q5) ∧ True;
let q7 : Int := (0 : Int);
let q8 : List (Ty.abs Abs.thk).den := ([] : List (Ty.abs Abs.thk).den);
let q9 : Prop := q1 ∧ True ∧ True;
let q10 : Int × Int × List (Int × Int × Int × Bool × Unit) × List (List Int) × Unit := (q7, q7, ([] : List tW.den), List.replicate q0 (([] : List tI.den)), ());
let q11 : Nat := (46 : Nat);
let q12 : Int := (1 : Int);
let q13 : Nat := (48 : Nat);
∀ (q : Nat) (x : (List (List (Int × Int × Int × Unit)) × Unit) × List (Int × Int × List (Int × Int × Int × Bool × Unit) × List (List Int) × Unit) × List (List Int) × (List (Int × (Int × Int × Int × Unit) × Int × Unit) × List Int × List (List Int) × List Int × Unit) × Unit),
  let q14 : Nat := x.2.1.length;
  let q15 : Prop := x = x;
  let q16 : Int := (↑q14 : Int);
  let q17 : Prop := q16 = q16;
  let q18 : Prop := q15 ∧ True ∧ q17 ∧ True;
  let q19 : List (Option (Nat × Nat × List Int)) := Sp.up q (Sp.things x);
  ∀ (y : Unit),
    Sp.OkM x →
      dFact ((((Ty.int IntKind.i64).prod ((Ty.int IntKind.i64).prod ((Ty.int IntKind.i64).prod Ty.unit))).slice.slice.prod Ty.unit).prod (((Ty.int IntKind.i64).prod ((Ty.int IntKind.i64).prod (((Ty.int IntKind.i64).prod ((Ty.int IntKind.i64).prod ((Ty.int IntKind.i32).prod (Ty.bool.prod Ty.unit)))).slice.prod ((Ty.arr q0 (Ty.int IntKind.i64).slice).prod Ty.unit)))).slice.prod ((Ty.int IntKind.i32).slice.slice.prod ((((Ty.int IntKind.i64).prod (((Ty.int IntKind.i64).prod ((Ty.int IntKind.i64).prod ((Ty.int IntKind.i64).prod Ty.unit))).prod ((Ty.int IntKind.i64).prod Ty.unit))).slice.prod ((Ty.int IntKind.i64).slice.prod ((Ty.int IntKind.i64).slice.slice.prod ((Ty.int IntKind.i64).slice.prod Ty.unit)))).prod Ty.unit)))) x →
        True →
          q2 ∧
            q3 ∧
              q6 ∧
                (∃ (x_1 : Nat), x_1 ≤ q14 ∧ q7 = (↑x_1 : Int) ∧ Sp.up q (Sp.th1 x x_1) = q8 ∧ q18) ∧
                  ∀ (x_1 : Nat),
                    let q20 : List (Option (Nat × Nat × List Int)) := Sp.up q (Sp.th1 x x_1);
                    let q21 : Bool := decide ((↑x_1 : Int) < q16);
                    let q22 : Nat := (↑x_1 : Int).toNat;
                    let q23 : Bool := decide ((x.2.1.getD q22 q10).2.1 < (↑(List.length (x.1.1.getD q22 (([] : List tLOp.den)))) : Int));
                    let q24 : Nat := q20.length;
                    let q25 : List (Ty.abs Abs.thk).den := Option.some (q, q11, (↑x_1 : Int) :: ([] : List Int)) :: q8;
                    let q26 : Int := (↑x_1 : Int) + q12;
                    let q27 : Prop := (inK IntKind.i64 q26 ∧ True ∧ True) ∧ True;
                    let q28 : Bool := (↑q24 : Int) == q7;
                    x_1 ≤ q14 →
                      dFact (Ty.int IntKind.i64) (↑x_1 : Int) ∧ dFact (Ty.abs Abs.thk).slice q20 ∧ True →
                        q3 ∧
                          (q21 = true → q9 ∧ ((True ∧ True ∧ True ∧ True ∧ True ∧ inN (↑x_1 : Int) q14 ∧ True ∧ True ∧ True ∧ True ∧ True ∧ True ∧ True ∧ True ∧ inN (↑x_1 : Int) x.1.1.length ∧ q4) ∧ True) ∧ (q23 = true → ((True ∧ True) ∧ True ∧ True ∧ (↑(q24 + q25.length) : Int) ≤ maxNew ∧ True ∧ True) ∧ q27 ∧ ∃ (y : Nat), y ≤ q14 ∧ q14 - y < q14 - x_1 ∧ q26 = (↑y : Int) ∧ q20 ++ q25 = Sp.up q (Sp.th1 x y) ∧ q18) ∧ (q23 = false → q27 ∧ ∃ (y : Nat), y ≤ q14 ∧ q14 - y < q14 - x_1 ∧ q26 = (↑y : Int) ∧ q20 = Sp.up q (Sp.th1 x y) ∧ q18)) ∧
                            (q21 = false →
                              (q4 ∧ True) ∧
                                (q28 = true → q3 ∧ q15 ∧ q8 = q19 ∧ false = false) ∧
                                  (q28 = false →
                                    q6 ∧
                                      (∃ (x_2 : Nat), x_2 ≤ q14 ∧ q7 = (↑x_2 : Int) ∧ q20 = Sp.up q (Sp.th12 x x_2) ∧ q18) ∧
                                        ∀ (x_2 : Nat),
                                          let q29 : List (Option (Nat × Nat × List Int)) := Sp.up q (Sp.th12 x x_2);
                                          let q30 : Bool := decide ((↑x_2 : Int) < q16);
                                          let q31 : Nat := (Sp.co x.2.1 (↑x_2 : Int)).2.2.1.length;
                                          let q32 : Int := (↑(List.length (x.2.1.getD (↑x_2 : Int).toNat q10).2.2.1) : Int);
                                          let q33 : Prop := q15 ∧ True ∧ q17 ∧ (↑x_2 : Int) = (↑x_2 : Int) ∧ q32 = q32 ∧ (↑x_2 : Int) = (↑x_2 : Int) ∧ True;
                                          let q34 : Int := (↑x_2 : Int) + q12;
                                          x_2 ≤ q14 →
                                            dFact (Ty.int IntKind.i64) (↑x_2 : Int) ∧ dFact (Ty.abs Abs.thk).slice q29 ∧ True →
                                              q3 ∧
                                                (q30 = true →
                                                    q9 ∧
                                                      ((True ∧ True ∧ True ∧ True ∧ True ∧ inN (↑x_2 : Int) q14 ∧ q5) ∧ True) ∧
                                                        (∃ (x_3 : Nat), x_3 ≤ q31 ∧ q7 = (↑x_3 : Int) ∧ q29 = Sp.up q (Sp.th123 x x_2 x_3) ∧ q33) ∧
                                                          ∀ (x_3 : Nat),
                                                            let q35 : List (Option (Nat × Nat × List Int)) := Sp.up q (Sp.th123 x x_2 x_3);
                                                            let q36 : Bool := decide ((↑x_3 : Int) < q32);
                                                            let q37 : List (Ty.abs Abs.thk).den := Option.some (q, q13, (↑x_2 : Int) :: (↑x_3 : Int) :: ([] : List Int)) :: q8;
                                                            let q38 : Int := (↑x_3 : Int) + q12;
                                                            x_3 ≤ q31 → dFact (Ty.int IntKind.i64) (↑x_3 : Int) ∧ dFact (Ty.abs Abs.thk).slice q35 ∧ True → q3 ∧ (q36 = true → q9 ∧ ((True ∧ True) ∧ True ∧ True ∧ (↑(q35.length + q37.length) : Int) ≤ maxNew ∧ True ∧ True) ∧ ((inK IntKind.i64 q38 ∧ True ∧ True) ∧ True) ∧ ∃ (y : Nat), y ≤ q31 ∧ q31 - y < q31 - x_3 ∧ q38 = (↑y : Int) ∧ q35 ++ q37 = Sp.up q (Sp.th123 x x_2 y) ∧ q33) ∧ (q36 = false → ((inK IntKind.i64 q34 ∧ True ∧ True) ∧ True) ∧ ∃ (y : Nat), y ≤ q14 ∧ q14 - y < q14 - x_2 ∧ q34 = (↑y : Int) ∧ q35 = Sp.up q (Sp.th12 x y) ∧ q18)) ∧
                                                  (q30 = false → q2 ∧ q15 ∧ q29 = q19 ∧ false = false)))) := by kernel_rfl
theorem vc16 : (funJ C16a (stpR C16a) C16b (fun q => stpR (C16b q)) t16 fl16 S16 L16a L16b Try.f16) = (
let q0 : Prop := True ∧ True ∧ True;
let q1 : Prop := q0 ∧ True;
let q2 : Int := (3 : Int);
let q3 : Prop := (0 : (Ty.int IntKind.i64).den) ≤ q2 ∧ q2 ≤ q2 ∧ q2 ≤ maxNew;
let q4 : Prop := True ∧ q0;
let q5 : Prop := True ∧ q4;
let q6 : Int := (0 : Int);
let q7 : Nat := q2.toNat;
let q8 : List Int × Unit := (([] : List tI.den), ());
let q9 : Nat := (0 : Nat);
let q10 : List (Int × (Int × Int × Int × Unit) × Int × Unit) × List Int × List (List Int) × List Int × Unit := (([] : List tLEv.den), ([] : List tI.den), ([] : List tI.slice.den), q8);
let q11 : Prop := q10 = q10;
let q12 : Prop := ([] : List Step) = ([] : List Step);
let q13 : Nat := (3 : Nat);
let q14 : Prop := (True ∧ True) ∧ True;
let q15 : Int × List (Int × Int × Int × Bool × Unit) × List (List Int) × Unit := (q6, ([] : List tW.den), List.replicate q13 (([] : List tI.den)), ());
let q16 : Prop := Step.fst = Step.fst ∧ True;
let q17 : Prop := True ∧ True ∧ q5;
let q18 : Prop := True ∧ q17;
let q19 : Prop := True ∧ q18;
let q20 : Prop := True ∧ True ∧ True ∧ q19;
let q21 : Prop := True ∧ True ∧ True ∧ True ∧ True ∧ True ∧ True ∧ True ∧ True ∧ True ∧ True ∧ True ∧ True ∧ True ∧ True ∧ True ∧ True ∧ True ∧ True ∧ True ∧ True ∧ True ∧ True ∧ True ∧ True ∧ True ∧ True ∧ True ∧ True ∧ True ∧ True ∧ True ∧ True ∧ True ∧ True ∧ True ∧ True ∧ True ∧ True ∧ True ∧ True ∧ True ∧ True ∧ True ∧ True ∧ True ∧ True ∧ True ∧ True ∧ True ∧ True ∧ True ∧ True ∧ True ∧ True ∧ True ∧ True ∧ True ∧ True ∧ True ∧ True ∧ True ∧ True ∧ True ∧ True ∧ True ∧ True ∧ True ∧ True ∧ True ∧ True ∧ True ∧ True ∧ True ∧ True ∧ True ∧ True ∧ True ∧ True ∧ True ∧ True ∧ True ∧ True ∧ True ∧ True ∧ True ∧ True ∧ True ∧ True ∧ True ∧ True ∧ True ∧ True ∧ True ∧ True ∧ True ∧ True ∧ True ∧ True ∧ True ∧ True ∧ True ∧ True ∧ True ∧ True ∧ True ∧ True ∧ True ∧ True ∧ True ∧ True ∧ q20;
let q22 : List Step := Step.fst :: ([] : List Step);
let q23 : List Step := Step.snd :: q22;
let q24 : List Step := List.append._f (([] : List Step)) PUnit.unit q23;
let q25 : Prop := q4 ∧ True;
let q26 : List (List Int) := (q6 :: q6 :: q6 :: ([] : List Int)) :: ([] : List (List Int));
let q27 : Int := (1 : Int);
let q28 : Int := -q27;
let q29 : List (List Int) × List Int × Unit := (([] : List Int) :: ([] : List Int) :: ([] : List Int) :: ([] : List (List Int)), ([] : List Int), ());
let q30 : Nat := (1 : Nat);
let q31 : Int × Unit := (q6, ());
let q32 : Int × Int × Int × Unit := (q6, q6, q31);
let q33 : List Step := Step.snd :: q23;
let q34 : List Step := Step.snd :: q33;
let q35 : List Step := List.append._f q34 ⟨List.append._f q33 ⟨List.append._f q23 ⟨List.append._f q22 ⟨List.append._f (([] : List Step)) PUnit.unit, PUnit.unit⟩, List.append._f (([] : List Step)) PUnit.unit, PUnit.unit⟩, List.append._f q22 ⟨List.append._f (([] : List Step)) PUnit.unit, PUnit.unit⟩, List.append._f (([] : List Step)) PUnit.unit, PUnit.unit⟩, List.append._f q23 ⟨List.append._f q22 ⟨List.append._f (([] : List Step)) PUnit.unit, PUnit.unit⟩, List.append._f (([] : List Step)) PUnit.unit, PUnit.unit⟩, List.append._f q22 ⟨List.append._f (([] : List Step)) PUnit.unit, PUnit.unit⟩, List.append._f (([] : List Step)) PUnit.unit, PUnit.unit⟩ q22;
let q36 : List Int := q28 :: ([] : List tI.den);
let q37 : List Step := List.append._f q34 ⟨List.append._f q33 ⟨List.append._f q23 ⟨List.append._f q22 ⟨List.append._f (([] : List Step)) PUnit.unit, PUnit.unit⟩, List.append._f (([] : List Step)) PUnit.unit, PUnit.unit⟩, List.append._f q22 ⟨List.append._f (([] : List Step)) PUnit.unit, PUnit.unit⟩, List.append._f (([] : List Step)) PUnit.unit, PUnit.unit⟩, List.append._f q23 ⟨List.append._f q22 ⟨List.append._f (([] : List Step)) PUnit.unit, PUnit.unit⟩, List.append._f (([] : List Step)) PUnit.unit, PUnit.unit⟩, List.append._f q22 ⟨List.append._f (([] : List Step)) PUnit.unit, PUnit.unit⟩, List.append._f (([] : List Step)) PUnit.unit, PUnit.unit⟩ q23;
let q38 : Prop := q11 ∧ q12 ∧ True;
let q39 : Nat := q6.toNat;
let q40 : Nat × Nat × List Int := (q9, (0 : Go.FuncId), ([] : List Int));
∀ (x : (List (List (Int × Int × Int × Unit)) × Unit) × List Int × Unit),
  let q41 : Nat := x.1.1.length;
  let q42 : Prop := x.2.1 = x.2.1;
  let q43 : Prop := x.1.1 = x.1.1;
  let q44 : Int := (↑q41 : Int);
  let q45 : Prop := q44 = q44;
  let q46 : Prop := q42 ∧ q11 ∧ q12 ∧ q43 ∧ q45 ∧ True;
  let q47 : (List (List (Int × Int × Int × Unit)) × Unit) × List (Int × Int × List (Int × Int × Int × Bool × Unit) × List (List Int) × Unit) × List (List Int) × (List (Int × (Int × Int × Int × Unit) × Int × Unit) × List Int × List (List Int) × List Int × Unit) × Unit := Sp.loopN (Sp.mu (Sp.init x.1)) (Sp.init x.1) x.2.1;
  Sp.okT x.1 →
    dFact (((Ty.int IntKind.i64).prod ((Ty.int IntKind.i64).prod ((Ty.int IntKind.i64).prod Ty.unit))).slice.slice.prod Ty.unit) x.1 ∧ dFact (Ty.int IntKind.i64).slice x.2.1 ∧ True →
      q1 ∧
        ((True ∧ q3 ∧ True ∧ q3 ∧ q5) ∧ True) ∧
          (q5 ∧ True) ∧
            (∃ (x_1 : Nat), x_1 ≤ q41 ∧ q6 = (↑x_1 : Int) ∧ (x.1, ([] : List tCore.den), List.replicate q7 q6 :: ([] : List (Ty.int IntKind.i32).slice.den), (([] : List tLEv.den), ([] : List tI.den), List.replicate q7 (([] : List tI.den)), q8), ()) = Sp.machN x.1 x_1 x_1 q9 ∧ q46) ∧
              ∀ (x_1 : Nat),
                let q48 : (List (List (Int × Int × Int × Unit)) × Unit) × List (Int × Int × List (Int × Int × Int × Bool × Unit) × List (List Int) × Unit) × List (List Int) × (List (Int × (Int × Int × Int × Unit) × Int × Unit) × List Int × List (List Int) × List Int × Unit) × Unit := Sp.machN x.1 x_1 x_1 q9;
                let q49 : Bool := decide ((↑x_1 : Int) < q44);
                let q50 : List (Int × Int × List (Int × Int × Int × Bool × Unit) × List (List Int) × Unit) := Sp.coresN x.1.1 x_1;
                let q51 : List (Int × (Int × Int × Int × Unit) × Int × Unit) := Sp.evN x.1.1 x_1 q9;
                let q52 : List (Int × Int × List (Int × Int × Int × Bool × Unit) × List (List Int) × Unit) := ((↑q51.length : Int), q15) :: ([] : List tCore.den);
                let q53 : Nat := List.length (x.1.1.getD x_1 (([] : List tLOp.den)));
                let q54 : Nat := x_1 + q30;
                let q55 : Prop := (↑x_1 : Int) = (↑x_1 : Int);
                let q56 : List (Int × Int × Int × Unit) := x.1.1.getD (↑x_1 : Int).toNat (([] : List tLOp.den));
                let q57 : Nat := q56.length;
                let q58 : Int := (↑q57 : Int);
                let q59 : Prop := q42 ∧ q11 ∧ q12 ∧ q55 ∧ q43 ∧ q45 ∧ q55 ∧ q56 = q56 ∧ q58 = q58 ∧ True;
                let q60 : Int := (↑x_1 : Int) + q27;
                x_1 ≤ q41 →
                  dFact (Ty.int IntKind.i64) (↑x_1 : Int) ∧ dFact ((((Ty.int IntKind.i64).prod ((Ty.int IntKind.i64).prod ((Ty.int IntKind.i64).prod Ty.unit))).slice.slice.prod Ty.unit).prod (((Ty.int IntKind.i64).prod ((Ty.int IntKind.i64).prod (((Ty.int IntKind.i64).prod ((Ty.int IntKind.i64).prod ((Ty.int IntKind.i32).prod (Ty.bool.prod Ty.unit)))).slice.prod ((Ty.arr q13 (Ty.int IntKind.i64).slice).prod Ty.unit)))).slice.prod ((Ty.int IntKind.i32).slice.slice.prod ((((Ty.int IntKind.i64).prod (((Ty.int IntKind.i64).prod ((Ty.int IntKind.i64).prod ((Ty.int IntKind.i64).prod Ty.unit))).prod ((Ty.int IntKind.i64).prod Ty.unit))).slice.prod ((Ty.int IntKind.i64).slice.prod ((Ty.int IntKind.i64).slice.slice.prod ((Ty.int IntKind.i64).slice.prod Ty.unit)))).prod Ty.unit)))) q48 ∧ True →
                    q14 ∧
                      (q49 = true →
                          ((True ∧ inN (↑x_1 : Int) q41 ∧ q4) ∧ True) ∧
                            (((True ∧ True ∧ True ∧ True ∧ True ∧ True ∧ True ∧ True ∧ True ∧ True ∧ True ∧ True ∧ True ∧ (↑(q50.length + q52.length) : Int) ≤ maxNew ∧ q0) ∧ True ∧ True ∧ True ∧ True ∧ True ∧ True ∧ True ∧ True ∧ True ∧ True ∧ True ∧ True ∧ True ∧ ((True ∧ True ∧ True ∧ True ∧ (Step.snd = Step.snd ∧ q16) ∧ q20) ∧ q21) ∧ q0) ∧ q24 = q24 ∧ True) ∧
                              q25 ∧
                                (∃ (x_2 : Nat), x_2 ≤ q53 ∧ q6 = (↑x_2 : Int) ∧ (x.1, q50 ++ q52, q26, (q51, List.replicate q51.length q28, q29), ()) = Sp.machN x.1 q54 x_1 x_2 ∧ q59) ∧
                                  ∀ (x_2 : Nat),
                                    let q61 : (List (List (Int × Int × Int × Unit)) × Unit) × List (Int × Int × List (Int × Int × Int × Bool × Unit) × List (List Int) × Unit) × List (List Int) × (List (Int × (Int × Int × Int × Unit) × Int × Unit) × List Int × List (List Int) × List Int × Unit) × Unit := Sp.machN x.1 q54 x_1 x_2;
                                    let q62 : Bool := decide ((↑x_2 : Int) < q58);
                                    let q63 : List (Int × (Int × Int × Int × Unit) × Int × Unit) := Sp.evN x.1.1 x_1 x_2;
                                    let q64 : List (Int × (Int × Int × Int × Unit) × Int × Unit) := ((↑x_1 : Int), q56.getD (↑x_2 : Int).toNat q32, q31) :: ([] : List tLEv.den);
                                    let q65 : List Int := List.replicate q63.length q28;
                                    let q66 : Int := (↑x_2 : Int) + q27;
                                    x_2 ≤ q53 → dFact (Ty.int IntKind.i64) (↑x_2 : Int) ∧ dFact ((((Ty.int IntKind.i64).prod ((Ty.int IntKind.i64).prod ((Ty.int IntKind.i64).prod Ty.unit))).slice.slice.prod Ty.unit).prod (((Ty.int IntKind.i64).prod ((Ty.int IntKind.i64).prod (((Ty.int IntKind.i64).prod ((Ty.int IntKind.i64).prod ((Ty.int IntKind.i32).prod (Ty.bool.prod Ty.unit)))).slice.prod ((Ty.arr q13 (Ty.int IntKind.i64).slice).prod Ty.unit)))).slice.prod ((Ty.int IntKind.i32).slice.slice.prod ((((Ty.int IntKind.i64).prod (((Ty.int IntKind.i64).prod ((Ty.int IntKind.i64).prod ((Ty.int IntKind.i64).prod Ty.unit))).prod ((Ty.int IntKind.i64).prod Ty.unit))).slice.prod ((Ty.int IntKind.i64).slice.prod ((Ty.int IntKind.i64).slice.slice.prod ((Ty.int IntKind.i64).slice.prod Ty.unit)))).prod Ty.unit)))) q61 ∧ True → q14 ∧ (q62 = true → ((inN (↑x_2 : Int) q57 ∧ q0) ∧ True ∧ True) ∧ (((True ∧ True ∧ True ∧ True ∧ True ∧ True ∧ True ∧ True ∧ True ∧ True ∧ (↑(q63.length + q64.length) : Int) ≤ maxNew ∧ q4) ∧ True ∧ True ∧ True ∧ True ∧ True ∧ True ∧ True ∧ True ∧ True ∧ True ∧ ((True ∧ True ∧ True ∧ True ∧ True ∧ (Step.snd = Step.snd ∧ Step.snd = Step.snd ∧ Step.snd = Step.snd ∧ Step.fst = Step.fst ∧ q16) ∧ q19) ∧ q21) ∧ q4) ∧ q35 = q35 ∧ True) ∧ (q18 ∧ (↑(q65.length + q36.length) : Int) ≤ maxNew ∧ True ∧ True ∧ True ∧ q37 = q37 ∧ True) ∧ ((inK IntKind.i64 q66 ∧ True ∧ True) ∧ True) ∧ ∃ (y : Nat), y ≤ q53 ∧ q53 - y < q53 - x_2 ∧ q66 = (↑y : Int) ∧ (x.1, Sp.coresN x.1.1 q54, q26, (q63 ++ q64, q65 ++ q36, q29), ()) = Sp.machN x.1 q54 x_1 y ∧ q59) ∧ (q62 = false → ((inK IntKind.i64 q60 ∧ True ∧ True) ∧ True) ∧ ∃ (y : Nat), y ≤ q41 ∧ q41 - y < q41 - x_1 ∧ q60 = (↑y : Int) ∧ q61 = Sp.machN x.1 y y q9 ∧ q46)) ∧
                        (q49 = false →
                          ∀ (q : Nat),
                            ((True ∧ True) ∧ Sp.OkM q48 ∧ True ∧ True) ∧
                              (∃ (x_2 : Nat × Sp.Mach × List Int), (Sp.OkM x_2.2.1 ∧ x_2.2.1.1 = x.1 ∧ Sp.mu x_2.2.1 ≤ x_2.1 ∧ Sp.loopN x_2.1 x_2.2.1 x_2.2.2 = q47) ∧ q48 = x_2.2.1 ∧ x.2.1 = x_2.2.2 ∧ Sp.up q (Sp.things q48) = Sp.up q (Sp.things x_2.2.1) ∧ q38) ∧
                                ∀ (x_2 : Nat × Sp.Mach × List Int),
                                  let q67 : List (Option (Nat × Nat × List Int)) := Sp.up q (Sp.things x_2.2.1);
                                  let q68 : Nat := q67.length;
                                  let q69 : Int := (↑q68 : Int);
                                  let q70 : Bool := decide (q69 > q6);
                                  let q71 : Nat := x_2.2.2.length;
                                  let q72 : Int := (↑q71 : Int);
                                  let q73 : Bool := decide (q72 > q6);
                                  let q74 : Prop := q69 ≠ q6;
                                  let q75 : Int := Int.tmod (x_2.2.2.getD q39 q6) q69 + q69;
                                  let q76 : Int := q75.tmod q69;
                                  let q77 : Nat × Nat × List Int := Option.rec q40 (fun (val : Nat × Go.FuncId × List Int) => (fun (x : Nat × Go.FuncId × List Int) => x) val) (q67.getD q76.toNat Option.none);
                                  let q78 : Nat × List Int := q77.2;
                                  let q79 : (List (List (Int × Int × Int × Unit)) × Unit) × List (Int × Int × List (Int × Int × Int × Bool × Unit) × List (List Int) × Unit) × List (List Int) × (List (Int × (Int × Int × Int × Unit) × Int × Unit) × List Int × List (List Int) × List Int × Unit) × Unit := Sp.runT q78 x_2.2.1;
                                  let q80 : Nat × Nat × List Int := Option.rec q40 (fun (val : Nat × Go.FuncId × List Int) => (fun (x : Nat × Go.FuncId × List Int) => x) val) (q67.getD q39 Option.none);
                                  let q81 : Nat × List Int := q80.2;
                                  let q82 : (List (List (Int × Int × Int × Unit)) × Unit) × List (Int × Int × List (Int × Int × Int × Bool × Unit) × List (List Int) × Unit) × List (List Int) × (List (Int × (Int × Int × Int × Unit) × Int × Unit) × List Int × List (List Int) × List Int × Unit) × Unit := Sp.runT q81 x_2.2.1;
                                  let q83 : Int := (↑x_2.2.1.2.1.length : Int);
                                  let q84 : Prop := q11 ∧ q12 ∧ q83 = q83 ∧ True;
                                  Sp.OkM x_2.2.1 ∧ x_2.2.1.1 = x.1 ∧ Sp.mu x_2.2.1 ≤ x_2.1 ∧ Sp.loopN x_2.1 x_2.2.1 x_2.2.2 = q47 →
                                    dFact ((((Ty.int IntKind.i64).prod ((Ty.int IntKind.i64).prod ((Ty.int IntKind.i64).prod Ty.unit))).slice.slice.prod Ty.unit).prod (((Ty.int IntKind.i64).prod ((Ty.int IntKind.i64).prod (((Ty.int IntKind.i64).prod ((Ty.int IntKind.i64).prod ((Ty.int IntKind.i32).prod (Ty.bool.prod Ty.unit)))).slice.prod ((Ty.arr q13 (Ty.int IntKind.i64).slice).prod Ty.unit)))).slice.prod ((Ty.int IntKind.i32).slice.slice.prod ((((Ty.int IntKind.i64).prod (((Ty.int IntKind.i64).prod ((Ty.int IntKind.i64).prod ((Ty.int IntKind.i64).prod Ty.unit))).prod ((Ty.int IntKind.i64).prod Ty.unit))).slice.prod ((Ty.int IntKind.i64).slice.prod ((Ty.int IntKind.i64).slice.slice.prod ((Ty.int IntKind.i64).slice.prod Ty.unit)))).prod Ty.unit)))) x_2.2.1 ∧ dFact (Ty.int IntKind.i64).slice x_2.2.2 ∧ dFact (Ty.abs Abs.thk).slice q67 ∧ True →
                                      q25 ∧
                                        (q70 = true → q14 ∧ q25 ∧ (q73 = true → ((True ∧ inN q6 q71 ∧ True ∧ True ∧ True ∧ q74 ∧ True ∧ True ∧ inK IntKind.i64 q75 ∧ True ∧ True ∧ q74 ∧ True ∧ True) ∧ True) ∧ ((True ∧ winI q27 q72 q71 ∧ True ∧ True) ∧ True) ∧ ((True ∧ True ∧ inN q76 q68 ∧ True ∧ True) ∧ (Option.isSome (q67.getD q76.toNat Option.none) = true ∧ q77.1 = q ∧ Sp.preT q78 x_2.2.1) ∧ True) ∧ ((True ∧ True) ∧ Sp.OkM q79 ∧ True ∧ True) ∧ ∃ (y : Nat × Sp.Mach × List Int), (Sp.OkM y.2.1 ∧ y.2.1.1 = x.1 ∧ Sp.mu y.2.1 ≤ y.1 ∧ Sp.loopN y.1 y.2.1 y.2.2 = q47) ∧ y.1 < x_2.1 ∧ q79 = y.2.1 ∧ win q27 q72 x_2.2.2 = y.2.2 ∧ Sp.up q (Sp.things q79) = Sp.up q (Sp.things y.2.1) ∧ q38) ∧ (q73 = false → ((True ∧ True ∧ inN q6 q68 ∧ True ∧ True) ∧ (Option.isSome (q67.getD q39 Option.none) = true ∧ q80.1 = q ∧ Sp.preT q81 x_2.2.1) ∧ True) ∧ ((True ∧ True) ∧ Sp.OkM q82 ∧ True ∧ True) ∧ ∃ (y : Nat × Sp.Mach × List Int), (Sp.OkM y.2.1 ∧ y.2.1.1 = x.1 ∧ Sp.mu y.2.1 ≤ y.1 ∧ Sp.loopN y.1 y.2.1 y.2.2 = q47) ∧ y.1 < x_2.1 ∧ q82 = y.2.1 ∧ x_2.2.2 = y.2.2 ∧ Sp.up q (Sp.things q82) = Sp.up q (Sp.things y.2.1) ∧ q38)) ∧
                                          (q70 = false →
                                            (q17 ∧ True) ∧
                                              (∃ (x : Nat), (x ≤ q41 ∧ Sp.OkM (Sp.flAll x q47) ∧ (Sp.flAll x q47).2.1.length = q41) ∧ q6 = (↑x : Int) ∧ x_2.2.1 = Sp.flAll x q47 ∧ q84) ∧
                                                ∀ (x_3 : Nat),
                                                  let q85 : Prop := Sp.OkM (Sp.flAll x_3 q47);
                                                  let q86 : Bool := decide ((↑x_3 : Int) < q83);
                                                  let q87 : Int := (↑x_3 : Int) + q27;
                                                  x_3 ≤ q41 ∧ q85 ∧ (Sp.flAll x_3 q47).2.1.length = q41 → dFact (Ty.int IntKind.i64) (↑x_3 : Int) ∧ dFact ((((Ty.int IntKind.i64).prod ((Ty.int IntKind.i64).prod ((Ty.int IntKind.i64).prod Ty.unit))).slice.slice.prod Ty.unit).prod (((Ty.int IntKind.i64).prod ((Ty.int IntKind.i64).prod (((Ty.int IntKind.i64).prod ((Ty.int IntKind.i64).prod ((Ty.int IntKind.i32).prod (Ty.bool.prod Ty.unit)))).slice.prod ((Ty.arr q13 (Ty.int IntKind.i64).slice).prod Ty.unit)))).slice.prod ((Ty.int IntKind.i32).slice.slice.prod ((((Ty.int IntKind.i64).prod (((Ty.int IntKind.i64).prod ((Ty.int IntKind.i64).prod ((Ty.int IntKind.i64).prod Ty.unit))).prod ((Ty.int IntKind.i64).prod Ty.unit))).slice.prod ((Ty.int IntKind.i64).slice.prod ((Ty.int IntKind.i64).slice.slice.prod ((Ty.int IntKind.i64).slice.prod Ty.unit)))).prod Ty.unit)))) (Sp.flAll x_3 q47) ∧ True → q14 ∧ (q86 = true → q1 ∧ (q0 ∧ (q85 ∧ Sp.inC (Sp.flAll x_3 q47) (↑x_3 : Int)) ∧ True) ∧ ((inK IntKind.i64 q87 ∧ True ∧ True) ∧ True) ∧ ∃ (y : Nat), (y ≤ q41 ∧ Sp.OkM (Sp.flAll y q47) ∧ (Sp.flAll y q47).2.1.length = q41) ∧ q41 - y < q41 - x_3 ∧ q87 = (↑y : Int) ∧ Sp.flushM (Sp.flAll x_3 q47) (↑x_3 : Int) = Sp.flAll y q47 ∧ q84) ∧ (q86 = false → (q5 ∧ True ∧ True) ∧ (Sp.flAll x_3 q47).2.2.2.1 = (Sp.gE x.1 x.2.1, Sp.gF x.1 x.2.1, Sp.gM x.1 x.2.1, Sp.gO x.1 x.2.1, ()))))) := by kernel_rfl
end Go.User
