/- Written by gen.py: what is left to show of each function. The machine of the caches runs to its end. A run of a litmus test on caches: proved. A run of a litmus test on caches computes what it should. The laws of the caches: what their loops keep. Written by gen.py: what is left to show of each function. -/
import Derived.Test.YtohcfjfnmgkadaaLfi
set_option linter.unusedVariables false
set_option linter.unusedSimpArgs false
namespace Go.User
open Go.Proofs Go.Lf
set_option maxRecDepth 100000
theorem vc25 : (∀ q : Nat, funP (C25 q) (stpR (C25 q)) (S25 q) (L25 q) Try.f25) = (
let q0 : Nat := (3 : Nat);
let q1 : Prop := True ∧ True ∧ True;
let q2 : Prop := q1 ∧ True;
let q3 : Prop := (True ∧ True) ∧ True;
let q4 : Prop := True ∧ q1;
let q5 : Prop := True ∧ q4;
let q6 : Prop := (True ∧ True ∧ q5) ∧ True;
let q7 : Int := (0 : Int);
let q8 : List (Ty.abs Abs.thk).den := ([] : List (Ty.abs Abs.thk).den);
let q9 : Prop := q1 ∧ True ∧ True;
let q10 : Int × Int × List (Int × Int × Int × Bool × Unit) × List (List Int) × Unit := (q7, q7, ([] : List tW.den), List.replicate q0 (([] : List tI.den)), ());
let q11 : Nat := (46 : Nat);
let q12 : Int := (1 : Int);
let q13 : Nat := (48 : Nat);
∀ (q : Nat) (x : (List (List (Int × Int × Int × Unit)) × Unit) × List (Int × Int × List (Int × Int × Int × Bool × Unit) × List (List Int) × Unit) × List (List Int) × (List (Int × (Int × Int × Int × Unit) × Int × Unit) × List Int × List (List Int) × List Int × Unit) × Unit),
  let q14 : Nat := x.2.1.length;
  let q15 : Prop := x = x;
  let q16 : Int := (↑q14 : Int);
  let q17 : Prop := q16 = q16;
  let q18 : Prop := q15 ∧ True ∧ q17 ∧ True;
  let q19 : List (Option (Nat × Nat × List Int)) := Sp.up q (Sp.things x);
  ∀ (y : Unit),
    Sp.OkM x →
      dFact ((((Ty.int IntKind.i64).prod ((Ty.int IntKind.i64).prod ((Ty.int IntKind.i64).prod Ty.unit))).slice.slice.prod Ty.unit).prod (((Ty.int IntKind.i64).prod ((Ty.int IntKind.i64).prod (((Ty.int IntKind.i64).prod ((Ty.int IntKind.i64).prod ((Ty.int IntKind.i32).prod (Ty.bool.prod Ty.unit)))).slice.prod ((Ty.arr q0 (Ty.int IntKind.i64).slice).prod Ty.unit)))).slice.prod ((Ty.int IntKind.i32).slice.slice.prod ((((Ty.int IntKind.i64).prod (((Ty.int IntKind.i64).prod ((Ty.int IntKind.i64).prod ((Ty.int IntKind.i64).prod Ty.unit))).prod ((Ty.int IntKind.i64).prod Ty.unit))).slice.prod ((Ty.int IntKind.i64).slice.prod ((Ty.int IntKind.i64).slice.slice.prod ((Ty.int IntKind.i64).slice.prod Ty.unit)))).prod Ty.unit)))) x →
        True →
          q2 ∧
            q3 ∧
              q6 ∧
                (∃ (x_1 : Nat), x_1 ≤ q14 ∧ q7 = (↑x_1 : Int) ∧ Sp.up q (Sp.th1 x x_1) = q8 ∧ q18) ∧
                  ∀ (x_1 : Nat),
                    let q20 : List (Option (Nat × Nat × List Int)) := Sp.up q (Sp.th1 x x_1);
                    let q21 : Bool := decide ((↑x_1 : Int) < q16);
                    let q22 : Nat := (↑x_1 : Int).toNat;
                    let q23 : Bool := decide ((x.2.1.getD q22 q10).2.1 < (↑(List.length (x.1.1.getD q22 (([] : List tLOp.den)))) : Int));
                    let q24 : Nat := q20.length;
                    let q25 : List (Ty.abs Abs.thk).den := Option.some (q, q11, (↑x_1 : Int) :: ([] : List Int)) :: q8;
                    let q26 : Int := (↑x_1 : Int) + q12;
                    let q27 : Prop := (inK IntKind.i64 q26 ∧ True ∧ True) ∧ True;
                    let q28 : Bool := (↑q24 : Int) == q7;
                    x_1 ≤ q14 →
                      dFact (Ty.int IntKind.i64) (↑x_1 : Int) ∧ dFact (Ty.abs Abs.thk).slice q20 ∧ True →
                        q3 ∧
                          (q21 = true → q9 ∧ ((True ∧ True ∧ True ∧ True ∧ True ∧ inN (↑x_1 : Int) q14 ∧ True ∧ True ∧ True ∧ True ∧ True ∧ True ∧ True ∧ True ∧ inN (↑x_1 : Int) x.1.1.length ∧ q4) ∧ True) ∧ (q23 = true → ((True ∧ True) ∧ True ∧ True ∧ (↑(q24 + q25.length) : Int) ≤ maxNew ∧ True ∧ True) ∧ q27 ∧ ∃ (y : Nat), y ≤ q14 ∧ q14 - y < q14 - x_1 ∧ q26 = (↑y : Int) ∧ q20 ++ q25 = Sp.up q (Sp.th1 x y) ∧ q18) ∧ (q23 = false → q27 ∧ ∃ (y : Nat), y ≤ q14 ∧ q14 - y < q14 - x_1 ∧ q26 = (↑y : Int) ∧ q20 = Sp.up q (Sp.th1 x y) ∧ q18)) ∧
                            (q21 = false →
                              (q4 ∧ True) ∧
                                (q28 = true → q3 ∧ q15 ∧ q8 = q19 ∧ false = false) ∧
                                  (q28 = false →
                                    q6 ∧
                                      (∃ (x_2 : Nat), x_2 ≤ q14 ∧ q7 = (↑x_2 : Int) ∧ q20 = Sp.up q (Sp.th12 x x_2) ∧ q18) ∧
                                        ∀ (x_2 : Nat),
                                          let q29 : List (Option (Nat × Nat × List Int)) := Sp.up q (Sp.th12 x x_2);
                                          let q30 : Bool := decide ((↑x_2 : Int) < q16);
                                          let q31 : Nat := (Sp.co x.2.1 (↑x_2 : Int)).2.2.1.length;
                                          let q32 : Int := (↑(List.length (x.2.1.getD (↑x_2 : Int).toNat q10).2.2.1) : Int);
                                          let q33 : Prop := q15 ∧ True ∧ q17 ∧ (↑x_2 : Int) = (↑x_2 : Int) ∧ q32 = q32 ∧ (↑x_2 : Int) = (↑x_2 : Int) ∧ True;
                                          let q34 : Int := (↑x_2 : Int) + q12;
                                          x_2 ≤ q14 →
                                            dFact (Ty.int IntKind.i64) (↑x_2 : Int) ∧ dFact (Ty.abs Abs.thk).slice q29 ∧ True →
                                              q3 ∧
                                                (q30 = true →
                                                    q9 ∧
                                                      ((True ∧ True ∧ True ∧ True ∧ True ∧ inN (↑x_2 : Int) q14 ∧ q5) ∧ True) ∧
                                                        (∃ (x_3 : Nat), x_3 ≤ q31 ∧ q7 = (↑x_3 : Int) ∧ q29 = Sp.up q (Sp.th123 x x_2 x_3) ∧ q33) ∧
                                                          ∀ (x_3 : Nat),
                                                            let q35 : List (Option (Nat × Nat × List Int)) := Sp.up q (Sp.th123 x x_2 x_3);
                                                            let q36 : Bool := decide ((↑x_3 : Int) < q32);
                                                            let q37 : List (Ty.abs Abs.thk).den := Option.some (q, q13, (↑x_2 : Int) :: (↑x_3 : Int) :: ([] : List Int)) :: q8;
                                                            let q38 : Int := (↑x_3 : Int) + q12;
                                                            x_3 ≤ q31 → dFact (Ty.int IntKind.i64) (↑x_3 : Int) ∧ dFact (Ty.abs Abs.thk).slice q35 ∧ True → q3 ∧ (q36 = true → q9 ∧ ((True ∧ True) ∧ True ∧ True ∧ (↑(q35.length + q37.length) : Int) ≤ maxNew ∧ True ∧ True) ∧ ((inK IntKind.i64 q38 ∧ True ∧ True) ∧ True) ∧ ∃ (y : Nat), y ≤ q31 ∧ q31 - y < q31 - x_3 ∧ q38 = (↑y : Int) ∧ q35 ++ q37 = Sp.up q (Sp.th123 x x_2 y) ∧ q33) ∧ (q36 = false → ((inK IntKind.i64 q34 ∧ True ∧ True) ∧ True) ∧ ∃ (y : Nat), y ≤ q14 ∧ q14 - y < q14 - x_2 ∧ q34 = (↑y : Int) ∧ q35 = Sp.up q (Sp.th12 x y) ∧ q18)) ∧
                                                  (q30 = false → q2 ∧ q15 ∧ q29 = q19 ∧ false = false)))) := by kernel_rfl
theorem vc16 : (funJ C16a (stpR C16a) C16b (fun q => stpR (C16b q)) t16 fl16 S16 L16a L16b Try.f16) = (
let q0 : Prop := True ∧ True ∧ True;
let q1 : Prop := q0 ∧ True;
let q2 : Int := (3 : Int);
let q3 : Prop := (0 : (Ty.int IntKind.i64).den) ≤ q2 ∧ q2 ≤ q2 ∧ q2 ≤ maxNew;
let q4 : Prop := True ∧ q0;
let q5 : Prop := True ∧ q4;
let q6 : Int := (0 : Int);
let q7 : Nat := q2.toNat;
let q8 : List Int × Unit := (([] : List tI.den), ());
let q9 : Nat := (0 : Nat);
let q10 : List (Int × (Int × Int × Int × Unit) × Int × Unit) × List Int × List (List Int) × List Int × Unit := (([] : List tLEv.den), ([] : List tI.den), ([] : List tI.slice.den), q8);
let q11 : Prop := q10 = q10;
let q12 : Prop := ([] : List Step) = ([] : List Step);
let q13 : Nat := (3 : Nat);
let q14 : Prop := (True ∧ True) ∧ True;
let q15 : Int × List (Int × Int × Int × Bool × Unit) × List (List Int) × Unit := (q6, ([] : List tW.den), List.replicate q13 (([] : List tI.den)), ());
let q16 : Prop := Step.fst = Step.fst ∧ True;
let q17 : Prop := True ∧ True ∧ q5;
let q18 : Prop := True ∧ q17;
let q19 : Prop := True ∧ q18;
let q20 : Prop := True ∧ True ∧ True ∧ q19;
let q21 : Prop := True ∧ True ∧ True ∧ True ∧ True ∧ True ∧ True ∧ True ∧ True ∧ True ∧ True ∧ True ∧ True ∧ True ∧ True ∧ True ∧ True ∧ True ∧ True ∧ True ∧ True ∧ True ∧ True ∧ True ∧ True ∧ True ∧ True ∧ True ∧ True ∧ True ∧ True ∧ True ∧ True ∧ True ∧ True ∧ True ∧ True ∧ True ∧ True ∧ True ∧ True ∧ True ∧ True ∧ True ∧ True ∧ True ∧ True ∧ True ∧ True ∧ True ∧ True ∧ True ∧ True ∧ True ∧ True ∧ True ∧ True ∧ True ∧ True ∧ True ∧ True ∧ True ∧ True ∧ True ∧ True ∧ True ∧ True ∧ True ∧ True ∧ True ∧ True ∧ True ∧ True ∧ True ∧ True ∧ True ∧ True ∧ True ∧ True ∧ True ∧ True ∧ True ∧ True ∧ True ∧ True ∧ True ∧ True ∧ True ∧ True ∧ True ∧ True ∧ True ∧ True ∧ True ∧ True ∧ True ∧ True ∧ True ∧ True ∧ True ∧ True ∧ True ∧ True ∧ True ∧ True ∧ True ∧ True ∧ True ∧ True ∧ True ∧ True ∧ q20;
let q22 : List Step := Step.fst :: ([] : List Step);
let q23 : List Step := Step.snd :: q22;
let q24 : List Step := List.append._f (([] : List Step)) PUnit.unit q23;
let q25 : Prop := q4 ∧ True;
let q26 : List (List Int) := (q6 :: q6 :: q6 :: ([] : List Int)) :: ([] : List (List Int));
let q27 : Int := (1 : Int);
let q28 : Int := -q27;
let q29 : List (List Int) × List Int × Unit := (([] : List Int) :: ([] : List Int) :: ([] : List Int) :: ([] : List (List Int)), ([] : List Int), ());
let q30 : Nat := (1 : Nat);
let q31 : Int × Unit := (q6, ());
let q32 : Int × Int × Int × Unit := (q6, q6, q31);
let q33 : List Step := Step.snd :: q23;
let q34 : List Step := Step.snd :: q33;
let q35 : List Step := List.append._f q34 ⟨List.append._f q33 ⟨List.append._f q23 ⟨List.append._f q22 ⟨List.append._f (([] : List Step)) PUnit.unit, PUnit.unit⟩, List.append._f (([] : List Step)) PUnit.unit, PUnit.unit⟩, List.append._f q22 ⟨List.append._f (([] : List Step)) PUnit.unit, PUnit.unit⟩, List.append._f (([] : List Step)) PUnit.unit, PUnit.unit⟩, List.append._f q23 ⟨List.append._f q22 ⟨List.append._f (([] : List Step)) PUnit.unit, PUnit.unit⟩, List.append._f (([] : List Step)) PUnit.unit, PUnit.unit⟩, List.append._f q22 ⟨List.append._f (([] : List Step)) PUnit.unit, PUnit.unit⟩, List.append._f (([] : List Step)) PUnit.unit, PUnit.unit⟩ q22;
let q36 : List Int := q28 :: ([] : List tI.den);
let q37 : List Step := List.append._f q34 ⟨List.append._f q33 ⟨List.append._f q23 ⟨List.append._f q22 ⟨List.append._f (([] : List Step)) PUnit.unit, PUnit.unit⟩, List.append._f (([] : List Step)) PUnit.unit, PUnit.unit⟩, List.append._f q22 ⟨List.append._f (([] : List Step)) PUnit.unit, PUnit.unit⟩, List.append._f (([] : List Step)) PUnit.unit, PUnit.unit⟩, List.append._f q23 ⟨List.append._f q22 ⟨List.append._f (([] : List Step)) PUnit.unit, PUnit.unit⟩, List.append._f (([] : List Step)) PUnit.unit, PUnit.unit⟩, List.append._f q22 ⟨List.append._f (([] : List Step)) PUnit.unit, PUnit.unit⟩, List.append._f (([] : List Step)) PUnit.unit, PUnit.unit⟩ q23;
let q38 : Prop := q11 ∧ q12 ∧ True;
let q39 : Nat := q6.toNat;
let q40 : Nat × Nat × List Int := (q9, (0 : Go.FuncId), ([] : List Int));
∀ (x : (List (List (Int × Int × Int × Unit)) × Unit) × List Int × Unit),
  let q41 : Nat := x.1.1.length;
  let q42 : Prop := x.2.1 = x.2.1;
  let q43 : Prop := x.1.1 = x.1.1;
  let q44 : Int := (↑q41 : Int);
  let q45 : Prop := q44 = q44;
  let q46 : Prop := q42 ∧ q11 ∧ q12 ∧ q43 ∧ q45 ∧ True;
  let q47 : (List (List (Int × Int × Int × Unit)) × Unit) × List (Int × Int × List (Int × Int × Int × Bool × Unit) × List (List Int) × Unit) × List (List Int) × (List (Int × (Int × Int × Int × Unit) × Int × Unit) × List Int × List (List Int) × List Int × Unit) × Unit := Sp.loopN (Sp.mu (Sp.init x.1)) (Sp.init x.1) x.2.1;
  Sp.okT x.1 →
    dFact (((Ty.int IntKind.i64).prod ((Ty.int IntKind.i64).prod ((Ty.int IntKind.i64).prod Ty.unit))).slice.slice.prod Ty.unit) x.1 ∧ dFact (Ty.int IntKind.i64).slice x.2.1 ∧ True →
      q1 ∧
        ((True ∧ q3 ∧ True ∧ q3 ∧ q5) ∧ True) ∧
          (q5 ∧ True) ∧
            (∃ (x_1 : Nat), x_1 ≤ q41 ∧ q6 = (↑x_1 : Int) ∧ (x.1, ([] : List tCore.den), List.replicate q7 q6 :: ([] : List (Ty.int IntKind.i32).slice.den), (([] : List tLEv.den), ([] : List tI.den), List.replicate q7 (([] : List tI.den)), q8), ()) = Sp.machN x.1 x_1 x_1 q9 ∧ q46) ∧
              ∀ (x_1 : Nat),
                let q48 : (List (List (Int × Int × Int × Unit)) × Unit) × List (Int × Int × List (Int × Int × Int × Bool × Unit) × List (List Int) × Unit) × List (List Int) × (List (Int × (Int × Int × Int × Unit) × Int × Unit) × List Int × List (List Int) × List Int × Unit) × Unit := Sp.machN x.1 x_1 x_1 q9;
                let q49 : Bool := decide ((↑x_1 : Int) < q44);
                let q50 : List (Int × Int × List (Int × Int × Int × Bool × Unit) × List (List Int) × Unit) := Sp.coresN x.1.1 x_1;
                let q51 : List (Int × (Int × Int × Int × Unit) × Int × Unit) := Sp.evN x.1.1 x_1 q9;
                let q52 : List (Int × Int × List (Int × Int × Int × Bool × Unit) × List (List Int) × Unit) := ((↑q51.length : Int), q15) :: ([] : List tCore.den);
                let q53 : Nat := List.length (x.1.1.getD x_1 (([] : List tLOp.den)));
                let q54 : Nat := x_1 + q30;
                let q55 : Prop := (↑x_1 : Int) = (↑x_1 : Int);
                let q56 : List (Int × Int × Int × Unit) := x.1.1.getD (↑x_1 : Int).toNat (([] : List tLOp.den));
                let q57 : Nat := q56.length;
                let q58 : Int := (↑q57 : Int);
                let q59 : Prop := q42 ∧ q11 ∧ q12 ∧ q55 ∧ q43 ∧ q45 ∧ q55 ∧ q56 = q56 ∧ q58 = q58 ∧ True;
                let q60 : Int := (↑x_1 : Int) + q27;
                x_1 ≤ q41 →
                  dFact (Ty.int IntKind.i64) (↑x_1 : Int) ∧ dFact ((((Ty.int IntKind.i64).prod ((Ty.int IntKind.i64).prod ((Ty.int IntKind.i64).prod Ty.unit))).slice.slice.prod Ty.unit).prod (((Ty.int IntKind.i64).prod ((Ty.int IntKind.i64).prod (((Ty.int IntKind.i64).prod ((Ty.int IntKind.i64).prod ((Ty.int IntKind.i32).prod (Ty.bool.prod Ty.unit)))).slice.prod ((Ty.arr q13 (Ty.int IntKind.i64).slice).prod Ty.unit)))).slice.prod ((Ty.int IntKind.i32).slice.slice.prod ((((Ty.int IntKind.i64).prod (((Ty.int IntKind.i64).prod ((Ty.int IntKind.i64).prod ((Ty.int IntKind.i64).prod Ty.unit))).prod ((Ty.int IntKind.i64).prod Ty.unit))).slice.prod ((Ty.int IntKind.i64).slice.prod ((Ty.int IntKind.i64).slice.slice.prod ((Ty.int IntKind.i64).slice.prod Ty.unit)))).prod Ty.unit)))) q48 ∧ True →
                    q14 ∧
                      (q49 = true →
                          ((True ∧ inN (↑x_1 : Int) q41 ∧ q4) ∧ True) ∧
                            (((True ∧ True ∧ True ∧ True ∧ True ∧ True ∧ True ∧ True ∧ True ∧ True ∧ True ∧ True ∧ True ∧ (↑(q50.length + q52.length) : Int) ≤ maxNew ∧ q0) ∧ True ∧ True ∧ True ∧ True ∧ True ∧ True ∧ True ∧ True ∧ True ∧ True ∧ True ∧ True ∧ True ∧ ((True ∧ True ∧ True ∧ True ∧ (Step.snd = Step.snd ∧ q16) ∧ q20) ∧ q21) ∧ q0) ∧ q24 = q24 ∧ True) ∧
                              q25 ∧
                                (∃ (x_2 : Nat), x_2 ≤ q53 ∧ q6 = (↑x_2 : Int) ∧ (x.1, q50 ++ q52, q26, (q51, List.replicate q51.length q28, q29), ()) = Sp.machN x.1 q54 x_1 x_2 ∧ q59) ∧
                                  ∀ (x_2 : Nat),
                                    let q61 : (List (List (Int × Int × Int × Unit)) × Unit) × List (Int × Int × List (Int × Int × Int × Bool × Unit) × List (List Int) × Unit) × List (List Int) × (List (Int × (Int × Int × Int × Unit) × Int × Unit) × List Int × List (List Int) × List Int × Unit) × Unit := Sp.machN x.1 q54 x_1 x_2;
                                    let q62 : Bool := decide ((↑x_2 : Int) < q58);
                                    let q63 : List (Int × (Int × Int × Int × Unit) × Int × Unit) := Sp.evN x.1.1 x_1 x_2;
                                    let q64 : List (Int × (Int × Int × Int × Unit) × Int × Unit) := ((↑x_1 : Int), q56.getD (↑x_2 : Int).toNat q32, q31) :: ([] : List tLEv.den);
                                    let q65 : List Int := List.replicate q63.length q28;
                                    let q66 : Int := (↑x_2 : Int) + q27;
                                    x_2 ≤ q53 → dFact (Ty.int IntKind.i64) (↑x_2 : Int) ∧ dFact ((((Ty.int IntKind.i64).prod ((Ty.int IntKind.i64).prod ((Ty.int IntKind.i64).prod Ty.unit))).slice.slice.prod Ty.unit).prod (((Ty.int IntKind.i64).prod ((Ty.int IntKind.i64).prod (((Ty.int IntKind.i64).prod ((Ty.int IntKind.i64).prod ((Ty.int IntKind.i32).prod (Ty.bool.prod Ty.unit)))).slice.prod ((Ty.arr q13 (Ty.int IntKind.i64).slice).prod Ty.unit)))).slice.prod ((Ty.int IntKind.i32).slice.slice.prod ((((Ty.int IntKind.i64).prod (((Ty.int IntKind.i64).prod ((Ty.int IntKind.i64).prod ((Ty.int IntKind.i64).prod Ty.unit))).prod ((Ty.int IntKind.i64).prod Ty.unit))).slice.prod ((Ty.int IntKind.i64).slice.prod ((Ty.int IntKind.i64).slice.slice.prod ((Ty.int IntKind.i64).slice.prod Ty.unit)))).prod Ty.unit)))) q61 ∧ True → q14 ∧ (q62 = true → ((inN (↑x_2 : Int) q57 ∧ q0) ∧ True ∧ True) ∧ (((True ∧ True ∧ True ∧ True ∧ True ∧ True ∧ True ∧ True ∧ True ∧ True ∧ (↑(q63.length + q64.length) : Int) ≤ maxNew ∧ q4) ∧ True ∧ True ∧ True ∧ True ∧ True ∧ True ∧ True ∧ True ∧ True ∧ True ∧ ((True ∧ True ∧ True ∧ True ∧ True ∧ (Step.snd = Step.snd ∧ Step.snd = Step.snd ∧ Step.snd = Step.snd ∧ Step.fst = Step.fst ∧ q16) ∧ q19) ∧ q21) ∧ q4) ∧ q35 = q35 ∧ True) ∧ (q18 ∧ (↑(q65.length + q36.length) : Int) ≤ maxNew ∧ True ∧ True ∧ True ∧ q37 = q37 ∧ True) ∧ ((inK IntKind.i64 q66 ∧ True ∧ True) ∧ True) ∧ ∃ (y : Nat), y ≤ q53 ∧ q53 - y < q53 - x_2 ∧ q66 = (↑y : Int) ∧ (x.1, Sp.coresN x.1.1 q54, q26, (q63 ++ q64, q65 ++ q36, q29), ()) = Sp.machN x.1 q54 x_1 y ∧ q59) ∧ (q62 = false → ((inK IntKind.i64 q60 ∧ True ∧ True) ∧ True) ∧ ∃ (y : Nat), y ≤ q41 ∧ q41 - y < q41 - x_1 ∧ q60 = (↑y : Int) ∧ q61 = Sp.machN x.1 y y q9 ∧ q46)) ∧
                        (q49 = false →
                          ∀ (q : Nat),
                            ((True ∧ True) ∧ Sp.OkM q48 ∧ True ∧ True) ∧
                              (∃ (x_2 : Nat × Sp.Mach × List Int), (Sp.OkM x_2.2.1 ∧ x_2.2.1.1 = x.1 ∧ Sp.mu x_2.2.1 ≤ x_2.1 ∧ Sp.loopN x_2.1 x_2.2.1 x_2.2.2 = q47) ∧ q48 = x_2.2.1 ∧ x.2.1 = x_2.2.2 ∧ Sp.up q (Sp.things q48) = Sp.up q (Sp.things x_2.2.1) ∧ q38) ∧
                                ∀ (x_2 : Nat × Sp.Mach × List Int),
                                  let q67 : List (Option (Nat × Nat × List Int)) := Sp.up q (Sp.things x_2.2.1);
                                  let q68 : Nat := q67.length;
                                  let q69 : Int := (↑q68 : Int);
                                  let q70 : Bool := decide (q69 > q6);
                                  let q71 : Nat := x_2.2.2.length;
                                  let q72 : Int := (↑q71 : Int);
                                  let q73 : Bool := decide (q72 > q6);
                                  let q74 : Prop := q69 ≠ q6;
                                  let q75 : Int := Int.tmod (x_2.2.2.getD q39 q6) q69 + q69;
                                  let q76 : Int := q75.tmod q69;
                                  let q77 : Nat × Nat × List Int := Option.rec q40 (fun (val : Nat × Go.FuncId × List Int) => (fun (x : Nat × Go.FuncId × List Int) => x) val) (q67.getD q76.toNat Option.none);
                                  let q78 : Nat × List Int := q77.2;
                                  let q79 : (List (List (Int × Int × Int × Unit)) × Unit) × List (Int × Int × List (Int × Int × Int × Bool × Unit) × List (List Int) × Unit) × List (List Int) × (List (Int × (Int × Int × Int × Unit) × Int × Unit) × List Int × List (List Int) × List Int × Unit) × Unit := Sp.runT q78 x_2.2.1;
                                  let q80 : Nat × Nat × List Int := Option.rec q40 (fun (val : Nat × Go.FuncId × List Int) => (fun (x : Nat × Go.FuncId × List Int) => x) val) (q67.getD q39 Option.none);
                                  let q81 : Nat × List Int := q80.2;
                                  let q82 : (List (List (Int × Int × Int × Unit)) × Unit) × List (Int × Int × List (Int × Int × Int × Bool × Unit) × List (List Int) × Unit) × List (List Int) × (List (Int × (Int × Int × Int × Unit) × Int × Unit) × List Int × List (List Int) × List Int × Unit) × Unit := Sp.runT q81 x_2.2.1;
                                  let q83 : Int := (↑x_2.2.1.2.1.length : Int);
                                  let q84 : Prop := q11 ∧ q12 ∧ q83 = q83 ∧ True;
                                  Sp.OkM x_2.2.1 ∧ x_2.2.1.1 = x.1 ∧ Sp.mu x_2.2.1 ≤ x_2.1 ∧ Sp.loopN x_2.1 x_2.2.1 x_2.2.2 = q47 →
                                    dFact ((((Ty.int IntKind.i64).prod ((Ty.int IntKind.i64).prod ((Ty.int IntKind.i64).prod Ty.unit))).slice.slice.prod Ty.unit).prod (((Ty.int IntKind.i64).prod ((Ty.int IntKind.i64).prod (((Ty.int IntKind.i64).prod ((Ty.int IntKind.i64).prod ((Ty.int IntKind.i32).prod (Ty.bool.prod Ty.unit)))).slice.prod ((Ty.arr q13 (Ty.int IntKind.i64).slice).prod Ty.unit)))).slice.prod ((Ty.int IntKind.i32).slice.slice.prod ((((Ty.int IntKind.i64).prod (((Ty.int IntKind.i64).prod ((Ty.int IntKind.i64).prod ((Ty.int IntKind.i64).prod Ty.unit))).prod ((Ty.int IntKind.i64).prod Ty.unit))).slice.prod ((Ty.int IntKind.i64).slice.prod ((Ty.int IntKind.i64).slice.slice.prod ((Ty.int IntKind.i64).slice.prod Ty.unit)))).prod Ty.unit)))) x_2.2.1 ∧ dFact (Ty.int IntKind.i64).slice x_2.2.2 ∧ dFact (Ty.abs Abs.thk).slice q67 ∧ True →
                                      q25 ∧
                                        (q70 = true → q14 ∧ q25 ∧ (q73 = true → ((True ∧ inN q6 q71 ∧ True ∧ True ∧ True ∧ q74 ∧ True ∧ True ∧ inK IntKind.i64 q75 ∧ True ∧ True ∧ q74 ∧ True ∧ True) ∧ True) ∧ ((True ∧ winI q27 q72 q71 ∧ True ∧ True) ∧ True) ∧ ((True ∧ True ∧ inN q76 q68 ∧ True ∧ True) ∧ (Option.isSome (q67.getD q76.toNat Option.none) = true ∧ q77.1 = q ∧ Sp.preT q78 x_2.2.1) ∧ True) ∧ ((True ∧ True) ∧ Sp.OkM q79 ∧ True ∧ True) ∧ ∃ (y : Nat × Sp.Mach × List Int), (Sp.OkM y.2.1 ∧ y.2.1.1 = x.1 ∧ Sp.mu y.2.1 ≤ y.1 ∧ Sp.loopN y.1 y.2.1 y.2.2 = q47) ∧ y.1 < x_2.1 ∧ q79 = y.2.1 ∧ win q27 q72 x_2.2.2 = y.2.2 ∧ Sp.up q (Sp.things q79) = Sp.up q (Sp.things y.2.1) ∧ q38) ∧ (q73 = false → ((True ∧ True ∧ inN q6 q68 ∧ True ∧ True) ∧ (Option.isSome (q67.getD q39 Option.none) = true ∧ q80.1 = q ∧ Sp.preT q81 x_2.2.1) ∧ True) ∧ ((True ∧ True) ∧ Sp.OkM q82 ∧ True ∧ True) ∧ ∃ (y : Nat × Sp.Mach × List Int), (Sp.OkM y.2.1 ∧ y.2.1.1 = x.1 ∧ Sp.mu y.2.1 ≤ y.1 ∧ Sp.loopN y.1 y.2.1 y.2.2 = q47) ∧ y.1 < x_2.1 ∧ q82 = y.2.1 ∧ x_2.2.2 = y.2.2 ∧ Sp.up q (Sp.things q82) = Sp.up q (Sp.things y.2.1) ∧ q38)) ∧
                                          (q70 = false →
                                            (q17 ∧ True) ∧
                                              (∃ (x : Nat), (x ≤ q41 ∧ Sp.OkM (Sp.flAll x q47) ∧ (Sp.flAll x q47).2.1.length = q41) ∧ q6 = (↑x : Int) ∧ x_2.2.1 = Sp.flAll x q47 ∧ q84) ∧
                                                ∀ (x_3 : Nat),
                                                  let q85 : Prop := Sp.OkM (Sp.flAll x_3 q47);
                                                  let q86 : Bool := decide ((↑x_3 : Int) < q83);
                                                  let q87 : Int := (↑x_3 : Int) + q27;
                                                  x_3 ≤ q41 ∧ q85 ∧ (Sp.flAll x_3 q47).2.1.length = q41 → dFact (Ty.int IntKind.i64) (↑x_3 : Int) ∧ dFact ((((Ty.int IntKind.i64).prod ((Ty.int IntKind.i64).prod ((Ty.int IntKind.i64).prod Ty.unit))).slice.slice.prod Ty.unit).prod (((Ty.int IntKind.i64).prod ((Ty.int IntKind.i64).prod (((Ty.int IntKind.i64).prod ((Ty.int IntKind.i64).prod ((Ty.int IntKind.i32).prod (Ty.bool.prod Ty.unit)))).slice.prod ((Ty.arr q13 (Ty.int IntKind.i64).slice).prod Ty.unit)))).slice.prod ((Ty.int IntKind.i32).slice.slice.prod ((((Ty.int IntKind.i64).prod (((Ty.int IntKind.i64).prod ((Ty.int IntKind.i64).prod ((Ty.int IntKind.i64).prod Ty.unit))).prod ((Ty.int IntKind.i64).prod Ty.unit))).slice.prod ((Ty.int IntKind.i64).slice.prod ((Ty.int IntKind.i64).slice.slice.prod ((Ty.int IntKind.i64).slice.prod Ty.unit)))).prod Ty.unit)))) (Sp.flAll x_3 q47) ∧ True → q14 ∧ (q86 = true → q1 ∧ (q0 ∧ (q85 ∧ Sp.inC (Sp.flAll x_3 q47) (↑x_3 : Int)) ∧ True) ∧ ((inK IntKind.i64 q87 ∧ True ∧ True) ∧ True) ∧ ∃ (y : Nat), (y ≤ q41 ∧ Sp.OkM (Sp.flAll y q47) ∧ (Sp.flAll y q47).2.1.length = q41) ∧ q41 - y < q41 - x_3 ∧ q87 = (↑y : Int) ∧ Sp.flushM (Sp.flAll x_3 q47) (↑x_3 : Int) = Sp.flAll y q47 ∧ q84) ∧ (q86 = false → (q5 ∧ True ∧ True) ∧ (Sp.flAll x_3 q47).2.2.2.1 = (Sp.gE x.1 x.2.1, Sp.gF x.1 x.2.1, Sp.gM x.1 x.2.1, Sp.gO x.1 x.2.1, ()))))) := by kernel_rfl
end Go.User
namespace Sp
def cn (cs : List Core) : Nat := (cs.map fun c => c.2.2.1.length).sum
theorem cn_set {l : List Core} {n : Int} {a : Core} (h : n.toNat < l.length) : cn (l.set n.toNat a) + (co l n).2.2.1.length = cn l + a.2.2.1.length := sum_set (fun c : Core => c.2.2.1.length) co0 l n.toNat a h
theorem sum_le2 {α β : Type} (f : α → Nat) (g : β → Nat) (d : α) (e : β) : ∀ (l : List α) (p : List β), l.length = p.length → (∀ i, i < l.length → f (l.getD i d) ≤ g (p.getD i e)) → (l.map f).sum ≤ (p.map g).sum
  | [], [], _, _ => Nat.le_refl _
  | x :: l, y :: p, h, hh => by
    have h0 := hh 0 (by simp)
    have h1 := sum_le2 f g d e l p (by simpa using h) (fun i hi => hh (i + 1) (by simpa using hi))
    simp only [List.getD_cons_zero] at h0
    simp only [List.map_cons, List.sum_cons]
    omega
theorem OkM.dn_le {s : Mach} (h : OkM s) : dn s.2.1 ≤ sumL s.1.1 := sum_le2 _ _ co0 [] _ _ h.len fun i hi => by
  obtain ⟨_, h1, h2, _⟩ := h.core i hi
  show ((s.2.1.getD i co0).2.1).toNat ≤ (s.1.1.getD i []).length
  omega
/-- What a step keeps: the test, how many cores there are; the numbers. -/
structure Same (s s' : Mach) : Prop where
  t : s'.1 = s.1
  len : s'.2.1.length = s.2.1.length
  ev : s'.2.2.2.1.1.length = s.2.2.2.1.1.length
theorem Same.refl (s : Mach) : Same s s := ⟨rfl, rfl, rfl⟩
theorem Same.trans {a b c : Mach} (h : Same a b) (h' : Same b c) : Same a c := ⟨h'.t.trans h.t, h'.len.trans h.len, h'.ev.trans h.ev⟩
theorem Same.inC {s s' : Mach} (h : Same s s') {n : Int} (hn : inC s n) : inC s' n := ⟨hn.1, by rw [h.len]; exact hn.2⟩
theorem same_evict (s : Mach) (n k : Int) : Same s (evictM s n k) := ⟨rfl, by show (s.2.1.set _ _).length = _; rw [List.length_set], rfl⟩
theorem same_read (s : Mach) (e w : Int) : Same s (readM s e w) := ⟨rfl, rfl, readE_len _ _ _⟩
theorem same_set (s : Mach) (n : Int) (c : List Word) : Same s (setCache s n c) := ⟨rfl, by show (s.2.1.set _ _).length = _; rw [List.length_set], rfl⟩
theorem same_inc (s : Mach) (n : Int) : Same s (incD s n) := ⟨rfl, by show (s.2.1.set _ _).length = _; rw [List.length_set], rfl⟩
theorem dn_same {s : Mach} {n : Int} (hn : inC s n) {a : Core} (h : a.2.1 = (co s.2.1 n).2.1) : dn (s.2.1.set n.toNat a) = dn s.2.1 := by
  have := dn_set (a := a) (inC_lt hn)
  rw [h] at this; omega
theorem evict_mu {s : Mach} {n k : Int} (hn : inC s n) (h0 : 0 ≤ k) (h1 : k < (co s.2.1 n).2.2.1.length) : dn (evictM s n k).2.1 = dn s.2.1 ∧ cn (evictM s n k).2.1 + 1 = cn s.2.1 := by
  refine ⟨dn_same hn rfl, ?_⟩
  have := cn_set (a := eC (co s.2.1 n) s.2.2.1 k) (inC_lt hn)
  have e : (eC (co s.2.1 n) s.2.2.1 k).2.2.1.length = (co s.2.1 n).2.2.1.length - 1 := by
    show ((co s.2.1 n).2.2.1.take k.toNat ++ (co s.2.1 n).2.2.1.drop (k + 1).toNat).length = _
    rw [List.length_append, List.length_take, List.length_drop]
    omega
  rw [e] at this
  show cn (s.2.1.set n.toNat (eC (co s.2.1 n) s.2.2.1 k)) + 1 = _
  omega
theorem flush_mu {s : Mach} {n : Int} (h : OkM s) (hn : inC s n) : Same s (flushM s n) ∧ dn (flushM s n).2.1 = dn s.2.1 ∧ cn (flushM s n).2.1 ≤ cn s.2.1 ∧ OkM (flushM s n) := by
  have := flush_ind (p := fun s' => Same s s' ∧ dn s'.2.1 = dn s.2.1 ∧ cn s'.2.1 ≤ cn s.2.1) (n := n) _ h hn rfl ⟨.refl _, rfl, Nat.le_refl _⟩ (fun s' h' hn' hk ⟨g1, g2, g3⟩ => by
    obtain ⟨k1, k2⟩ := evict_mu hn' (by decide : (0 : Int) ≤ 0) (by omega)
    exact ⟨g1.trans (same_evict _ _ _), k1.trans g2, by omega⟩)
  exact ⟨this.1.1, this.1.2.1, this.1.2.2, this.2.1⟩
/-- What an operation leaves. -/
structure Did (s s' : Mach) : Prop where
  ok : OkM s'
  same : Same s s'
  done : dn s'.2.1 = dn s.2.1
  room : cn s'.2.1 ≤ cn s.2.1 + 1
theorem did_load {s : Mach} (h : OkM s) {n x : Int} (hn : inC s n) (hx : 0 ≤ x ∧ x < 3) (e : Int) : Did s (doLoad s n e x) := by
  have hlt := inC_lt hn
  have hc : okCore s.2.2.2.1.1.length s.2.2.1 (s.1.1.getD n.toNat []) ((co s.2.1 n).1, (co s.2.1 n).2.1, (load (co s.2.1 n).2.2.1 s.2.2.1 x).2.1, (co s.2.1 n).2.2.2) ∧ (load (co s.2.1 n).2.2.1 s.2.2.1 x).2.1.length ≤ (co s.2.1 n).2.2.1.length + 1 := by
    unfold load
    split
    · exact ⟨h.at hn, Nat.le_succ _⟩
    · rename_i hf
      exact ⟨okCore.add (h.at hn) h.okM.2 hx (mget_mem h hx) hf, by simp⟩
  have hcn := cn_set (a := ((co s.2.1 n).1, (co s.2.1 n).2.1, (load (co s.2.1 n).2.2.1 s.2.2.1 x).2.1, (co s.2.1 n).2.2.2)) hlt
  refine ⟨(h.setCache hn hc.1).read _ _, (same_set _ _ _).trans (same_read _ _ _), dn_same hn rfl, ?_⟩
  show cn (s.2.1.set n.toNat _) ≤ _
  have := hc.2
  simp only at hcn
  omega
theorem OkM.addPend {s : Mach} (h : OkM s) {n : Int} (hn : inC s n) {e x : Int} (hx : 0 ≤ x ∧ x < 3) (hB : ∀ y, y < 3 → (s.2.2.2.1.2.2.1.getD y []).length + pn y s.2.1 + 1 ≤ dn s.2.1) : OkM (addPend s n e x) := by
  obtain ⟨g1, g2, g3, g4, g5, g6, g7, g8⟩ := h.at hn
  have hlt := inC_lt hn
  have hd := dn_same hn (a := ((co s.2.1 n).1, (co s.2.1 n).2.1, (co s.2.1 n).2.2.1, (co s.2.1 n).2.2.2.1.set x.toNat ((co s.2.1 n).2.2.2.1.getD x.toNat [] ++ [e]), ())) rfl
  refine h.upd (c' := ((co s.2.1 n).1, (co s.2.1 n).2.1, (co s.2.1 n).2.2.1, (co s.2.1 n).2.2.2.1.set x.toNat ((co s.2.1 n).2.2.2.1.getD x.toNat [] ++ [e]), ())) hn h.mem rfl h.from_ ⟨g1, g2, g3, g4, g5, g6, g7, by rw [List.length_set]; exact g8⟩ h.mo ?_ ?_ _
  · intro y hy
    rw [hd]
    have hp := pn_set (a := ((co s.2.1 n).1, (co s.2.1 n).2.1, (co s.2.1 n).2.2.1, (co s.2.1 n).2.2.2.1.set x.toNat ((co s.2.1 n).2.2.2.1.getD x.toNat [] ++ [e]), ())) y hlt
    simp only at hp
    have := hB y hy
    by_cases hxy : x.toNat = y
    · subst hxy
      rw [getD_set_self (by rw [g8]; exact hy), List.length_append, List.length_singleton] at hp
      omega
    · rw [getD_set_ne hxy] at hp
      omega
  · rw [hd]; exact h.foB
theorem did_store {s : Mach} (h : OkM s) {n x e : Int} (hn : inC s n) (hx : 0 ≤ x ∧ x < 3) (he : 0 ≤ e ∧ e < s.2.2.2.1.1.length) (hB : ∀ y, y < 3 → (s.2.2.2.1.2.2.1.getD y []).length + pn y s.2.1 + 1 ≤ dn s.2.1) : Did s (doStore s n e x) := by
  have hlt := inC_lt hn
  have hE := h.ev
  have hw : Go.IntKind.wrap .i32 (e + 1) = e + 1 := wrap_small (by omega) (by omega)
  have hc : okCore s.2.2.2.1.1.length s.2.2.1 (s.1.1.getD n.toNat []) ((co s.2.1 n).1, (co s.2.1 n).2.1, store (co s.2.1 n).2.2.1 x (Go.IntKind.wrap .i32 (e + 1)), (co s.2.1 n).2.2.2) ∧ (store (co s.2.1 n).2.2.1 x (Go.IntKind.wrap .i32 (e + 1))).length ≤ (co s.2.1 n).2.2.1.length + 1 := by
    rw [hw]
    unfold store
    split
    · rename_i hf
      exact ⟨okCore.set (h.at hn) h.okM.2 hx (by omega) hf, by rw [List.length_set]; omega⟩
    · rename_i hf
      exact ⟨okCore.add (h.at hn) h.okM.2 hx (by omega) hf, by simp⟩
  have hcn := cn_set (a := ((co s.2.1 n).1, (co s.2.1 n).2.1, store (co s.2.1 n).2.2.1 x (Go.IntKind.wrap .i32 (e + 1)), (co s.2.1 n).2.2.2)) hlt
  have h1 := h.setCache hn hc.1
  have hs := same_set s n (store (co s.2.1 n).2.2.1 x (Go.IntKind.wrap .i32 (e + 1)))
  have hn1 := hs.inC hn
  have hd1 : dn (setCache s n (store (co s.2.1 n).2.2.1 x (Go.IntKind.wrap .i32 (e + 1)))).2.1 = dn s.2.1 := dn_same hn rfl
  have hlt1 := inC_lt hn1
  have hco1 : co (setCache s n (store (co s.2.1 n).2.2.1 x (Go.IntKind.wrap .i32 (e + 1)))).2.1 n = ((co s.2.1 n).1, (co s.2.1 n).2.1, store (co s.2.1 n).2.2.1 x (Go.IntKind.wrap .i32 (e + 1)), (co s.2.1 n).2.2.2) := co_set hlt
  have h2 := h1.addPend hn1 (e := e) hx (by
    intro y hy
    rw [hd1]
    have hp := pn_set (a := ((co s.2.1 n).1, (co s.2.1 n).2.1, store (co s.2.1 n).2.2.1 x (Go.IntKind.wrap .i32 (e + 1)), (co s.2.1 n).2.2.2)) y hlt
    have := hB y hy
    show (s.2.2.2.1.2.2.1.getD y []).length + pn y (s.2.1.set n.toNat _) + 1 ≤ _
    simp only at hp
    omega)
  refine ⟨h2, hs.trans ⟨rfl, by show ((setCache s n _).2.1.set _ _).length = _; rw [List.length_set], rfl⟩, ?_, ?_⟩
  · have := dn_same hn1 (a := ((co (setCache s n (store (co s.2.1 n).2.2.1 x (Go.IntKind.wrap .i32 (e + 1)))).2.1 n).1, (co (setCache s n (store (co s.2.1 n).2.2.1 x (Go.IntKind.wrap .i32 (e + 1)))).2.1 n).2.1, (co (setCache s n (store (co s.2.1 n).2.2.1 x (Go.IntKind.wrap .i32 (e + 1)))).2.1 n).2.2.1, (co (setCache s n (store (co s.2.1 n).2.2.1 x (Go.IntKind.wrap .i32 (e + 1)))).2.1 n).2.2.2.1.set x.toNat ((co (setCache s n (store (co s.2.1 n).2.2.1 x (Go.IntKind.wrap .i32 (e + 1)))).2.1 n).2.2.2.1.getD x.toNat [] ++ [e]), ())) rfl
    exact this.trans hd1
  have hcn2 := cn_set (l := (setCache s n (store (co s.2.1 n).2.2.1 x (Go.IntKind.wrap .i32 (e + 1)))).2.1) (n := n) (a := ((co (setCache s n (store (co s.2.1 n).2.2.1 x (Go.IntKind.wrap .i32 (e + 1)))).2.1 n).1, (co (setCache s n (store (co s.2.1 n).2.2.1 x (Go.IntKind.wrap .i32 (e + 1)))).2.1 n).2.1, (co (setCache s n (store (co s.2.1 n).2.2.1 x (Go.IntKind.wrap .i32 (e + 1)))).2.1 n).2.2.1, (co (setCache s n (store (co s.2.1 n).2.2.1 x (Go.IntKind.wrap .i32 (e + 1)))).2.1 n).2.2.2.1.set x.toNat ((co (setCache s n (store (co s.2.1 n).2.2.1 x (Go.IntKind.wrap .i32 (e + 1)))).2.1 n).2.2.2.1.getD x.toNat [] ++ [e]), ())) hlt1
  show cn ((setCache s n (store (co s.2.1 n).2.2.1 x (Go.IntKind.wrap .i32 (e + 1)))).2.1.set n.toNat _) ≤ _
  have : cn (setCache s n (store (co s.2.1 n).2.2.1 x (Go.IntKind.wrap .i32 (e + 1)))).2.1 = cn (s.2.1.set n.toNat ((co s.2.1 n).1, (co s.2.1 n).2.1, store (co s.2.1 n).2.2.1 x (Go.IntKind.wrap .i32 (e + 1)), (co s.2.1 n).2.2.2)) := rfl
  have h3 := hc.2
  simp only at hcn hcn2
  omega
theorem OkM.putM {s : Mach} (h : OkM s) {e x : Int} (hx : 0 ≤ x ∧ x < 3) (he : 0 ≤ e ∧ e < s.2.2.2.1.1.length) (hB : ∀ y, y < 3 → (s.2.2.2.1.2.2.1.getD y []).length + pn y s.2.1 + 1 ≤ dn s.2.1) : OkM (putM s e x) := by
  have hE := h.ev
  have hw : Go.IntKind.wrap .i32 (e + 1) = e + 1 := wrap_small (by omega) (by omega)
  obtain ⟨l, e1, e2, e3⟩ := h.mem
  have hm := okM_set h.okM.1 x (Go.IntKind.wrap .i32 (e + 1))
  refine ⟨⟨l.set x.toNat (e + 1), ?_, by rw [List.length_set]; exact e2, ?_⟩, h.len, fun i hi => (h.core i hi).mem hm.1 hm.2, h.ops, h.ev, h.from_, ?_, h.few, ?_, h.foB⟩
  · show setM s.2.2.1 x _ = _
    rw [e1, hw, setM_one]
  · intro v hv
    rcases List.mem_or_eq_of_mem_set hv with hv | hv
    · exact e3 v hv
    · rw [hv]; show 0 ≤ e + 1 ∧ e + 1 ≤ ((s.2.2.2.1.1.length : Nat) : Int); omega
  · show (s.2.2.2.1.2.2.1.set _ _).length = 3
    rw [List.length_set]; exact h.mo
  · intro y hy
    have := hB y hy
    show ((s.2.2.2.1.2.2.1.set x.toNat _).getD y []).length + pn y s.2.1 ≤ dn s.2.1
    by_cases hxy : x.toNat = y
    · subst hxy
      rw [getD_set_self (by rw [h.mo]; exact hy), List.length_append, List.length_singleton]
      omega
    · rw [getD_set_ne hxy]; omega
theorem evict_pn {s : Mach} (h : OkM s) {n k : Int} (hn : inC s n) (h0 : 0 ≤ k) (h1 : k < (co s.2.1 n).2.2.1.length) {y : Nat} (hy : y < 3) :
    ((evictM s n k).2.2.2.1.2.2.1.getD y []).length + pn y (evictM s n k).2.1 = (s.2.2.2.1.2.2.1.getD y []).length + pn y s.2.1 := by
  obtain ⟨g1, g2, g3, g4, g5, g6, g7, g8⟩ := h.at hn
  have hlt := inC_lt hn
  have hw := okS_wd g5 h0 h1
  rw [h.okM.2] at hw
  have hp := pn_set (a := eC (co s.2.1 n) s.2.2.1 k) y hlt
  show ((eMo s.2.2.2.1.2.2.1 (co s.2.1 n) k).getD y []).length + pn y (s.2.1.set n.toNat (eC (co s.2.1 n) s.2.2.1 k)) = _
  unfold eC at hp ⊢
  unfold eMo
  have hmo := h.mo
  by_cases hd : (wd (co s.2.1 n).2.2.1 k).2.2.2.1 = true
  · simp only [hd, if_true] at hp ⊢
    by_cases hx2 : (wd (co s.2.1 n).2.2.1 k).2.1.toNat = y
    · rw [hx2] at hp ⊢
      rw [getD_set_self (by omega)] at hp
      rw [getD_set_self (by omega), List.length_append]
      simp only [List.length_nil] at hp
      omega
    · rw [getD_set_ne hx2] at hp ⊢
      omega
  · simp only [hd, Bool.false_eq_true, if_false] at hp ⊢
    omega
theorem did_add {s : Mach} (h : OkM s) {n x e : Int} (hn : inC s n) (hx : 0 ≤ x ∧ x < 3) (he : 0 ≤ e ∧ e < s.2.2.2.1.1.length) (hB : ∀ y, y < 3 → (s.2.2.2.1.2.2.1.getD y []).length + pn y s.2.1 + 1 ≤ dn s.2.1) : Did s (doAdd s n e x) := by
  have key : OkM (evX s n x) ∧ Same s (evX s n x) ∧ dn (evX s n x).2.1 = dn s.2.1 ∧ cn (evX s n x).2.1 ≤ cn s.2.1 ∧ ∀ y, y < 3 → ((evX s n x).2.2.2.1.2.2.1.getD y []).length + pn y (evX s n x).2.1 = (s.2.2.2.1.2.2.1.getD y []).length + pn y s.2.1 := by
    unfold evX
    split
    · rename_i hf
      have hl := fW_lt x (co s.2.1 n).2.2.1
      obtain ⟨k1, k2⟩ := evict_mu hn hf hl
      exact ⟨h.evict hn hf hl, same_evict _ _ _, k1, by omega, fun y hy => evict_pn h hn hf hl hy⟩
    · exact ⟨h, .refl _, rfl, Nat.le_refl _, fun y hy => rfl⟩
  obtain ⟨k1, k2, k3, k4, k5⟩ := key
  have h2 := k1.read e (mget (evX s n x).2.2.1 x)
  refine ⟨h2.putM hx (by rw [((k2.trans (same_read _ _ _))).ev]; exact he) (fun y hy => ?_), k2.trans ((same_read _ _ _).trans ⟨rfl, rfl, rfl⟩), k3, by show cn (evX s n x).2.1 ≤ _; omega⟩
  show ((evX s n x).2.2.2.1.2.2.1.getD y []).length + pn y (evX s n x).2.1 + 1 ≤ dn (evX s n x).2.1
  have := k5 y hy
  have := hB y hy
  omega
theorem did_fence {s : Mach} (h : OkM s) {n : Int} (hn : inC s n) (e : Int) (hF : s.2.2.2.1.2.2.2.1.length + 1 ≤ dn s.2.1) : Did s (doFence s n e) := by
  have hf := flush_ind (p := fun s' => s'.2.2.2.1.2.2.2.1 = s.2.2.2.1.2.2.2.1) (n := n) _ h hn rfl rfl (fun s' _ _ _ h' => h')
  obtain ⟨k1, k2, k3, k4⟩ := flush_mu h hn
  refine ⟨⟨k4.mem, k4.len, k4.core, k4.ops, k4.ev, k4.from_, k4.mo, k4.few, k4.moB, ?_⟩, k1.trans ⟨rfl, rfl, rfl⟩, k2, by show cn (flushM s n).2.1 ≤ _; omega⟩
  show ((flushM s n).2.2.2.1.2.2.2.1 ++ [e]).length ≤ dn (flushM s n).2.1
  rw [hf.1, List.length_append, List.length_singleton, k2]; exact hF
theorem did_do {s : Mach} (h : OkM s) {n : Int} (hn : inC s n) (hd : (co s.2.1 n).2.1 < (s.1.1.getD n.toNat []).length) : OkM (doM s n) ∧ Same s (doM s n) ∧ dn (doM s n).2.1 = dn s.2.1 + 1 ∧ cn (doM s n).2.1 ≤ cn s.2.1 + 1 := by
  have h1 := h.inc hn hd
  have hs1 := same_inc s n
  have hn1 := hs1.inC hn
  have hop := op_ok h hn hd
  have he := ev_lt h hn hd
  have hlt := inC_lt hn
  obtain ⟨g1, g2, _⟩ := h.at hn
  have hdn : dn (incD s n).2.1 = dn s.2.1 + 1 := by
    have := dn_set (a := ((co s.2.1 n).1, (co s.2.1 n).2.1 + 1, (co s.2.1 n).2.2)) hlt
    simp only at this
    show dn (s.2.1.set n.toNat _) = _
    omega
  have hcn : cn (incD s n).2.1 = cn s.2.1 := by
    have := cn_set (a := ((co s.2.1 n).1, (co s.2.1 n).2.1 + 1, (co s.2.1 n).2.2)) hlt
    simp only at this
    show cn (s.2.1.set n.toNat _) = _
    omega
  have hB : ∀ y, y < 3 → ((incD s n).2.2.2.1.2.2.1.getD y []).length + pn y (incD s n).2.1 + 1 ≤ dn (incD s n).2.1 := by
    intro y hy
    have hp := pn_set (a := ((co s.2.1 n).1, (co s.2.1 n).2.1 + 1, (co s.2.1 n).2.2)) y hlt
    have hm := h.moB y hy
    simp only at hp
    rw [hdn]
    show (s.2.2.2.1.2.2.1.getD y []).length + pn y (s.2.1.set n.toNat _) + 1 ≤ _
    omega
  have hF : (incD s n).2.2.2.1.2.2.2.1.length + 1 ≤ dn (incD s n).2.1 := by
    have := h.foB
    rw [hdn]
    show s.2.2.2.1.2.2.2.1.length + 1 ≤ _
    omega
  have fin : ∀ s', Did (incD s n) s' → OkM s' ∧ Same s s' ∧ dn s'.2.1 = dn s.2.1 + 1 ∧ cn s'.2.1 ≤ cn s.2.1 + 1 := fun s' d => ⟨d.ok, hs1.trans d.same, d.done.trans hdn, by have := d.room; omega⟩
  unfold doM
  split
  · exact fin _ (did_load h1 hn1 hop _)
  · split
    · exact fin _ (did_store h1 hn1 hop he hB)
    · split
      · exact fin _ (did_add h1 hn1 hop he hB)
      · split
        · exact fin _ (did_fence h1 hn1 _ hF)
        · exact ⟨h1, hs1, hdn, by omega⟩
/-- A step of a run. -/
theorem step_ok {s : Mach} {z : Nat × List Int} (h : preT z s) : OkM (runT z s) ∧ Same s (runT z s) ∧ mu (runT z s) < mu s := by
  obtain ⟨hM, hn, h⟩ := h
  unfold runT
  rcases h with ⟨h1, h2, h3⟩ | ⟨h1, h2, h3, h4⟩
  · rw [if_pos h1]
    obtain ⟨k1, k2, k3, k4⟩ := did_do hM hn h3
    refine ⟨k1, k2, ?_⟩
    have := k1.dn_le
    have e := k2.t
    unfold mu
    rw [e] at this ⊢
    show 2 * (sumL s.1.1 - dn (doM s _).2.1) + cn (doM s _).2.1 < 2 * (sumL s.1.1 - dn s.2.1) + cn s.2.1
    omega
  · rw [if_neg (by rw [h1]; decide)]
    obtain ⟨k1, k2⟩ := evict_mu hn h3 h4
    refine ⟨hM.evict hn h3 h4, same_evict _ _ _, ?_⟩
    show 2 * (sumL s.1.1 - dn (evictM s _ _).2.1) + cn (evictM s _ _).2.1 < 2 * (sumL s.1.1 - dn s.2.1) + cn s.2.1
    omega
theorem things_pre {s : Mach} (h : OkM s) {z : Th} (hz : z ∈ things s) : preT z s := by
  unfold things at hz
  split at hz
  · cases hz
  · rcases List.mem_append.1 hz with hz | hz
    · unfold th1 at hz
      obtain ⟨n, hn, rfl⟩ := List.mem_map.1 hz
      rw [List.mem_filter, List.mem_range, decide_eq_true_eq] at hn
      refine ⟨h, ⟨Int.natCast_nonneg _, by show ((n : Nat) : Int) < _; omega⟩, .inl ⟨rfl, rfl, ?_⟩⟩
      exact hn.2
    · unfold th2 ths at hz
      obtain ⟨n, hn, hz⟩ := List.mem_flatMap.1 hz
      obtain ⟨k, hk, rfl⟩ := List.mem_map.1 hz
      rw [List.mem_range] at hn hk
      refine ⟨h, ⟨Int.natCast_nonneg _, by show ((n : Nat) : Int) < _; omega⟩, .inr ⟨rfl, rfl, Int.natCast_nonneg _, ?_⟩⟩
      show ((k : Nat) : Int) < ((co s.2.1 (n : Int)).2.2.1.length : Int)
      omega
theorem up_len (q : Nat) (l : List Th) : (up q l).length = l.length := by simp [up]
theorem up_get (q : Nat) (l : List Th) {k : Nat} (h : k < l.length) : (up q l).getD k none = some (q, l.getD k (0, [])) := by
  rw [getD_at (by rw [up_len]; exact h), getD_at h]
  simp [up]
theorem up_app (q : Nat) (l l' : List Th) : up q (l ++ l') = up q l ++ up q l' := by simp [up]
theorem loop_end {f : Nat} {s : Mach} {ch : List Int} (h : (things s).length = 0) : loopN f s ch = s := by
  cases f with
  | zero => rfl
  | succ f => unfold loopN; rw [if_pos h]
theorem loop_step {f : Nat} {s : Mach} {ch : List Int} (h : ¬ (things s).length = 0) : loopN (f + 1) s ch = loopN f (runT (th (things s) (pick ch (things s).length)) s) (ch.drop 1) := by
  show (if _ then _ else _) = _
  rw [if_neg h]
/-- What all steps keep holds at the end. -/
theorem loop_ind {p : Mach → Prop} : ∀ (f : Nat) {s : Mach} {ch : List Int}, OkM s → p s → mu s ≤ f → (∀ s z, OkM s → z ∈ things s → p s → p (runT z s)) → OkM (loopN f s ch) ∧ p (loopN f s ch) ∧ things (loopN f s ch) = []
  | f, s, ch, h, hp, hm, hs => by
    by_cases h0 : (things s).length = 0
    · rw [loop_end h0]; exact ⟨h, hp, List.eq_nil_of_length_eq_zero h0⟩
    · have hpk : (pick ch (things s).length).toNat < (things s).length := by
        unfold pick
        split
        · simp; omega
        · have h1 : (ch.getD 0 0).tmod ((things s).length : Int) < (things s).length := Int.tmod_lt_of_pos _ (by omega)
          have h2 : -((things s).length : Int) < (ch.getD 0 0).tmod (things s).length := by
            have := Int.tmod_lt_of_pos (-(ch.getD 0 0)) (b := ((things s).length : Int)) (by omega)
            rw [Int.neg_tmod] at this; omega
          have h3 := Int.tmod_lt_of_pos ((ch.getD 0 0).tmod ((things s).length : Int) + (things s).length) (b := ((things s).length : Int)) (by omega)
          omega
      have hz : th (things s) (pick ch (things s).length) ∈ things s := by
        unfold th
        rw [getD_at hpk]; exact List.getElem_mem _
      obtain ⟨k1, k2, k3⟩ := step_ok (things_pre h hz)
      cases f with
      | zero => omega
      | succ f =>
        rw [loop_step h0]
        exact loop_ind f k1 (hs s _ h hz hp) (by omega) hs
theorem flAll_ind {p : Mach → Prop} {s : Mach} (h : OkM s) (hp : p s) (hs : ∀ s n, OkM s → inC s n → 0 < (co s.2.1 n).2.2.1.length → p s → p (evictM s n 0)) : ∀ k, k ≤ s.2.1.length → OkM (flAll k s) ∧ Same s (flAll k s) ∧ p (flAll k s)
  | 0, _ => ⟨h, .refl _, hp⟩
  | k + 1, hk => by
    obtain ⟨g1, g2, g3⟩ := flAll_ind h hp hs k (by omega)
    have hn : inC (flAll k s) (k : Int) := ⟨by omega, by rw [g2.len]; omega⟩
    have hf := flush_mu g1 hn
    have hf2 := flush_ind (p := p) (n := (k : Int)) _ g1 hn rfl g3 (fun s h1 h2 h3 h4 => hs s k h1 h2 h3 h4)
    exact ⟨hf.2.2.2, g2.trans hf.1, hf2.1⟩
/-- The start. -/
theorem evs_app : ∀ (c : Int) (l l' : List (List LOp)), evs c (l ++ l') = evs c l ++ evs (c + l.length) l'
  | c, [], l' => by simp [evs]
  | c, x :: l, l' => by
    simp only [List.cons_append, evs, List.append_assoc, List.length_cons]
    rw [evs_app (c + 1) l l']
    congr 3
    omega
theorem evN_zero (p : List (List LOp)) (i : Nat) : evN p i 0 = evs 0 (p.take i) := by simp [evN]
theorem evN_full {p : List (List LOp)} {i : Nat} (h : i < p.length) : evN p i (p.getD i []).length = evs 0 (p.take (i + 1)) := by
  unfold evN
  rw [List.take_length, take_succ h [], evs_app, List.length_take, Nat.min_eq_left (by omega)]
  simp [evs]
theorem evN_succ {p : List (List LOp)} {i j : Nat} (h : j < (p.getD i []).length) : evN p i (j + 1) = evN p i j ++ [mkEv i ((p.getD i []).getD j (0, 0, 0, ()))] := by
  unfold evN
  rw [take_succ h (0, 0, 0, ()), List.map_append, ← List.append_assoc]
  rfl
theorem evs_take_len (p : List (List LOp)) (i : Nat) : (evs 0 (p.take i)).length ≤ (evs 0 p).length := by
  have := evs_app 0 (p.take i) (p.drop i)
  rw [List.take_append_drop] at this
  rw [this, List.length_append]; omega
theorem coresN_succ (p : List (List LOp)) (i : Nat) : coresN p (i + 1) = coresN p i ++ [(((evs 0 (p.take i)).length : Int), 0, [], [[], [], []], ())] := by
  simp [coresN, List.range_succ]
theorem coresN_get (p : List (List LOp)) {k i : Nat} (h : i < k) : (coresN p k).getD i co0 = (((evs 0 (p.take i)).length : Int), 0, [], [[], [], []], ()) := by
  rw [getD_at (by simp [coresN]; exact h)]
  simp [coresN]
theorem sum_zero {α : Type} (f : α → Nat) : ∀ (l : List α), (∀ x ∈ l, f x = 0) → (l.map f).sum = 0
  | [], _ => rfl
  | x :: l, h => by
    simp only [List.map_cons, List.sum_cons]
    rw [h x (by simp), sum_zero f l (fun y hy => h y (by simp [hy]))]
theorem init_ok {t : Lit} (h : okT t) : OkM (init t) := by
  obtain ⟨h1, h2, h3⟩ := h
  have he : evN t.1 t.1.length 0 = evs 0 t.1 := by rw [evN_zero, List.take_length]
  have hE : (init t).2.2.2.1.1.length = (evs 0 t.1).length := by show (evN t.1 t.1.length 0).length = _; rw [he]
  have hpn : ∀ x, x < 3 → pn x (init t).2.1 = 0 := fun x hx => sum_zero _ _ (by
    intro c hc
    obtain ⟨i, hi, rfl⟩ := List.mem_map.1 hc
    match x, hx with
    | 0, _ => rfl
    | 1, _ => rfl
    | 2, _ => rfl)
  refine ⟨⟨[0, 0, 0], rfl, rfl, ?_⟩, by show (coresN t.1 t.1.length).length = _; simp [coresN]; rfl, ?_, h3, by rw [hE]; exact h2, ?_, rfl, by show (coresN t.1 t.1.length).length ≤ _; simp [coresN]; exact h1, ?_, Nat.zero_le _⟩
  · intro v hv
    simp only [List.mem_cons, List.not_mem_nil, or_false, or_self] at hv
    rw [hv]; omega
  · intro i hi
    have hi : i < t.1.length := by
      have hi : i < (coresN t.1 t.1.length).length := hi
      simpa [coresN] using hi
    rw [hE]
    show okCore _ _ (t.1.getD i []) ((coresN t.1 t.1.length).getD i co0)
    rw [coresN_get _ hi]
    have h4 := evs_take_len t.1 (i + 1)
    rw [← evN_full hi] at h4
    unfold evN at h4
    rw [List.take_length, List.length_append, List.length_map] at h4
    refine ⟨Int.natCast_nonneg _, Int.le_refl _, Int.natCast_nonneg _, ?_, okS_nil ⟨rfl, by show (3 : Nat) ≤ 1000; decide⟩, List.nodup_nil, fun w hw => (by cases hw), rfl⟩
    show ((evs 0 (t.1.take i)).length : Int) + ((t.1.getD i []).length : Int) ≤ ((evs 0 t.1).length : Int)
    omega
  · show (List.replicate (evN t.1 t.1.length 0).length (-1 : Int)).length = _
    rw [List.length_replicate]; rfl
  · intro x hx
    rw [hpn x hx]
    show (([[], [], []] : List (List Int)).getD x []).length + 0 ≤ _
    match x, hx with
    | 0, _ => exact Nat.zero_le _
    | 1, _ => exact Nat.zero_le _
    | 2, _ => exact Nat.zero_le _
end Sp
namespace Go.User
open Go.Lf Go.Proofs
theorem up_nil_iff (q : Nat) (l : List Sp.Th) : ((Sp.up q l).length : Int) = 0 ↔ l = [] := by
  rw [Sp.up_len]
  constructor
  · intro h; exact List.eq_nil_of_length_eq_zero (by omega)
  · rintro rfl; rfl
theorem th1_succ (s : Sp.Mach) (i : Nat) : Sp.th1 s (i + 1) = Sp.th1 s i ++ (if (Sp.co s.2.1 i).2.1 < ((s.1.1.getD i []).length : Int) then [(46, [(i : Int)])] else []) := by
  unfold Sp.th1
  rw [List.range_succ, List.filter_append, List.map_append]
  congr 1
  by_cases h : (Sp.co s.2.1 i).2.1 < ((s.1.1.getD i []).length : Int)
  · rw [if_pos h, List.filter_cons, if_pos (show decide _ = true from decide_eq_true h)]; rfl
  · rw [if_neg h, List.filter_cons, if_neg (show ¬ decide _ = true by rw [decide_eq_false h]; simp)]; rfl
theorem th1_len (s : Sp.Mach) (i : Nat) : (Sp.th1 s i).length ≤ i := by
  unfold Sp.th1
  rw [List.length_map]
  have := List.length_filter_le (fun (n : Nat) => decide ((Sp.co s.2.1 n).2.1 < ((s.1.1.getD n []).length : Int))) (List.range i)
  simpa using this
theorem th2_succ (s : Sp.Mach) (i : Nat) : Sp.th2 s (i + 1) = Sp.th2 s i ++ Sp.ths i (Sp.co s.2.1 i).2.2.1.length := by
  unfold Sp.th2
  rw [List.range_succ, List.flatMap_append]
  simp
theorem th2_len {s : Sp.Mach} (h : Sp.OkM s) : ∀ i, i ≤ s.2.1.length → (Sp.th2 s i).length ≤ 3 * i
  | 0, _ => by simp [Sp.th2]
  | i + 1, hi => by
    have := th2_len h i (by omega)
    have h3 := Sp.okCore.few (h.at (n := (i : Int)) ⟨by omega, by omega⟩) h.okM.2
    rw [th2_succ, List.length_append]
    have : (Sp.ths i (Sp.co s.2.1 i).2.2.1.length).length = (Sp.co s.2.1 i).2.2.1.length := by simp [Sp.ths]
    omega
theorem ths_succ (i k : Nat) : Sp.ths i (k + 1) = Sp.ths i k ++ [(48, [(i : Int), (k : Int)])] := by simp [Sp.ths, List.range_succ]
theorem pk25 (q : Nat) : POk Try.prog 25 (S25 q) (some q) := by
  have hC : ∀ q, CtxOK Try.prog (C25 q) := fun q => okM' q fns_nil ptrs_nil rfl rfl rfl rfl rfl
  refine POk.introQ (hC q) (stpR_ok (hC q)) Try.call25 Try.func25 rfl (by kernel_rfl) (L25 q) (vc25.mpr ?_ q)
  clear q
  simp only [z1, z2, z3, z4, z5, z6, z7, z8, z9, z10, z11, z12, z13, z14, z15, z16, z17, z18, z19, z20, z21, z22, z23, z24, z25, z26, z27, z28, z29, z30, z31, z32, z33, z34, z35, z36, z37, z38]
  intro q s hM hx
  have hfew := hM.few
  refine ⟨⟨0, Nat.zero_le _, rfl, rfl⟩, ?_⟩
  intro i hi hk
  refine ⟨fun hlt => ⟨⟨inN_of hlt, by rw [← hM.len]; exact inN_of hlt⟩, fun hc => ⟨?_, inK_mid (by omega) (by omega), i + 1, by omega, by omega, by omega, ?_⟩, fun hc => ⟨inK_mid (by omega) (by omega), i + 1, by omega, by omega, by omega, ?_⟩⟩, fun hge => ⟨fun hz => ?_, fun hz => ⟨⟨0, Nat.zero_le _, rfl, ?_⟩, ?_⟩⟩⟩
  · have := th1_len s i
    rw [Sp.up_len, maxNew_eq]; omega
  · have hc : (Sp.co s.2.1 i).2.1 < ((s.1.1.getD i []).length : Int) := hc
    rw [th1_succ, if_pos hc, Sp.up_app]; rfl
  · have hc : ((s.1.1.getD i []).length : Int) ≤ (Sp.co s.2.1 i).2.1 := hc
    rw [th1_succ, if_neg (by omega), List.append_nil]
  · have hil : i = s.2.1.length := by omega
    subst hil
    have := (up_nil_iff q _).1 hz
    unfold Sp.things
    rw [if_pos this]; rfl
  · have hil : i = s.2.1.length := by omega
    subst hil
    unfold Sp.th12 Sp.th2
    simp
  · have hil : i = s.2.1.length := by omega
    subst hil
    intro j hj hk2
    refine ⟨fun hlt => ⟨inN_of hlt, ⟨0, Nat.zero_le _, rfl, ?_⟩, ?_⟩, fun hge => ?_⟩
    · unfold Sp.th12 Sp.th123 Sp.ths
      simp
    · intro k hk hk3
      have h3 := Sp.okCore.few (hM.at (n := (j : Int)) ⟨by omega, hlt⟩) hM.okM.2
      refine ⟨fun hlt2 => ⟨?_, inK_mid (by omega) (by omega), k + 1, ?_, ?_, by omega, ?_⟩, fun hge2 => ⟨inK_mid (by omega) (by omega), j + 1, by omega, by omega, by omega, ?_⟩⟩
      · have h4 := th1_len s s.2.1.length
        have h5 := th2_len hM j (by omega)
        rw [Sp.up_len, maxNew_eq]
        unfold Sp.th123
        rw [List.length_append, List.length_append]
        have : (Sp.ths j k).length = k := by simp [Sp.ths]
        have : k ≤ (Sp.co s.2.1 j).2.2.1.length := hk
        omega
      · have : (k : Int) < ((Sp.co s.2.1 j).2.2.1.length : Int) := hlt2
        omega
      · have : (k : Int) < ((Sp.co s.2.1 j).2.2.1.length : Int) := hlt2
        omega
      · unfold Sp.th123
        rw [ths_succ, Sp.up_app, Sp.up_app, Sp.up_app, Sp.up_app, Sp.up_app]
        simp [Sp.up]
      · have : ((Sp.co s.2.1 j).2.2.1.length : Int) ≤ (k : Int) := hge2
        have hkk : k = (Sp.co s.2.1 j).2.2.1.length := by omega
        unfold Sp.th123 Sp.th12
        rw [th2_succ, hkk]
    · have hjl : j = s.2.1.length := by omega
      subst hjl
      have : ¬ Sp.th1 s s.2.1.length = [] := fun e => hz ((up_nil_iff q _).2 e)
      unfold Sp.things
      rw [if_neg this]; rfl
/-- Three cells in the first slots. -/
structure ThkAt (a : Act) (N : Nat) (vs : List Value) : Prop where
  size : a.tmps.size = N
  dfs : a.defers = []
  ev : ∀ t v, vs[t]? = some v → a.eval (.tmp t) = v
theorem ThkAt.start (N : Nat) (vs : List Value) (h : vs.length ≤ N) : ThkAt { tmps := vs.toArray ++ Array.replicate (N - vs.toArray.size) undef, defers := [] } N vs :=
  ⟨by simp; omega, rfl, fun t v hv => start_ev hv⟩
theorem thk_post {F S0 : NSet} {w w' : World} {q : Nat} {args : List AK} {pre : Sp.Mach → kdens args → Prop} {fn : Sp.Mach → kdens args → Sp.Mach} {z : FuncId × List Int} {x : Sp.Mach} {y : kdens args} {e : Ending}
    (h : PPost F S0 w q { τ := tMach, m := mMach, args := args, res := .unit, pre := pre, fn := fn, out := fun _ _ => () } x y e w') (hfn : fn x y = Sp.runT z x) : (∃ v, e = .returned v) ∧ PPost F S0 w q (tThk.at z) x () (.returned (.tuple #[])) w' := by
  obtain ⟨v, F', S', Sr, cs', q0, q1, q2, q3, q4, q5, q6, q7, q8, q9, q10, q11, q12, q13⟩ := h
  refine ⟨⟨v, q0⟩, .tuple #[], F', S', none', cs', rfl, q1, q2, q3, q4, q5, q6, q7, ?_, q9, fun k h => h.elim, q11, ?_, [], rfl, rfl⟩
  · rintro k (h | h | h)
    · exact q8 k (.inl h)
    · exact q8 k (.inr (.inl h))
    · exact h.elim
  · have q12 : Own F' w' tMach mMach S' cs' (fn x y) := q12
    rw [hfn] at q12
    exact q12
theorem res_none {fn : Func} (h : fn.results.toList = []) {a : Act} {w : World} : (results fn a.tmps).run Try.prog w = .ok (.tuple #[]) w := by
  rw [results_run (vs := [])]
  · rfl
  · rw [h]; simp [Sem.run_pure]
theorem thk46 {q n : Nat} {R : Ending → World → Prop} {F : NSet} {w : World} {a : Act} {v1 v2 : Value} {k : Int} (h : ThkAt a 5 [v1, v2]) {c : Code} (hc : Try.f46.body = some c) (h1 : CellAt F w v1 (.pointer (some ⟨q, 0, none⟩))) (h2 : CellAt F w v2 (.int .i64 k))
    (hcall : Calls Try.prog 47 [.pointer (some ⟨q, 0, none⟩), .int .i64 k].toArray w fun e w' => (∃ v, e = .returned v) ∧ R (.returned (.tuple #[])) w') : c.wp Try.prog (bodyPost Try.prog Try.f46 R) a w := by
  have hC : CtxOK Try.prog (mkC 33 []) := okA fns_nil
  injection (show some _ = some c from hc) with hc
  subst hc
  have e0 := h.ev 0 v1 rfl
  have e1 := h.ev 1 v2 rfl
  refine wp_region ?_
  refine ops_value rfl rfl (run_cell hC (T := 70) (τ := .abs .ptr) (by kernel_rfl) rfl rfl (by simp [ev_put, Act.size_put, h.size, e0, e1]) h1 rfl) ?_
  refine ops_value rfl rfl (run_cell hC (T := 3) (τ := tI) (by kernel_rfl) rfl rfl (by simp [ev_put, Act.size_put, h.size, e0, e1]) h2 rfl) ?_
  refine ops_call rfl rfl (run_call rfl Try.call47 (by simp [ev_put, Act.size_put, h.size, e0, e1])) hcall ?_
  rintro e w' ⟨⟨v, rfl⟩, hR⟩
  exact ⟨v, rfl, ops_nil ⟨by simp [Act.defers_put, h.dfs], _, res_none rfl, hR⟩⟩
theorem thk48 {q n : Nat} {R : Ending → World → Prop} {F : NSet} {w : World} {a : Act} {v1 v2 v3 : Value} {k j : Int} (h : ThkAt a 7 [v1, v2, v3]) {c : Code} (hc : Try.f48.body = some c) (h1 : CellAt F w v1 (.pointer (some ⟨q, 0, none⟩))) (h2 : CellAt F w v2 (.int .i64 k)) (h3 : CellAt F w v3 (.int .i64 j))
    (hcall : Calls Try.prog 49 [.pointer (some ⟨q, 0, none⟩), .int .i64 k, .int .i64 j].toArray w fun e w' => (∃ v, e = .returned v) ∧ R (.returned (.tuple #[])) w') : c.wp Try.prog (bodyPost Try.prog Try.f48 R) a w := by
  have hC : CtxOK Try.prog (mkC 33 []) := okA fns_nil
  injection (show some _ = some c from hc) with hc
  subst hc
  have e0 := h.ev 0 v1 rfl
  have e1 := h.ev 1 v2 rfl
  have e2 := h.ev 2 v3 rfl
  refine wp_region ?_
  refine ops_value rfl rfl (run_cell hC (T := 70) (τ := .abs .ptr) (by kernel_rfl) rfl rfl (by simp [ev_put, Act.size_put, h.size, e0, e1]) h1 rfl) ?_
  refine ops_value rfl rfl (run_cell hC (T := 3) (τ := tI) (by kernel_rfl) rfl rfl (by simp [ev_put, Act.size_put, h.size, e0, e1]) h2 rfl) ?_
  refine ops_value rfl rfl (run_cell hC (T := 3) (τ := tI) (by kernel_rfl) rfl rfl (by simp [ev_put, Act.size_put, h.size, e0, e1, e2]) h3 rfl) ?_
  refine ops_call rfl rfl (run_call rfl Try.call49 (by simp [ev_put, Act.size_put, h.size, e0, e1])) hcall ?_
  rintro e w' ⟨⟨v, rfl⟩, hR⟩
  exact ⟨v, rfl, ops_nil ⟨by simp [Act.defers_put, h.dfs], _, res_none rfl, hR⟩⟩
theorem int_own {F : NSet} {w : World} {n : Int} (h1 : IntKind.i64.min ≤ n) (h2 : n ≤ IntKind.i64.max) : ArgOK Try.prog F w (.val tI) (.int .i64 n) n := ⟨[.int .i64 n], rfl, rfl, h1, h2⟩
theorem thk_ok (q : Nat) : TOk Try.prog q tThk := by
  rintro ⟨f, l⟩ w F S0 cs x caps hq hF hS0 hPl hO ⟨v1, r1, rfl, hp, hi⟩ ⟨hM, hn, hpre⟩
  rcases hpre with ⟨h1, h2, h3⟩ | ⟨h1, h2, h3, h4⟩
  · change f = 46 at h1
    subst h1
    match l, h2 with
    | [k], _ =>
      match r1, hi with
      | v2 :: r2, ⟨k2, s2, e1, q1, b1, b2, q2⟩ =>
        injection e1 with e1 e2
        subst e1; subst e2
        match r2, q2 with
        | _ :: _, ⟨_, _, e1, _⟩ => cases e1
        | [], _ =>
          refine ⟨Try.call46, calls_of_wp Try.func46 rfl (thk46 (q := q) (n := 0) (F := F) (ThkAt.start 5 [v1, v2] (Nat.le_of_ble_eq_true rfl)) rfl hp q1 ?_)⟩
          refine (pk47.2 w F S0 q cs x [.int .i64 k] (k, ()) (fun _ h => by cases h) hq hF hS0 hPl hO ⟨_, _, rfl, int_own b1 b2, rfl⟩ ⟨hM, hn, h3⟩).mono ?_
          intro e w' hpost
          exact thk_post (z := (46, [k])) hpost rfl
      | [], hi => cases hi
  · change f = 48 at h1
    subst h1
    match l, h2 with
    | [k, j], _ =>
      match r1, hi with
      | v2 :: r2, ⟨k2, s2, e1, q1, b1, b2, q2⟩ =>
        injection e1 with e1 e2
        subst e1; subst e2
        match r2, q2 with
        | v3 :: r3, ⟨k3, s3, e1, q3, b3, b4, q4⟩ =>
          injection e1 with e1 e2
          subst e1; subst e2
          match r3, q4 with
          | _ :: _, ⟨_, _, e1, _⟩ => cases e1
          | [], _ =>
            refine ⟨Try.call48, calls_of_wp Try.func48 rfl (thk48 (q := q) (n := 0) (F := F) (ThkAt.start 7 [v1, v2, v3] (Nat.le_of_ble_eq_true rfl)) rfl hp q1 q3 ?_)⟩
            refine (pk49.2 w F S0 q cs x [.int .i64 k, .int .i64 j] (k, j, ()) (fun _ h => by cases h) hq hF hS0 hPl hO ⟨_, _, rfl, int_own b1 b2, _, _, rfl, int_own b3 b4, rfl⟩ ⟨hM, hn, h3, h4⟩).mono ?_
            intro e w' hpost
            exact thk_post (z := (48, [k, j])) hpost rfl
        | [], hi => cases hi
      | [], hi => cases hi
end Go.User
namespace Go.User
open Go.Lf Go.Proofs
theorem okC16a : CtxOK Try.prog C16a := ctx_okQ 0 rfl rfl fns_nil ptrs_nil (fun _ h => by cases h) (fun _ h => by cases h) ins_nil
theorem okC16b (q : Nat) : CtxOK Try.prog (C16b q) := by
  refine ctx_okQ q rfl rfl fns_nil ?_ (fun t h => by injection h with h; subst h; exact thk_ok q) (fun _ h => by cases h) ins_nil
  intro f s hs
  have hs : Lf.look [(25, S25 q), (26, S26)] f = some s := hs
  simp only [Lf.look] at hs
  cases hb : Nat.beq 25 f
  · rw [hb] at hs
    exact ptr_cons (C := C16b q) pk26 ptrs_nil f s hs
  · rw [hb] at hs
    have := Nat.eq_of_beq_eq_true hb
    simp only [cond_true, Option.some.injEq] at hs
    rw [← this, ← hs]
    exact ⟨some q, pk25 q, fun q' hq => by injection hq with hq; exact ⟨rfl, hq.symm⟩⟩
theorem ok16 : FOk Try.prog 16 S16 := by
  refine FOk.introJ (t := t16) (fl := fl16) okC16a (stpR_ok okC16a) okC16b (fun q => stpR_ok (okC16b q)) Try.call16 Try.func16 rfl (fun q => rfl) (by kernel_rfl) L16a L16b (vc16.mpr ?_)
  simp only [z1, z2, z3, z4, z5, z6, z7, z8, z9, z10, z11, z12, z13, z14, z15, z16, z17, z18, z19, z20, z21, z22, z23, z24, z25, z26, z27, z28, z29, z30, z31, z32, z33, z34, z35, z36, z37, z38]
  rintro ⟨t, ch, u⟩ hT hx
  have hT : Sp.okT t := hT
  have hE := hT.2.1
  have hP := hT.1
  have hI := Sp.init_ok hT
  dsimp only
  refine ⟨⟨by decide, by decide, by rw [maxNew_eq]; decide⟩, ⟨0, Nat.zero_le _, rfl, rfl⟩, ?_⟩
  intro i hi hk
  have hi : i ≤ t.1.length := hi
  have hcl : (Sp.coresN t.1 i).length = i := by simp [Sp.coresN]
  refine ⟨fun hlt => ⟨inN_of hlt, by rw [maxNew_eq, hcl]; omega, ⟨0, Nat.zero_le _, rfl, ?_⟩, ?_⟩, fun hge => ?_⟩
  · show _ = Sp.machN t (i + 1) i 0
    unfold Sp.machN
    rw [Sp.coresN_succ, ← Sp.evN_zero]
    rfl
  · intro j hj hk2
    have hj : j ≤ (t.1.getD i []).length := hj
    have hlt : (i : Int) < (t.1.length : Int) := hlt
    have hev : (Sp.evN t.1 i j).length ≤ 1000 := by
      have h1 := Sp.evs_take_len t.1 (i + 1)
      rw [← Sp.evN_full (by omega)] at h1
      unfold Sp.evN at h1 ⊢
      rw [List.length_append, List.length_map, List.length_take] at h1 ⊢
      omega
    have hev2 : (t.1.getD i []).length ≤ 1000 := by
      have h1 := Sp.evs_take_len t.1 (i + 1)
      rw [← Sp.evN_full (by omega)] at h1
      unfold Sp.evN at h1
      rw [List.length_append, List.length_map, List.length_take] at h1
      omega
    refine ⟨fun hlt2 => ⟨inN_of hlt2, by rw [maxNew_eq]; omega, by rw [maxNew_eq, List.length_replicate]; omega, inK_mid (by omega) (by omega), j + 1, ?_, ?_, by omega, ?_⟩, fun hge2 => ⟨inK_mid (by omega) (by omega), i + 1, ?_, ?_, by omega, ?_⟩⟩
    · have hlt2 : (j : Int) < ((t.1.getD i []).length : Int) := hlt2
      show j + 1 ≤ (t.1.getD i []).length
      omega
    · have hlt2 : (j : Int) < ((t.1.getD i []).length : Int) := hlt2
      show (t.1.getD i []).length - (j + 1) < (t.1.getD i []).length - j
      omega
    · have hlt2 : (j : Int) < ((t.1.getD i []).length : Int) := hlt2
      show _ = Sp.machN t (i + 1) i (j + 1)
      unfold Sp.machN
      rw [Sp.evN_succ (by omega), List.length_append, List.length_singleton]
      have : List.replicate ((Sp.evN t.1 i j).length + 1) (-1 : Int) = List.replicate (Sp.evN t.1 i j).length (-1) ++ [-1] := List.replicate_succ'
      rw [this]
      rfl
    · show i + 1 ≤ t.1.length
      omega
    · show t.1.length - (i + 1) < t.1.length - i
      omega
    · have hge2 : ((t.1.getD i []).length : Int) ≤ (j : Int) := hge2
      have hjl : j = (t.1.getD i []).length := by omega
      show Sp.machN t (i + 1) i j = Sp.machN t (i + 1) (i + 1) 0
      unfold Sp.machN
      rw [hjl, Sp.evN_full (by omega), ← Sp.evN_zero]
  · have hge : (t.1.length : Int) ≤ (i : Int) := hge
    have hil : i = t.1.length := by omega
    subst hil
    intro q
    refine ⟨hI, ⟨(Sp.mu (Sp.init t), Sp.init t, ch), ⟨hI, rfl, Nat.le_refl _, rfl⟩, rfl, rfl, rfl⟩, ?_⟩
    rintro ⟨f, s, ch'⟩ ⟨hM, ht, hmu, hloop⟩ hk
    have hM : Sp.OkM s := hM
    have ht : s.1 = t := ht
    have hmu : Sp.mu s ≤ f := hmu
    have hloop : Sp.loopN f s ch' = Sp.loopN (Sp.mu (Sp.init t)) (Sp.init t) ch := hloop
    have hsl : s.2.1.length = t.1.length := by rw [hM.len, ht]
    have step : ∀ (k : Int), k.toNat < (Sp.things s).length → k = Sp.pick ch' (Sp.things s).length → ∀ (c2 : List Int), c2 = ch'.drop 1 →
        ∃ y : Nat × Sp.Mach × List Int, (Sp.OkM y.2.1 ∧ y.2.1.1 = t ∧ Sp.mu y.2.1 ≤ y.1 ∧ Sp.loopN y.1 y.2.1 y.2.2 = Sp.loopN (Sp.mu (Sp.init t)) (Sp.init t) ch) ∧ y.1 < f ∧ Sp.runT ((Sp.things s).getD k.toNat (0, [])) s = y.2.1 ∧ c2 = y.2.2 ∧ Sp.up q (Sp.things (Sp.runT ((Sp.things s).getD k.toNat (0, [])) s)) = Sp.up q (Sp.things y.2.1) := by
      intro k hk hpk c2 hc2
      have hz : (Sp.things s).getD k.toNat (0, []) ∈ Sp.things s := by rw [Sp.getD_at hk]; exact List.getElem_mem _
      obtain ⟨k1, k2, k3⟩ := Sp.step_ok (Sp.things_pre hM hz)
      obtain ⟨f', rfl⟩ : ∃ f', f = f' + 1 := ⟨f - 1, by omega⟩
      refine ⟨(f', Sp.runT ((Sp.things s).getD k.toNat (0, [])) s, c2), ⟨k1, k2.t.trans ht, ?_, ?_⟩, ?_, rfl, rfl, rfl⟩
      · show Sp.mu (Sp.runT _ s) ≤ f'
        omega
      · show Sp.loopN f' (Sp.runT _ s) c2 = _
        rw [← hloop, Sp.loop_step (by omega), ← hpk, hc2]
        rfl
      · show f' < f' + 1
        omega
    have pre : ∀ (k : Int), k.toNat < (Sp.things s).length → Sp.preT ((Sp.things s).getD k.toNat (0, [])) s := by
      intro k hk
      exact Sp.things_pre hM (by rw [Sp.getD_at hk]; exact List.getElem_mem _)
    have hth : (Sp.things s).length ≤ 4000 := by
      unfold Sp.things
      split
      · exact Nat.zero_le _
      · have h1 := th1_len s s.2.1.length
        have h2 := th2_len hM s.2.1.length (Nat.le_refl _)
        rw [List.length_append]
        omega
    simp only [Sp.up_len]
    refine ⟨fun h0 => ⟨fun hc => ?_, fun hc => ?_⟩, fun h0 => ?_⟩
    · have h0 : (0 : Int) < ((Sp.things s).length : Int) := h0
      have hc : (0 : Int) < (ch'.length : Int) := hc
      have hpk : Sp.pick ch' (Sp.things s).length = ((ch'.getD 0 0).tmod (Sp.things s).length + (Sp.things s).length).tmod (Sp.things s).length := by
        unfold Sp.pick; rw [if_neg (by omega)]
      have h1 : (ch'.getD 0 0).tmod ((Sp.things s).length : Int) < (Sp.things s).length := Int.tmod_lt_of_pos _ h0
      have h2 : -((Sp.things s).length : Int) < (ch'.getD 0 0).tmod (Sp.things s).length := by
        have := Int.tmod_lt_of_pos (-(ch'.getD 0 0)) h0
        rw [Int.neg_tmod] at this; omega
      have h3 := Int.tmod_lt_of_pos ((ch'.getD 0 0).tmod ((Sp.things s).length : Int) + (Sp.things s).length) h0
      have h4 := Int.tmod_nonneg ((Sp.things s).length : Int) (a := (ch'.getD 0 0).tmod ((Sp.things s).length : Int) + (Sp.things s).length) (by omega)
      have hkl : (((ch'.getD 0 0).tmod (Sp.things s).length + (Sp.things s).length).tmod (Sp.things s).length).toNat < (Sp.things s).length := by omega
      have hst := step _ hkl hpk.symm (ch'.drop 1) rfl
      have hpr := pre _ hkl
      have hget := Sp.up_get q (Sp.things s) hkl
      simp only [show Int.toNat 0 = 0 from rfl]
      simp only [hget]
      have hok := (Sp.step_ok hpr).1
      have hw : win 1 (ch'.length : Int) ch' = ch'.drop 1 := by
        unfold win
        rw [Int.toNat_natCast, List.take_length]
        rfl
      rw [hw]
      exact ⟨⟨⟨by decide, hc⟩, by omega, inK_mid (by omega) (by omega), by omega⟩, ⟨by decide, by omega, Int.le_refl _⟩, ⟨⟨h4, h3⟩, rfl, trivial, hpr⟩, hok, hst⟩
    · have h0 : (0 : Int) < ((Sp.things s).length : Int) := h0
      have hc : (ch'.length : Int) ≤ 0 := hc
      have hcn : ch' = [] := List.eq_nil_of_length_eq_zero (by omega)
      have hpk : Sp.pick ch' (Sp.things s).length = 0 := by
        unfold Sp.pick; rw [if_pos (by omega)]
      have hkl : (0 : Int).toNat < (Sp.things s).length := by show 0 < _; omega
      have hst := step 0 hkl hpk.symm ch' (by rw [hcn]; rfl)
      have hpr := pre 0 hkl
      have hget := Sp.up_get q (Sp.things s) hkl
      have hok := (Sp.step_ok hpr).1
      simp only [hget]
      exact ⟨⟨⟨by decide, h0⟩, rfl, trivial, hpr⟩, hok, hst⟩
    · have h0 : ((Sp.things s).length : Int) ≤ 0 := h0
      have hend : s = Sp.loopN (Sp.mu (Sp.init t)) (Sp.init t) ch := by
        rw [← hloop, Sp.loop_end (by omega)]
      rw [← hend]
      refine ⟨⟨0, ⟨Nat.zero_le _, hM, hsl⟩, rfl, rfl⟩, ?_⟩
      intro k ⟨hk, hkM, hkl⟩ hk2
      refine ⟨fun hlt => ?_, fun hge => ?_⟩
      · have hlt : (k : Int) < (s.2.1.length : Int) := hlt
        have hn : Sp.inC (Sp.flAll k s) (k : Int) := ⟨by omega, by rw [hkl, ← hsl]; exact hlt⟩
        have hf := Sp.flush_mu hkM hn
        exact ⟨⟨hkM, hn⟩, inK_mid (by omega) (by omega), k + 1, ⟨by omega, hf.2.2.2, hf.1.len.trans hkl⟩, by omega, by omega, rfl⟩
      · have hge : (s.2.1.length : Int) ≤ (k : Int) := hge
        have hkk : k = t.1.length := by omega
        unfold Sp.gE Sp.gF Sp.gM Sp.gO Sp.run Sp.runM
        rw [← hend, hkk]
end Go.User
namespace Sp
def gt (l : List Int) (x : Int) : Int := l.getD x.toNat 0
/-- The words of a cache: each of another place. -/
def okC (c : List Word) : Prop := (c.map fun w => w.2.1).Nodup ∧ ∀ w ∈ c, w.1 = 0 ∧ 0 ≤ w.2.1 ∧ w.2.1 < 8
def okV (s : World) : Prop := (∃ l, s.2.1 = [l] ∧ l.length = 8) ∧ s.1.length = 3 ∧ ∀ c ∈ s.1, okC c
/-- A cache and the memory hold what a single memory would, at the places of a core. -/
def own (D : Int → Prop) (c : List Word) (l p : List Int) : Prop :=
  (∀ w ∈ c, D w.2.1 ∧ w.2.2.1 = gt p w.2.1 ∧ (w.2.2.2.1 = false → gt l w.2.1 = gt p w.2.1)) ∧ ∀ x, 0 ≤ x → x < 8 → D x → (∀ w ∈ c, w.2.1 ≠ x) → gt l x = gt p x
structure InvA (D : Nat → Int → Prop) (s : World) (p : List Int) : Prop where
  ok : okV s
  len : p.length = 8
  own : ∀ n, n < 3 → Sp.own (D n) (s.1.getD n []) (s.2.1.getD 0 []) p
  rest : ∀ x, 0 ≤ x → x < 8 → (∀ n, n < 3 → ¬ D n x) → gt (s.2.1.getD 0 []) x = gt p x
def D3 (n : Nat) (x : Int) : Prop := n = 0
def D5 (n : Nat) (x : Int) : Prop := x / 2 = n
def clean (s : World) : Prop := ∀ c ∈ s.1, ∀ w ∈ c, w.2.2.2.1 = false
def cAt (s : World) (n : Int) : List Word := s.1.getD n.toNat []
end Sp
namespace Go.User
open Go.Lf
def S9 : FSpec := { args := [], multi := false, res := .bool, mode := .shr, pre := fun _ => True, fn := fun _ => true }
def C9 : Ctx := { mkC 138 [(16, S16), (19, S19)] with frz := [21, 24, 25, 28, 33, 37, 38, 41, 66, 67] }
def L9 (x : kdens S9.args) : List LoopI := []
def mkL (n : Nat) : Ctx := mkC n [(9, S9), (10, S10), (11, S11), (12, S12), (13, S13), (14, S14)]
abbrev mM : Md := .own (.own .shr)
def S3 : FSpec := { args := [.val (.slice tAcc)], multi := false, res := .bool, mode := .shr, pre := fun _ => True, fn := fun _ => true }
def C3 : Ctx := mkL 122
def L3 (x : kdens S3.args) : List LoopI := [
  { ι := Nat × Sp.World × List Int, inv := fun i => i.1 ≤ List.length x.1 ∧ Sp.InvA Sp.D3 i.2.1 i.2.2, dec := fun i => List.length x.1 - i.1, ovr := fun i => [(6, .shr tI (i.1 : Int)), (4, .box tWorld .shr i.2.1), (5, .own tMem mM [i.2.2])], keep := [0, 3] }]
def S4 : FSpec := { args := [.val (.slice tAcc), .val (.int .u8)], multi := false, res := .bool, mode := .shr, pre := fun _ => True, fn := fun _ => true }
def C4 : Ctx := mkL 153
def L4 (x : kdens S4.args) : List LoopI := [
  { ι := Nat × Sp.World, inv := fun i => i.1 ≤ List.length x.1 ∧ Sp.okV i.2, dec := fun i => List.length x.1 - i.1, ovr := fun i => [(8, .shr tI (i.1 : Int)), (6, .box tWorld .shr i.2)], keep := [0, 5, 7] },
  { ι := Nat × Sp.World, inv := fun i => i.1 ≤ List.length (Sp.cAt i.2 (x.2.1 % 3)) ∧ Sp.okV i.2, dec := fun i => List.length (Sp.cAt i.2 (x.2.1 % 3)) - i.1, ovr := fun i => [(10, .shr tI (i.1 : Int)), (6, .box tWorld .shr i.2), (9, .own tMem mM (Sp.fl (List.take i.1 (Sp.cAt i.2 (x.2.1 % 3))) i.2.2.1))], keep := [0, 5, 7] },
  { ι := Nat × Sp.World, inv := fun i => i.1 ≤ 8 ∧ Sp.okV i.2 ∧ Sp.cAt i.2 (x.2.1 % 3) = [], dec := fun i => 8 - i.1, ovr := fun i => [(14, .shr tI (i.1 : Int)), (12, .box tWorld .shr i.2), (9, .own tMem mM i.2.2.1)], keep := [5, 7] }]
def S5 := S3
def C5 : Ctx := mkL 130
def L5 (x : kdens S5.args) : List LoopI := [
  { ι := Nat × Sp.World × List Int, inv := fun i => i.1 ≤ List.length x.1 ∧ Sp.InvA Sp.D5 i.2.1 i.2.2, dec := fun i => List.length x.1 - i.1, ovr := fun i => [(6, .shr tI (i.1 : Int)), (4, .box tWorld .shr i.2.1), (5, .own tMem mM [i.2.2])], keep := [0, 3] },
  { ι := Nat × Sp.World × List Int, inv := fun i => i.1 ≤ 3 ∧ Sp.InvA Sp.D5 i.2.1 i.2.2 ∧ ∀ n, n < 3 → 2 < n + i.1 → i.2.1.1.getD n [] = [], dec := fun i => 3 - i.1, ovr := fun i => [(12, .shr tI (2 - (i.1 : Int))), (4, .box tWorld .shr i.2.1), (5, .own tMem mM [i.2.2])], keep := [3] }]
def S6 := S3
def C6 : Ctx := mkL 87
def L6 (x : kdens S6.args) : List LoopI := [
  { ι := Nat × Sp.World, inv := fun i => i.1 ≤ List.length x.1 ∧ Sp.okV i.2 ∧ Sp.clean i.2, dec := fun i => List.length x.1 - i.1, ovr := fun i => [(6, .shr tI (i.1 : Int)), (4, .box tWorld .shr i.2), (5, .own tMem mM i.2.2.1)], keep := [0, 3] }]
def S7 : FSpec := { args := [.val (.int .u8), .val (.int .i32), .val .bool], multi := false, res := .bool, mode := .shr, pre := fun _ => True, fn := fun _ => true }
def C7 : Ctx := mkL 116
def L7 (x : kdens S7.args) : List LoopI := []
end Go.User
namespace Go.User
open Go.Proofs Go.Lf
set_option maxRecDepth 100000
theorem vc9 : (funI C9 (stpR C9) S9 L9 Try.f9) = (
let q0 : Prop := (True ∧ True) ∧ True;
let q1 : Prop := True ∧ True ∧ True;
let q2 : Prop := True ∧ q1;
let q3 : Prop := True ∧ q2;
let q4 : Prop := True ∧ q3;
let q5 : Prop := True ∧ q4;
let q6 : Prop := (True ∧ True) ∧ True ∧ True;
let q7 : Prop := True ∧ True ∧ True ∧ q5;
let q8 : Int := (2 : Int);
let q9 : Int := (0 : Int);
let q10 : Int := (1 : Int);
let q11 : Int × Unit := (q10, ());
let q12 : Int × Int × Int × Unit := (q8, q9, q11);
let q13 : List (Int × Int × Int × Unit) := (q8, q10, q11) :: ([] : List tLOp.den);
let q14 : Int × Unit := (q9, ());
let q15 : Int × Int × Int × Unit := (q10, q10, q14);
let q16 : Int × Int × Unit := (q9, q14);
let q17 : List (Int × Int × Int × Unit) := (q10, q16) :: ([] : List tLOp.den);
let q18 : List (List (Int × Int × Int × Unit)) := ([] : List tLOp.slice.den);
let q19 : List (List (Int × Int × Int × Unit)) × Unit := ((q12 :: q13) :: (q15 :: q17) :: q18, ());
let q20 : Int := (4 : Int);
let q21 : Int × Int × Int × Unit := (q20, q16);
let q22 : List (List (Int × Int × Int × Unit)) × Unit := ((q12 :: q21 :: q13) :: (q15 :: q21 :: q17) :: q18, ());
let q23 : Prop := (true && true) = true;
let q24 : Prop := q23 → True;
let q25 : List Int := q9 :: q9 :: ([] : List tI.den);
let q26 : List Int := q9 :: q9 :: q8 :: q25;
let q27 : Nat := (Sp.gE q19 q26).length;
let q28 : List Int := q9 :: q9 :: q9 :: q10 :: q9 :: q25;
let q29 : Nat := (Sp.gE q22 q28).length;
let q30 : Int := (3 : Int);
let q31 : Bool := bif bif bif (↑q27 : Int) != q20 then true else (↑q29 : Int) != (6 : Int) then true else (↑(Sp.gM q19 q26).length : Int) != q30 then true else (↑(Sp.gO q22 q28).length : Int) != q8;
let q32 : Int := (7 : Int);
let q33 : List Int := ([] : List (Ty.int IntKind.i32).den);
let q34 : List (List Int) := (q32 :: q33) :: ([] : List (Ty.int IntKind.i32).slice.den);
let q35 : Int := (0 : (AK.val tI).den);
let q36 : List Int := Sp.gF q19 q26;
let q37 : Nat := q36.length;
let q38 : Int := (5 : Int);
let q39 : List Int := Sp.gF q22 q28;
let q40 : Int := Sp.mget q34 q9;
let q41 : Nat := ((q9, q9, q40, false, ()) :: ([] : List (Int × Int × Int × Bool × Unit))).length;
let q42 : Bool := q10 == q10;
∀ (x : Unit), True → True → q0 ∧ (q5 ∧ q2) ∧ q3 ∧ q6 ∧ q6 ∧ (q7 ∧ True ∧ True) ∧ ((True ∧ True ∧ Sp.okT q19 ∧ True ∧ True) ∧ True ∧ True) ∧ ((True ∧ True ∧ q7) ∧ True ∧ True) ∧ ((True ∧ True ∧ Sp.okT q22 ∧ True ∧ True) ∧ True ∧ True) ∧ ((True ∧ True ∧ True ∧ True ∧ True ∧ q24 ∧ q24 ∧ q24 ∧ q24 ∧ True ∧ True ∧ q24 ∧ q24 ∧ q24 ∧ q24 ∧ True ∧ True ∧ q24 ∧ q24 ∧ q24 ∧ q24 ∧ True ∧ True) ∧ True) ∧ (q31 = true → q0 ∧ false = true) ∧ (q31 = false → ((True ∧ True ∧ (Sp.okS (([] : List tW.den)) q34 ∧ q9 = q35 ∧ q35 ≤ q9 ∧ q9 < (↑(List.length (q34.getD (0 : Nat) q33)) : Int)) ∧ q4) ∧ True) ∧ ((True ∧ True ∧ inN q8 q27 ∧ True ∧ True ∧ True ∧ True ∧ q24 ∧ q24 ∧ (q23 → inN q30 q27) ∧ q24 ∧ q24 ∧ q24 ∧ True ∧ True ∧ q24 ∧ q24 ∧ (q23 → inN q8 q37) ∧ q24 ∧ q24 ∧ True ∧ True ∧ q24 ∧ q24 ∧ (q23 → inN q30 q37) ∧ q24 ∧ q24 ∧ True ∧ True ∧ q24 ∧ q24 ∧ (q23 → inN q30 q29) ∧ q24 ∧ q24 ∧ q24 ∧ True ∧ True ∧ q24 ∧ q24 ∧ (q23 → inN q38 q29) ∧ q24 ∧ q24 ∧ q24 ∧ True ∧ True ∧ q24 ∧ q24 ∧ (q23 → inN q38 q39.length) ∧ q24 ∧ q24 ∧ True ∧ True ∧ q24 ∧ q24 ∧ True ∧ True ∧ q24 ∧ q24 ∧ q24 ∧ True ∧ True ∧ q24 ∧ (q23 → inN q9 q41) ∧ q24 ∧ q24 ∧ q24 ∧ q1) ∧ True) ∧ (bif bif bif bif bif bif bif bif bif q42 then q9 == q9 else false then q36.getD q8.toNat q9 == q10 else false then q36.getD q30.toNat q9 == -q10 else false then q42 else false then q42 else false then q39.getD q38.toNat q9 == q9 else false then q40 == q32 else false then (↑q41 : Int) == q10 else false then !false else false) = true)) := by kernel_rfl
theorem vc3 : (funI C3 (stpR C3) S3 L3 Try.f3) = (
let q0 : Prop := (True ∧ True) ∧ True;
let q1 : Prop := True ∧ True ∧ True;
let q2 : Prop := q1 ∧ True;
let q3 : Prop := q0 ∧ false = true;
let q4 : Int := (0 : Int);
let q5 : List (List Int) := Sp.ramp q4 (8 : Nat) :: ([] : List (List Int));
let q6 : Nat := (1000000 : Nat);
let q7 : List (List Int) := ([] : List (Ty.int IntKind.i32).slice.den);
let q8 : Prop := true = true ∧ True;
let q9 : Int := (8 : Int);
let q10 : Int := (5 : Int);
let q11 : Prop := q10 ≠ q4;
let q12 : Int := (0 : (AK.val tI).den);
let q13 : Prop := q12 ≤ q4;
let q14 : Prop := q4 < (3 : (AK.val tI).den);
let q15 : Int × Int × Int × Int × Unit := (q4, q4, q4, q4, ());
let q16 : List Int := ([] : List (Ty.int IntKind.i32).den);
let q17 : Prop := True ∧ True ∧ q1;
let q18 : Nat := q4.toNat;
let q19 : Int := (1 : Int);
∀ (x : List (Int × Int × Int × Int × Unit) × Unit),
  let q20 : Nat := x.1.length;
  let q21 : Prop := x.1 = x.1 ∧ q8;
  True →
    dFact ((Ty.int IntKind.u8).prod ((Ty.int IntKind.u8).prod ((Ty.int IntKind.u8).prod ((Ty.int IntKind.i32).prod Ty.unit)))).slice x.1 ∧ True →
      q0 ∧
        q2 ∧
          q2 ∧
            ((!true) = true → q3) ∧
              ((!true) = false →
                (q1 ∧ True ∧ True) ∧
                  ((True ∧ True ∧ (q5.length ≤ q6 ∧ ∀ (l : List Int), l ∈ q5 → l.length ≤ q6) ∧ True) ∧ True ∧ True) ∧
                    q0 ∧
                      (∃ (x : Nat × Sp.World × List Int), (x.1 ≤ q20 ∧ Sp.InvA Sp.D3 x.2.1 x.2.2) ∧ q4 = (↑x.1 : Int) ∧ Sp.begin q4 = x.2.1 ∧ q5 = x.2.2 :: q7 ∧ q21) ∧
                        ∀ (x_1 : Nat × Sp.World × List Int),
                          let q22 : Int := (↑x_1.1 : Int);
                          let q23 : List (List Int) := x_1.2.2 :: q7;
                          let q24 : Bool := decide (q22 < (↑q20 : Int));
                          let q25 : Prop := (true && bif q24 then true else false) = true → True;
                          let q26 : Bool := bif q24 then decide (q22 < (60 : Int)) else false;
                          let q27 : Prop := inN q22 q20;
                          let q28 : Int × Int × Int × Unit := (x.1.getD q22.toNat q15).2;
                          let q29 : Int × Int × Unit := q28.2;
                          let q30 : Int := q29.1 % q9;
                          let q31 : Int := (↑(List.length (x_1.2.1.2.1.getD (0 : Nat) q16)) : Int);
                          let q32 : Int := q28.1 % q10;
                          let q33 : Int := q29.2.1;
                          let q34 : (List (List (Int × Int × Int × Bool × Unit)) × List (List Int) × Unit) × Int × Unit := Sp.step x_1.2.1 q4 q32 q30 q33;
                          let q35 : List (List (Int × Int × Int × Bool × Unit)) × List (List Int) × Unit := q34.1;
                          let q36 : Bool := !Sp.whole q35.2.1;
                          let q37 : Bool := q32 == q4;
                          let q38 : Prop := inN q4 q23.length;
                          let q39 : List Int := q23.getD q18 q16;
                          let q40 : Prop := inN q30 q39.length;
                          let q41 : Nat := q30.toNat;
                          let q42 : Int := q39.getD q41 q4;
                          let q43 : Bool := q34.2.1 != q42;
                          let q44 : Int := q22 + q19;
                          let q45 : Prop := (True ∧ inK IntKind.i64 q44 ∧ True ∧ True) ∧ True;
                          let q46 : Prop := q45 ∧ ∃ (y : Nat × Sp.World × List Int), (y.1 ≤ q20 ∧ Sp.InvA Sp.D3 y.2.1 y.2.2) ∧ q20 - y.1 < q20 - x_1.1 ∧ q44 = (↑y.1 : Int) ∧ q35 = y.2.1 ∧ q23 = y.2.2 :: q7 ∧ q21;
                          let q47 : Bool := q32 == q19;
                          let q48 : Prop := True ∧ True ∧ q40 ∧ True;
                          let q49 : Bool := q32 == (2 : Int);
                          let q50 : Bool := Sp.sameM (Sp.fl (x_1.2.1.1.getD q18 (([] : List Sp.Word))) x_1.2.1.2.1) q23;
                          let q51 : Prop := (true && bif q50 then true else false) = true;
                          let q52 : Prop := q51 → True;
                          let q53 : List (List (Int × Int × Int × Bool × Unit)) := x_1.2.1.1.set q18 (([] : List Sp.Word));
                          let q54 : Bool := bif q50 then (↑(List.length (q53.getD q18 (([] : List tW.den)))) : Int) == q4 else false;
                          x_1.1 ≤ q20 ∧ Sp.InvA Sp.D3 x_1.2.1 x_1.2.2 → dFact (Ty.int IntKind.i64) q22 ∧ dFact (((Ty.int IntKind.i64).prod ((Ty.int IntKind.i64).prod ((Ty.int IntKind.i32).prod (Ty.bool.prod Ty.unit)))).slice.slice.prod ((Ty.int IntKind.i32).slice.slice.prod Ty.unit)) x_1.2.1 ∧ dFact (Ty.int IntKind.i32).slice.slice q23 ∧ True → ((True ∧ True ∧ True ∧ True ∧ True ∧ q25 ∧ q25 ∧ True ∧ True) ∧ True) ∧ (q26 = true → ((True ∧ True ∧ q27 ∧ True ∧ True ∧ q9 ≠ q4 ∧ q1) ∧ True) ∧ ((True ∧ True ∧ True ∧ q27 ∧ True ∧ True ∧ q11 ∧ True ∧ True ∧ True ∧ True ∧ q27 ∧ True ∧ True ∧ (Sp.okW x_1.2.1 ∧ q13 ∧ q14 ∧ q12 ≤ q30 ∧ q30 < q31) ∧ q17) ∧ q1) ∧ ((True ∧ True) ∧ True ∧ True) ∧ (q17 ∧ True) ∧ (q36 = true → q3) ∧ (q36 = false → ((True ∧ True ∧ q27 ∧ True ∧ True ∧ q11 ∧ True) ∧ True) ∧ q2 ∧ (q37 = true → ((True ∧ True ∧ q38 ∧ True ∧ True ∧ q40 ∧ q1) ∧ True) ∧ (q43 = true → q3) ∧ (q43 = false → q46)) ∧ (q37 = false → q2 ∧ (q47 = true → ((True ∧ q38 ∧ True ∧ True ∧ True ∧ True ∧ q27 ∧ q48) ∧ True ∧ True) ∧ q45 ∧ ∃ (y : Nat × Sp.World × List Int), (y.1 ≤ q20 ∧ Sp.InvA Sp.D3 y.2.1 y.2.2) ∧ q20 - y.1 < q20 - x_1.1 ∧ q44 = (↑y.1 : Int) ∧ q35 = y.2.1 ∧ q23.set q18 (q39.set q41 q33) = y.2.2 :: q7 ∧ q21) ∧ (q47 = false → q2 ∧ (q49 = true → ((True ∧ q38 ∧ True ∧ True ∧ q40 ∧ True ∧ True ∧ True ∧ q27 ∧ True ∧ q48) ∧ True ∧ True) ∧ q45 ∧ ∃ (y : Nat × Sp.World × List Int), (y.1 ≤ q20 ∧ Sp.InvA Sp.D3 y.2.1 y.2.2) ∧ q20 - y.1 < q20 - x_1.1 ∧ q44 = (↑y.1 : Int) ∧ q35 = y.2.1 ∧ q23.set q18 (q39.set q41 (IntKind.i32.wrap (q42 + q33))) = y.2.2 :: q7 ∧ q21) ∧ (q49 = false → q46))))) ∧ (q26 = false → ((True ∧ (Sp.okW x_1.2.1 ∧ q13 ∧ q14 ∧ q13 ∧ q4 < q31) ∧ q17) ∧ q1) ∧ ((True ∧ True ∧ True ∧ True ∧ True ∧ q52 ∧ q52 ∧ (q51 → inN q4 q53.length) ∧ q52 ∧ q52 ∧ q52 ∧ True ∧ True ∧ ((true && bif q54 then true else false) = true → True) ∧ q1) ∧ True) ∧ (bif q54 then true else false) = true))) := by kernel_rfl
theorem vc4 : (funI C4 (stpR C4) S4 L4 Try.f4) = (
let q0 : Prop := (True ∧ True) ∧ True;
let q1 : Prop := True ∧ True ∧ True;
let q2 : Prop := q1 ∧ True;
let q3 : Prop := q0 ∧ false = true;
let q4 : Int := (3 : Int);
let q5 : Int := (0 : Int);
let q6 : Prop := q4 ≠ q5;
let q7 : Int := (5 : Int);
let q8 : Prop := true = true;
let q9 : Int := (8 : Int);
let q10 : Int := (0 : (AK.val tI).den);
let q11 : Int × Int × Int × Int × Unit := (q5, q5, q5, q5, ());
let q12 : Int := (3 : (AK.val tI).den);
let q13 : List Int := ([] : List (Ty.int IntKind.i32).den);
let q14 : Prop := True ∧ q1;
let q15 : Prop := True ∧ q14;
let q16 : Int := (1 : Int);
let q17 : Nat := (1000000 : Nat);
let q18 : Int × Int × Int × Bool × Unit := (q5, q5, q5, false, ());
let q19 : Nat := q5.toNat;
let q20 : Nat := (8 : Nat);
∀ (x : List (Int × Int × Int × Int × Unit) × Int × Unit),
  let q21 : Nat := x.1.length;
  let q22 : Int := x.2.1 % q4;
  let q23 : Prop := q8 ∧ q22 = q22 ∧ True;
  let q24 : Prop := x.1 = x.1 ∧ q23;
  let q25 : Int := x.2.1 % q4;
  let q26 : Nat := q22.toNat;
  let q27 : Prop := q10 ≤ q22;
  let q28 : Prop := q22 < q12;
  True →
    dFact ((Ty.int IntKind.u8).prod ((Ty.int IntKind.u8).prod ((Ty.int IntKind.u8).prod ((Ty.int IntKind.i32).prod Ty.unit)))).slice x.1 ∧ dFact (Ty.int IntKind.u8) x.2.1 ∧ True →
      q0 ∧
        q2 ∧
          q2 ∧
            ((!true) = true → q3) ∧
              ((!true) = false →
                ((True ∧ True ∧ q6 ∧ q1) ∧ q1) ∧
                  q0 ∧
                    (∃ (x : Nat × Sp.World), (x.1 ≤ q21 ∧ Sp.okV x.2) ∧ q5 = (↑x.1 : Int) ∧ Sp.begin q7 = x.2 ∧ q24) ∧
                      ∀ (x_1 : Nat × Sp.World),
                        let q29 : Int := (↑x_1.1 : Int);
                        let q30 : Bool := decide (q29 < (↑q21 : Int));
                        let q31 : Prop := (true && bif q30 then true else false) = true → True;
                        let q32 : Bool := bif q30 then decide (q29 < (40 : Int)) else false;
                        let q33 : Prop := inN q29 q21;
                        let q34 : Int × Int × Int × Int × Unit := x.1.getD q29.toNat q11;
                        let q35 : Int := q34.1 % q4;
                        let q36 : Int × Int × Int × Unit := q34.2;
                        let q37 : Int × Int × Unit := q36.2;
                        let q38 : Int := q37.1 % q9;
                        let q39 : List (List (Int × Int × Int × Bool × Unit)) × List (List Int) × Unit := (Sp.step x_1.2 q35 (q36.1 % q7) q38 q37.2.1).1;
                        let q40 : Bool := !Sp.whole q39.2.1;
                        let q41 : Int := q29 + q16;
                        x_1.1 ≤ q21 ∧ Sp.okV x_1.2 →
                          dFact (Ty.int IntKind.i64) q29 ∧ dFact (((Ty.int IntKind.i64).prod ((Ty.int IntKind.i64).prod ((Ty.int IntKind.i32).prod (Ty.bool.prod Ty.unit)))).slice.slice.prod ((Ty.int IntKind.i32).slice.slice.prod Ty.unit)) x_1.2 ∧ True →
                            ((True ∧ True ∧ True ∧ True ∧ True ∧ q31 ∧ q31 ∧ True ∧ True) ∧ True) ∧
                              (q32 = true → ((True ∧ True ∧ True ∧ q33 ∧ True ∧ True ∧ q6 ∧ True ∧ True ∧ True ∧ q33 ∧ True ∧ True ∧ q7 ≠ q5 ∧ True ∧ True ∧ True ∧ q33 ∧ True ∧ True ∧ q9 ≠ q5 ∧ True ∧ True ∧ True ∧ q33 ∧ True ∧ True ∧ (Sp.okW x_1.2 ∧ q10 ≤ q35 ∧ q35 < q12 ∧ q10 ≤ q38 ∧ q38 < (↑(List.length (x_1.2.2.1.getD (0 : Nat) q13)) : Int)) ∧ q14) ∧ True ∧ True) ∧ (q15 ∧ True) ∧ (q40 = true → q3) ∧ (q40 = false → ((True ∧ inK IntKind.i64 q41 ∧ True ∧ True) ∧ True) ∧ ∃ (y : Nat × Sp.World), (y.1 ≤ q21 ∧ Sp.okV y.2) ∧ q21 - y.1 < q21 - x_1.1 ∧ q41 = (↑y.1 : Int) ∧ q39 = y.2 ∧ q24)) ∧
                                (q32 = false →
                                  ((True ∧ True ∧ (x_1.2.2.1.length ≤ q17 ∧ ∀ (l : List Int), l ∈ x_1.2.2.1 → l.length ≤ q17) ∧ True) ∧ True ∧ True) ∧
                                    q0 ∧
                                      (∃ (x : Nat × Sp.World), (x.1 ≤ (Sp.cAt x.2 q25).length ∧ Sp.okV x.2) ∧ q5 = (↑x.1 : Int) ∧ x_1.2 = x.2 ∧ x_1.2.2.1 = Sp.fl (List.take x.1 (Sp.cAt x.2 q25)) x.2.2.1 ∧ q24) ∧
                                        ∀ (x : Nat × Sp.World),
                                          let q42 : Nat := (Sp.cAt x.2 q25).length;
                                          let q43 : Int := (↑x.1 : Int);
                                          let q44 : List (List Int) := Sp.fl (List.take x.1 (Sp.cAt x.2 q25)) x.2.2.1;
                                          let q45 : Prop := inN q22 x.2.1.length;
                                          let q46 : List (Int × Int × Int × Bool × Unit) := x.2.1.getD q26 (([] : List tW.den));
                                          let q47 : Nat := q46.length;
                                          let q48 : Bool := decide (q43 < (↑q47 : Int));
                                          let q49 : Int × Int × Int × Bool × Unit := q46.getD q43.toNat q18;
                                          let q50 : Bool := q49.1 != q5;
                                          let q51 : Prop := (true && bif q50 then false else true) = true → True;
                                          let q52 : Int × Int × Bool × Unit := q49.2;
                                          let q53 : Int := q52.1;
                                          let q54 : Bool := bif q50 then true else decide (q53 < q5);
                                          let q55 : Prop := (true && bif q54 then false else true) = true → True;
                                          let q56 : Bool := bif q54 then true else decide (q53 > (7 : Int));
                                          let q57 : Int × Bool × Unit := q52.2;
                                          let q58 : Bool := q57.2.1;
                                          let q59 : List Int := q44.getD q19 q13;
                                          let q60 : Int := q43 + q16;
                                          let q61 : Prop := (True ∧ inK IntKind.i64 q60 ∧ True ∧ True) ∧ True;
                                          let q62 : List (List Int) := Sp.fl (x.2.1.getD q26 (([] : List Sp.Word))) x.2.2.1;
                                          let q63 : Bool := !Sp.sameM q62 q44;
                                          let q64 : Prop := (true && bif q63 then false else true) = true;
                                          let q65 : Prop := q64 → True;
                                          let q66 : List (List (Int × Int × Int × Bool × Unit)) := x.2.1.set q26 (([] : List Sp.Word));
                                          let q67 : Bool := bif q63 then true else (↑(List.length (q66.getD q26 (([] : List tW.den)))) : Int) != q5;
                                          x.1 ≤ q42 ∧ Sp.okV x.2 →
                                            dFact (Ty.int IntKind.i64) q43 ∧ dFact (((Ty.int IntKind.i64).prod ((Ty.int IntKind.i64).prod ((Ty.int IntKind.i32).prod (Ty.bool.prod Ty.unit)))).slice.slice.prod ((Ty.int IntKind.i32).slice.slice.prod Ty.unit)) x.2 ∧ dFact (Ty.int IntKind.i32).slice.slice q44 ∧ True →
                                              ((True ∧ True ∧ True ∧ True ∧ q45 ∧ q14) ∧ True) ∧
                                                (q48 = true →
                                                    ((True ∧ True ∧ True ∧ q45 ∧ True ∧ True ∧ inN q43 q47 ∧ q1) ∧ True ∧ True) ∧
                                                      ((True ∧ True ∧ True ∧ True ∧ q51 ∧ q51 ∧ q51 ∧ True ∧ True ∧ q55 ∧ q55 ∧ q55 ∧ True ∧ True) ∧ True) ∧
                                                        (q56 = true → q3) ∧
                                                          (q56 = false →
                                                            q2 ∧
                                                              (q58 = true →
                                                                  ((True ∧ inN q5 q44.length ∧ True ∧ True ∧ True ∧ True ∧ True ∧ inN q53 q59.length ∧ True) ∧ True ∧ True) ∧
                                                                    q61 ∧
                                                                      ∃ (y : Nat × Sp.World),
                                                                        let q68 : Nat := (Sp.cAt y.2 q25).length;
                                                                        (y.1 ≤ q68 ∧ Sp.okV y.2) ∧ q68 - y.1 < q42 - x.1 ∧ q60 = (↑y.1 : Int) ∧ x.2 = y.2 ∧ q44.set q19 (q59.set q53.toNat q57.1) = Sp.fl (List.take y.1 (Sp.cAt y.2 q25)) y.2.2.1 ∧ q24) ∧
                                                                (q58 = false →
                                                                  q61 ∧
                                                                    ∃ (y : Nat × Sp.World),
                                                                      let q69 : Nat := (Sp.cAt y.2 q25).length;
                                                                      (y.1 ≤ q69 ∧ Sp.okV y.2) ∧ q69 - y.1 < q42 - x.1 ∧ q60 = (↑y.1 : Int) ∧ x.2 = y.2 ∧ q44 = Sp.fl (List.take y.1 (Sp.cAt y.2 q25)) y.2.2.1 ∧ q24))) ∧
                                                  (q48 = false →
                                                    ((True ∧ True ∧ (Sp.okW x.2 ∧ q27 ∧ q28 ∧ q10 ≤ q5 ∧ q5 < (↑(List.length (x.2.2.1.getD (0 : Nat) q13)) : Int)) ∧ q15) ∧ q1) ∧
                                                      ((True ∧ True ∧ True ∧ True ∧ True ∧ True ∧ q65 ∧ q65 ∧ q65 ∧ (q64 → inN q22 q66.length) ∧ q65 ∧ q65 ∧ q65 ∧ True ∧ True) ∧ True) ∧
                                                        (q67 = true → q3) ∧
                                                          (q67 = false →
                                                            q0 ∧
                                                              (∃ (x : Nat × Sp.World), (x.1 ≤ q20 ∧ Sp.okV x.2 ∧ Sp.cAt x.2 q25 = ([] : List Sp.Word)) ∧ q5 = (↑x.1 : Int) ∧ (q66, q62, ()) = x.2 ∧ q44 = x.2.2.1 ∧ q23) ∧
                                                                ∀ (x : Nat × Sp.World),
                                                                  let q70 : Int := (↑x.1 : Int);
                                                                  let q71 : Bool := decide (q70 < q9);
                                                                  let q72 : List Int := x.2.2.1.getD q19 q13;
                                                                  let q73 : Bool := (Sp.load (x.2.1.getD q26 (([] : List Sp.Word))) x.2.2.1 q70).1 != q72.getD q70.toNat q5;
                                                                  let q74 : Int := q70 + q16;
                                                                  x.1 ≤ q20 ∧ Sp.okV x.2 ∧ Sp.cAt x.2 q25 = ([] : List Sp.Word) → dFact (Ty.int IntKind.i64) q70 ∧ dFact (((Ty.int IntKind.i64).prod ((Ty.int IntKind.i64).prod ((Ty.int IntKind.i32).prod (Ty.bool.prod Ty.unit)))).slice.slice.prod ((Ty.int IntKind.i32).slice.slice.prod Ty.unit)) x.2 ∧ dFact (Ty.int IntKind.i32).slice.slice x.2.2.1 ∧ True → q2 ∧ (q71 = true → ((True ∧ True ∧ True ∧ (Sp.okW x.2 ∧ q27 ∧ q28 ∧ q10 ≤ q70 ∧ q70 < (↑(List.length (x.2.2.1.getD (0 : Nat) q13)) : Int)) ∧ q15) ∧ q1) ∧ ((True ∧ True ∧ inN q5 x.2.2.1.length ∧ True ∧ True ∧ inN q70 q72.length ∧ q1) ∧ True) ∧ (q73 = true → q3) ∧ (q73 = false → ((True ∧ inK IntKind.i64 q74 ∧ True ∧ True) ∧ True) ∧ ∃ (y : Nat × Sp.World), (y.1 ≤ q20 ∧ Sp.okV y.2 ∧ Sp.cAt y.2 q25 = ([] : List Sp.Word)) ∧ q20 - y.1 < q20 - x.1 ∧ q74 = (↑y.1 : Int) ∧ x.2 = y.2 ∧ x.2.2.1 = y.2.2.1 ∧ q23)) ∧ (q71 = false → q2 ∧ true = true)))))) := by kernel_rfl
theorem vc5 : (funI C5 (stpR C5) S5 L5 Try.f5) = (
let q0 : Prop := (True ∧ True) ∧ True;
let q1 : Prop := True ∧ True ∧ True;
let q2 : Prop := q1 ∧ True;
let q3 : Prop := q0 ∧ false = true;
let q4 : Int := (1 : Int);
let q5 : List (List Int) := Sp.ramp q4 (8 : Nat) :: ([] : List (List Int));
let q6 : Nat := (1000000 : Nat);
let q7 : Int := (0 : Int);
let q8 : List (List Int) := ([] : List (Ty.int IntKind.i32).slice.den);
let q9 : Prop := true = true ∧ True;
let q10 : Int := (3 : Int);
let q11 : Int := (2 : Int);
let q12 : Int × Int × Int × Int × Unit := (q7, q7, q7, q7, ());
let q13 : Int := (5 : Int);
let q14 : Prop := True ∧ q1;
let q15 : Int := (0 : (AK.val tI).den);
let q16 : Int := (3 : (AK.val tI).den);
let q17 : List Int := ([] : List (Ty.int IntKind.i32).den);
let q18 : Nat := q7.toNat;
let q19 : Nat := (3 : Nat);
let q20 : Int := (2 : tI.den);
∀ (x : List (Int × Int × Int × Int × Unit) × Unit),
  let q21 : Nat := x.1.length;
  let q22 : Prop := x.1 = x.1 ∧ q9;
  True →
    dFact ((Ty.int IntKind.u8).prod ((Ty.int IntKind.u8).prod ((Ty.int IntKind.u8).prod ((Ty.int IntKind.i32).prod Ty.unit)))).slice x.1 ∧ True →
      q0 ∧
        q2 ∧
          q2 ∧
            ((!true) = true → q3) ∧
              ((!true) = false →
                (q1 ∧ True ∧ True) ∧
                  ((True ∧ True ∧ (q5.length ≤ q6 ∧ ∀ (l : List Int), l ∈ q5 → l.length ≤ q6) ∧ True) ∧ True ∧ True) ∧
                    q0 ∧
                      (∃ (x : Nat × Sp.World × List Int), (x.1 ≤ q21 ∧ Sp.InvA Sp.D5 x.2.1 x.2.2) ∧ q7 = (↑x.1 : Int) ∧ Sp.begin q4 = x.2.1 ∧ q5 = x.2.2 :: q8 ∧ q22) ∧
                        ∀ (x_1 : Nat × Sp.World × List Int),
                          let q23 : Int := (↑x_1.1 : Int);
                          let q24 : List (List Int) := x_1.2.2 :: q8;
                          let q25 : Bool := decide (q23 < (↑q21 : Int));
                          let q26 : Prop := (true && bif q25 then true else false) = true → True;
                          let q27 : Bool := bif q25 then decide (q23 < (60 : Int)) else false;
                          let q28 : Prop := inN q23 q21;
                          let q29 : Int × Int × Int × Int × Unit := x.1.getD q23.toNat q12;
                          let q30 : Int := q29.1 % q10;
                          let q31 : Int := q11 * q30;
                          let q32 : Int × Int × Int × Unit := q29.2;
                          let q33 : Int × Int × Unit := q32.2;
                          let q34 : Int := q31 + q33.1 % q11;
                          let q35 : Int := q32.1 % q13;
                          let q36 : Bool := q35 == q7;
                          let q37 : Prop := (true && bif q36 then true else false) = true;
                          let q38 : Prop := q37 → True;
                          let q39 : Prop := inN q7 q24.length;
                          let q40 : List Int := q24.getD q18 q17;
                          let q41 : Prop := inN q34 q40.length;
                          let q42 : Int := q33.2.1;
                          let q43 : (List (List (Int × Int × Int × Bool × Unit)) × List (List Int) × Unit) × Int × Unit := Sp.step x_1.2.1 q30 q35 q34 q42;
                          let q44 : Nat := q34.toNat;
                          let q45 : Int := q40.getD q44 q7;
                          let q46 : Bool := bif q36 then q43.2.1 != q45 else false;
                          let q47 : Prop := (true && bif q46 then false else true) = true → True;
                          let q48 : List (List (Int × Int × Int × Bool × Unit)) × List (List Int) × Unit := q43.1;
                          let q49 : Bool := bif q46 then true else !Sp.whole q48.2.1;
                          let q50 : Bool := q35 == q4;
                          let q51 : Prop := True ∧ True ∧ q41 ∧ True;
                          let q52 : Bool := q35 == q11;
                          let q53 : Prop := q52 = true;
                          let q54 : List (List Int) := q24.set q18 (q40.set q44 q42);
                          let q55 : List Int := q54.getD q18 q17;
                          let q56 : Prop := inN q34 q55.length;
                          let q57 : Int := q23 + q4;
                          let q58 : Prop := (True ∧ inK IntKind.i64 q57 ∧ True ∧ True) ∧ True;
                          let q59 : Prop := q52 = false;
                          x_1.1 ≤ q21 ∧ Sp.InvA Sp.D5 x_1.2.1 x_1.2.2 →
                            dFact (Ty.int IntKind.i64) q23 ∧ dFact (((Ty.int IntKind.i64).prod ((Ty.int IntKind.i64).prod ((Ty.int IntKind.i32).prod (Ty.bool.prod Ty.unit)))).slice.slice.prod ((Ty.int IntKind.i32).slice.slice.prod Ty.unit)) x_1.2.1 ∧ dFact (Ty.int IntKind.i32).slice.slice q24 ∧ True →
                              ((True ∧ True ∧ True ∧ True ∧ True ∧ q26 ∧ q26 ∧ True ∧ True) ∧ True) ∧
                                (q27 = true → ((True ∧ True ∧ q28 ∧ True ∧ True ∧ q10 ≠ q7 ∧ q1) ∧ True) ∧ ((True ∧ inK IntKind.i64 q31 ∧ True ∧ True ∧ q28 ∧ True ∧ True ∧ q11 ≠ q7 ∧ True ∧ inK IntKind.i64 q34 ∧ True ∧ True ∧ q28 ∧ True ∧ True ∧ q13 ≠ q7 ∧ q14) ∧ True) ∧ ((True ∧ True ∧ True ∧ True ∧ True ∧ True ∧ q28 ∧ True ∧ True ∧ (Sp.okW x_1.2.1 ∧ q15 ≤ q30 ∧ q30 < q16 ∧ q15 ≤ q34 ∧ q34 < (↑(List.length (x_1.2.1.2.1.getD (0 : Nat) q17)) : Int)) ∧ True ∧ q14) ∧ q1) ∧ ((True ∧ True) ∧ True ∧ True) ∧ ((True ∧ True ∧ True ∧ q38 ∧ q38 ∧ (q37 → q39) ∧ q38 ∧ q38 ∧ (q37 → q41) ∧ q38 ∧ q38 ∧ True ∧ True ∧ q47 ∧ q47 ∧ q47 ∧ q47 ∧ True ∧ True) ∧ True) ∧ (q49 = true → q3) ∧ (q49 = false → q2 ∧ (q50 = true → ((True ∧ q39 ∧ True ∧ True ∧ True ∧ True ∧ q28 ∧ q51) ∧ True ∧ True) ∧ q2 ∧ (q53 → ((True ∧ inN q7 q54.length ∧ True ∧ True ∧ q56 ∧ True ∧ True ∧ True ∧ q28 ∧ True ∧ True ∧ True ∧ q56 ∧ True) ∧ True ∧ True) ∧ q58 ∧ ∃ (y : Nat × Sp.World × List Int), (y.1 ≤ q21 ∧ Sp.InvA Sp.D5 y.2.1 y.2.2) ∧ q21 - y.1 < q21 - x_1.1 ∧ q57 = (↑y.1 : Int) ∧ q48 = y.2.1 ∧ q54.set q18 (q55.set q44 (IntKind.i32.wrap (q55.getD q44 q7 + q42))) = y.2.2 :: q8 ∧ q22) ∧ (q59 → q58 ∧ ∃ (y : Nat × Sp.World × List Int), (y.1 ≤ q21 ∧ Sp.InvA Sp.D5 y.2.1 y.2.2) ∧ q21 - y.1 < q21 - x_1.1 ∧ q57 = (↑y.1 : Int) ∧ q48 = y.2.1 ∧ q54 = y.2.2 :: q8 ∧ q22)) ∧ (q50 = false → q2 ∧ (q53 → ((True ∧ q39 ∧ True ∧ True ∧ q41 ∧ True ∧ True ∧ True ∧ q28 ∧ True ∧ q51) ∧ True ∧ True) ∧ q58 ∧ ∃ (y : Nat × Sp.World × List Int), (y.1 ≤ q21 ∧ Sp.InvA Sp.D5 y.2.1 y.2.2) ∧ q21 - y.1 < q21 - x_1.1 ∧ q57 = (↑y.1 : Int) ∧ q48 = y.2.1 ∧ q24.set q18 (q40.set q44 (IntKind.i32.wrap (q45 + q42))) = y.2.2 :: q8 ∧ q22) ∧ (q59 → q58 ∧ ∃ (y : Nat × Sp.World × List Int), (y.1 ≤ q21 ∧ Sp.InvA Sp.D5 y.2.1 y.2.2) ∧ q21 - y.1 < q21 - x_1.1 ∧ q57 = (↑y.1 : Int) ∧ q48 = y.2.1 ∧ q24 = y.2.2 :: q8 ∧ q22)))) ∧
                                  (q27 = false →
                                    q0 ∧
                                      (∃ (x : Nat × Sp.World × List Int), (x.1 ≤ q19 ∧ Sp.InvA Sp.D5 x.2.1 x.2.2 ∧ ∀ (n : Nat), n < q19 → (2 : Nat) < n + x.1 → x.2.1.1.getD n (([] : List Sp.Word)) = ([] : List Sp.Word)) ∧ q11 = q20 - (↑x.1 : Int) ∧ x_1.2.1 = x.2.1 ∧ q24 = x.2.2 :: q8 ∧ q9) ∧
                                        ∀ (x : Nat × Sp.World × List Int),
                                          let q60 : Int := q20 - (↑x.1 : Int);
                                          let q61 : List (List Int) := x.2.2 :: q8;
                                          let q62 : Bool := decide (q60 ≥ q7);
                                          let q63 : Int := q60 - q4;
                                          let q64 : Nat := q60.toNat;
                                          let q65 : Bool := Sp.sameM x.2.1.2.1 q61;
                                          (x.1 ≤ q19 ∧ Sp.InvA Sp.D5 x.2.1 x.2.2 ∧ ∀ (n : Nat), n < q19 → (2 : Nat) < n + x.1 → x.2.1.1.getD n (([] : List Sp.Word)) = ([] : List Sp.Word)) → dFact (Ty.int IntKind.i64) q60 ∧ dFact (((Ty.int IntKind.i64).prod ((Ty.int IntKind.i64).prod ((Ty.int IntKind.i32).prod (Ty.bool.prod Ty.unit)))).slice.slice.prod ((Ty.int IntKind.i32).slice.slice.prod Ty.unit)) x.2.1 ∧ dFact (Ty.int IntKind.i32).slice.slice q61 ∧ True → q2 ∧ (q62 = true → ((True ∧ True ∧ (Sp.okW x.2.1 ∧ q15 ≤ q60 ∧ q60 < q16 ∧ q15 ≤ q7 ∧ q7 < (↑(List.length (x.2.1.2.1.getD (0 : Nat) q17)) : Int)) ∧ q14) ∧ True ∧ True) ∧ ((True ∧ inK IntKind.i64 q63 ∧ True ∧ True) ∧ True) ∧ ∃ (y : Nat × Sp.World × List Int), (y.1 ≤ q19 ∧ Sp.InvA Sp.D5 y.2.1 y.2.2 ∧ ∀ (n : Nat), n < q19 → (2 : Nat) < n + y.1 → y.2.1.1.getD n (([] : List Sp.Word)) = ([] : List Sp.Word)) ∧ q19 - y.1 < q19 - x.1 ∧ q63 = q20 - (↑y.1 : Int) ∧ (x.2.1.1.set q64 (([] : List Sp.Word)), Sp.fl (x.2.1.1.getD q64 (([] : List Sp.Word))) x.2.1.2.1, ()) = y.2.1 ∧ q61 = y.2.2 :: q8 ∧ q9) ∧ (q62 = false → ((True ∧ True ∧ True ∧ True ∧ True ∧ ((true && bif q65 then true else false) = true → True) ∧ q1) ∧ True) ∧ (bif q65 then true else false) = true)))) := by kernel_rfl
theorem vc6 : (funI C6 (stpR C6) S6 L6 Try.f6) = (
let q0 : Prop := (True ∧ True) ∧ True;
let q1 : Prop := True ∧ True ∧ True;
let q2 : Prop := q1 ∧ True;
let q3 : Prop := q0 ∧ false = true;
let q4 : Int := (2 : Int);
let q5 : List (List Int) := Sp.ramp q4 (8 : Nat) :: ([] : List (List Int));
let q6 : Nat := (1000000 : Nat);
let q7 : Int := (0 : Int);
let q8 : Prop := true = true ∧ True;
let q9 : Int := (8 : Int);
let q10 : Int := (5 : Int);
let q11 : Prop := True ∧ q1;
let q12 : Int × Int × Int × Int × Unit := (q7, q7, q7, q7, ());
let q13 : Int := (1 : Int);
let q14 : Int := (3 : Int);
let q15 : Int := (0 : (AK.val tI).den);
let q16 : List Int := ([] : List (Ty.int IntKind.i32).den);
let q17 : Prop := (True ∧ q11) ∧ True;
let q18 : Bool := q4 == q4;
let q19 : Nat := q7.toNat;
∀ (x : List (Int × Int × Int × Int × Unit) × Unit),
  let q20 : Nat := x.1.length;
  let q21 : Prop := x.1 = x.1 ∧ q8;
  True →
    dFact ((Ty.int IntKind.u8).prod ((Ty.int IntKind.u8).prod ((Ty.int IntKind.u8).prod ((Ty.int IntKind.i32).prod Ty.unit)))).slice x.1 ∧ True →
      q0 ∧
        q2 ∧
          q2 ∧
            ((!true) = true → q3) ∧
              ((!true) = false →
                (q1 ∧ True ∧ True) ∧
                  ((True ∧ True ∧ (q5.length ≤ q6 ∧ ∀ (l : List Int), l ∈ q5 → l.length ≤ q6) ∧ True) ∧ True ∧ True) ∧
                    q0 ∧
                      (∃ (x : Nat × Sp.World), (x.1 ≤ q20 ∧ Sp.okV x.2 ∧ Sp.clean x.2) ∧ q7 = (↑x.1 : Int) ∧ Sp.begin q4 = x.2 ∧ q5 = x.2.2.1 ∧ q21) ∧
                        ∀ (x_1 : Nat × Sp.World),
                          let q22 : Int := (↑x_1.1 : Int);
                          let q23 : Bool := decide (q22 < (↑q20 : Int));
                          let q24 : Prop := (true && bif q23 then true else false) = true → True;
                          let q25 : Bool := bif q23 then decide (q22 < (60 : Int)) else false;
                          let q26 : Prop := inN q22 q20;
                          let q27 : Int × Int × Int × Int × Unit := x.1.getD q22.toNat q12;
                          let q28 : Int × Int × Int × Unit := q27.2;
                          let q29 : Int := q28.1 % q10;
                          let q30 : Bool := q29 == q13;
                          let q31 : Int := q27.1 % q14;
                          let q32 : Int × Int × Unit := q28.2;
                          let q33 : Int := q32.1 % q9;
                          let q34 : Prop := (True ∧ True ∧ True ∧ q26 ∧ True ∧ True ∧ q14 ≠ q7 ∧ True ∧ True ∧ True ∧ True ∧ True ∧ q26 ∧ True ∧ True ∧ (Sp.okW x_1.2 ∧ q15 ≤ q31 ∧ q31 < (3 : (AK.val tI).den) ∧ q15 ≤ q33 ∧ q33 < (↑(List.length (x_1.2.2.1.getD (0 : Nat) q16)) : Int)) ∧ q11) ∧ True ∧ True;
                          let q35 : Nat := q31.toNat;
                          let q36 : List (Int × Int × Int × Bool × Unit) × List (List Int) × Unit := Sp.atom0 (x_1.2.1.getD q35 (([] : List Sp.Word))) x_1.2.2.1 q33;
                          let q37 : List (List Int) := q36.2.1;
                          let q38 : Int := q32.2.1;
                          let q39 : List (List Int) := Sp.setM q37 q33 (IntKind.i32.wrap (Sp.mget q37 q33 + q38));
                          let q40 : Bool := !Sp.whole q39;
                          let q41 : List Int := x_1.2.2.1.getD q19 q16;
                          let q42 : Prop := inN q33 q41.length;
                          let q43 : Prop := (True ∧ inN q7 x_1.2.2.1.length ∧ True ∧ True ∧ q42 ∧ True ∧ True ∧ True ∧ q26 ∧ True ∧ True ∧ True ∧ q42 ∧ True) ∧ True ∧ True;
                          let q44 : Int := q22 + q13;
                          let q45 : Prop := (True ∧ inK IntKind.i64 q44 ∧ True ∧ True) ∧ True;
                          let q46 : Nat := q33.toNat;
                          let q47 : List (List (Int × Int × Int × Bool × Unit)) × List (List Int) × Unit := (Sp.step x_1.2 q31 q29 q33 q38).1;
                          let q48 : Bool := !Sp.whole q47.2.1;
                          let q49 : Bool := q29 == q4;
                          let q50 : Bool := Sp.sameM x_1.2.2.1 x_1.2.2.1;
                          x_1.1 ≤ q20 ∧ Sp.okV x_1.2 ∧ Sp.clean x_1.2 → dFact (Ty.int IntKind.i64) q22 ∧ dFact (((Ty.int IntKind.i64).prod ((Ty.int IntKind.i64).prod ((Ty.int IntKind.i32).prod (Ty.bool.prod Ty.unit)))).slice.slice.prod ((Ty.int IntKind.i32).slice.slice.prod Ty.unit)) x_1.2 ∧ dFact (Ty.int IntKind.i32).slice.slice x_1.2.2.1 ∧ True → ((True ∧ True ∧ True ∧ True ∧ True ∧ q24 ∧ q24 ∧ True ∧ True) ∧ True) ∧ (q25 = true → ((True ∧ True ∧ q26 ∧ True ∧ True ∧ q9 ≠ q7 ∧ True ∧ True ∧ True ∧ q26 ∧ True ∧ True ∧ q10 ≠ q7 ∧ q11) ∧ True) ∧ q2 ∧ (q30 = true → q0 ∧ q34 ∧ q17 ∧ (q40 = true → q3) ∧ (q40 = false → q2 ∧ (q18 = true → q43 ∧ q45 ∧ ∃ (y : Nat × Sp.World), (y.1 ≤ q20 ∧ Sp.okV y.2 ∧ Sp.clean y.2) ∧ q20 - y.1 < q20 - x_1.1 ∧ q44 = (↑y.1 : Int) ∧ (x_1.2.1.set q35 q36.1, q39, ()) = y.2 ∧ x_1.2.2.1.set q19 (q41.set q46 (IntKind.i32.wrap (q41.getD q46 q7 + q38))) = y.2.2.1 ∧ q21) ∧ (q18 = false → q45 ∧ ∃ (y : Nat × Sp.World), (y.1 ≤ q20 ∧ Sp.okV y.2 ∧ Sp.clean y.2) ∧ q20 - y.1 < q20 - x_1.1 ∧ q44 = (↑y.1 : Int) ∧ (x_1.2.1.set q35 q36.1, q39, ()) = y.2 ∧ x_1.2.2.1 = y.2.2.1 ∧ q21))) ∧ (q30 = false → q34 ∧ q17 ∧ (q48 = true → q3) ∧ (q48 = false → q2 ∧ (q49 = true → q43 ∧ q45 ∧ ∃ (y : Nat × Sp.World), (y.1 ≤ q20 ∧ Sp.okV y.2 ∧ Sp.clean y.2) ∧ q20 - y.1 < q20 - x_1.1 ∧ q44 = (↑y.1 : Int) ∧ q47 = y.2 ∧ x_1.2.2.1.set q19 (q41.set q46 (IntKind.i32.wrap (q41.getD q46 q7 + q38))) = y.2.2.1 ∧ q21) ∧ (q49 = false → q45 ∧ ∃ (y : Nat × Sp.World), (y.1 ≤ q20 ∧ Sp.okV y.2 ∧ Sp.clean y.2) ∧ q20 - y.1 < q20 - x_1.1 ∧ q44 = (↑y.1 : Int) ∧ q47 = y.2 ∧ x_1.2.2.1 = y.2.2.1 ∧ q21)))) ∧ (q25 = false → ((True ∧ True ∧ True ∧ True ∧ True ∧ ((true && bif q50 then true else false) = true → True) ∧ q1) ∧ True) ∧ (bif q50 then true else false) = true))) := by kernel_rfl
theorem vc7 : (funI C7 (stpR C7) S7 L7 Try.f7) = (
let q0 : Prop := (True ∧ True) ∧ True;
let q1 : Prop := True ∧ True ∧ True;
let q2 : Prop := q1 ∧ True;
let q3 : Prop := q0 ∧ false = true;
let q4 : Int := (7 : Int);
let q5 : Int := (0 : Int);
let q6 : Int := (4 : Int);
let q7 : Int := (0 : (AK.val tI).den);
let q8 : Prop := q7 ≤ q5;
let q9 : Int := (3 : (AK.val tI).den);
let q10 : Prop := q5 < q9;
let q11 : List (List Int) := Sp.ramp q6 (8 : Nat) :: ([] : List (List Int));
let q12 : Nat := (0 : Nat);
let q13 : List Int := ([] : List (Ty.int IntKind.i32).den);
let q14 : Int := (↑(List.length (q11.getD q12 q13)) : Int);
let q15 : Prop := True ∧ q1;
let q16 : Prop := True ∧ q15;
let q17 : Int := (1 : Int);
let q18 : List (List (Int × Int × Int × Bool × Unit)) := ([] : List Sp.Word) :: ([] : List Sp.Word) :: ([] : List Sp.Word) :: ([] : List (List Sp.Word));
let q19 : Nat := q5.toNat;
let q20 : List (Int × Int × Int × Bool × Unit) := q18.getD q19 (([] : List Sp.Word));
let q21 : Bool × Unit := (false, ());
let q22 : List (Int × Int × Int × Bool × Unit) := ([] : List (Int × Int × Int × Bool × Unit));
let q23 : List (List Int) × Unit := (q11, ());
let q24 : Prop := q7 ≤ q17;
let q25 : Prop := q17 < q9;
let q26 : Nat := q17.toNat;
let q27 : Int := (5 : Int);
∀ (x : Int × Int × Bool × Unit),
  let q28 : Int := x.1 % q4;
  let q29 : Prop := q7 ≤ q28;
  let q30 : Prop := q29 ∧ q28 < q14;
  let q31 : Int := q28 + q17;
  let q32 : Prop := inK IntKind.i64 q31;
  let q33 : Int := Sp.mget q11 q28;
  let q34 : List (List (Int × Int × Int × Bool × Unit)) := q18.set q19 (q20 ++ (q5, q28, q33, q21) :: q22);
  let q35 : Prop := q7 ≤ q31;
  let q36 : Int × List (Int × Int × Int × Bool × Unit) × Unit := Sp.load (q34.getD q19 (([] : List Sp.Word))) q11 q31;
  let q37 : List (List (Int × Int × Int × Bool × Unit)) := q34.set q19 q36.2.1;
  let q38 : List (List (Int × Int × Int × Bool × Unit)) := q37.set q26 (Sp.store (q37.getD q26 (([] : List Sp.Word))) q28 x.2.1);
  let q39 : List (List (Int × Int × Int × Bool × Unit)) := q38.set q26 (([] : List Sp.Word));
  let q40 : List (List Int) := Sp.fl (q38.getD q26 (([] : List Sp.Word))) q11;
  let q41 : List (List Int) × Unit := (q40, ());
  let q42 : Int := (↑(List.length (q40.getD q12 q13)) : Int);
  let q43 : Int × List (Int × Int × Int × Bool × Unit) × Unit := Sp.load (q39.getD q19 (([] : List Sp.Word))) q40 q28;
  let q44 : List (List (Int × Int × Int × Bool × Unit)) := q39.set q19 q43.2.1;
  let q45 : Bool := (↑(List.length (q44.getD q19 (([] : List tW.den)))) : Int) != (2 : Int);
  let q46 : Prop := (true && bif q45 then false else true) = true → True;
  let q47 : Bool := bif q45 then true else !Sp.whole q40;
  let q48 : Prop := (True ∧ True ∧ (Sp.okW (q44, q41) ∧ q8 ∧ q10 ∧ q8 ∧ q5 < q42) ∧ q15) ∧ True ∧ True;
  let q49 : List (List (Int × Int × Int × Bool × Unit)) := q44.set q19 (([] : List Sp.Word));
  let q50 : List (Int × Int × Int × Bool × Unit) := q44.getD q19 (([] : List Sp.Word));
  let q51 : List (List Int) := Sp.fl q50 q40;
  let q52 : List (List Int) × Unit := (q51, ());
  let q53 : Int := (↑(List.length (q51.getD q12 q13)) : Int);
  let q54 : Int := Sp.mget q51 q28;
  let q55 : List (List (Int × Int × Int × Bool × Unit)) := q49.set q19 (q49.getD q19 (([] : List Sp.Word)) ++ (q5, q28, q54, q21) :: q22);
  let q56 : Int := q6 + q28;
  let q57 : Prop := inK IntKind.i64 q56;
  let q58 : Bool := q33 == IntKind.i32.wrap q56;
  let q59 : Prop := (true && bif q58 then true else false) = true → True;
  let q60 : Bool := bif q58 then q43.1 == q33 else false;
  let q61 : Prop := (true && bif q60 then true else false) = true → True;
  let q62 : Bool := bif q60 then q54 == x.2.1 else false;
  let q63 : Prop := (true && bif q62 then true else false) = true;
  let q64 : Prop := q63 → True;
  let q65 : Int := q27 + q28;
  let q66 : Prop := inK IntKind.i64 q65;
  let q67 : Int := q36.1;
  let q68 : Bool := q67 == IntKind.i32.wrap q65;
  let q69 : Bool := bif q62 then q68 else false;
  let q70 : Prop := (true && bif q69 then true else false) = true → True;
  let q71 : Bool := bif q69 then (Sp.load (q55.getD q19 (([] : List Sp.Word))) q51 q31).1 == q67 else false;
  let q72 : List (Int × Int × Int × Bool × Unit) × List (List Int) × Unit := Sp.evictAt q50 q40 q5;
  let q73 : List (List (Int × Int × Int × Bool × Unit)) := q44.set q19 q72.1;
  let q74 : List (List Int) := q72.2.1;
  let q75 : List (List Int) × Unit := (q74, ());
  let q76 : Int := (↑(List.length (q74.getD q12 q13)) : Int);
  let q77 : Int × List (Int × Int × Int × Bool × Unit) × Unit := Sp.load (q73.getD q19 (([] : List Sp.Word))) q74 q28;
  let q78 : List (List (Int × Int × Int × Bool × Unit)) := q73.set q19 q77.2.1;
  let q79 : Bool := bif q60 then q77.1 == x.2.1 else false;
  let q80 : Prop := (true && bif q79 then true else false) = true;
  let q81 : Prop := q80 → True;
  let q82 : Bool := bif q79 then q68 else false;
  let q83 : Prop := (true && bif q82 then true else false) = true → True;
  let q84 : Bool := bif q82 then (Sp.load (q78.getD q19 (([] : List Sp.Word))) q74 q31).1 == q67 else false;
  True → dFact (Ty.int IntKind.u8) x.1 ∧ dFact (Ty.int IntKind.i32) x.2.1 ∧ dFact Ty.bool x.2.2.1 ∧ True → q0 ∧ q2 ∧ q2 ∧ ((!true) = true → q3) ∧ ((!true) = false → ((True ∧ q4 ≠ q5 ∧ q1) ∧ True) ∧ ((True ∧ True ∧ (Sp.okW (Sp.begin q6) ∧ q8 ∧ q10 ∧ q30) ∧ q16) ∧ q1) ∧ ((True ∧ True ∧ q32 ∧ (Sp.okW (q34, q23) ∧ q8 ∧ q10 ∧ q35 ∧ q31 < q14) ∧ q15) ∧ q1) ∧ ((True ∧ True ∧ True ∧ (Sp.okW (q37, q23) ∧ q24 ∧ q25 ∧ q30) ∧ q15) ∧ True ∧ True) ∧ ((True ∧ (Sp.okW (q38, q23) ∧ q24 ∧ q25 ∧ q8 ∧ q5 < q14) ∧ q15) ∧ True ∧ True) ∧ ((True ∧ True ∧ (Sp.okW (q39, q41) ∧ q8 ∧ q10 ∧ q29 ∧ q28 < q42) ∧ q15) ∧ q1) ∧ ((True ∧ True ∧ inN q5 q44.length ∧ True ∧ True ∧ True ∧ True ∧ q46 ∧ q46 ∧ q46 ∧ q46 ∧ True ∧ True) ∧ True) ∧ (q47 = true → q3) ∧ (q47 = false → q0 ∧ q0 ∧ (x.2.2.1 = true → q0 ∧ q48 ∧ ((True ∧ True ∧ (Sp.okW (q49, q52) ∧ q8 ∧ q10 ∧ q29 ∧ q28 < q53) ∧ q15) ∧ q1) ∧ ((True ∧ True ∧ q32 ∧ (Sp.okW (q55, q52) ∧ q8 ∧ q10 ∧ q35 ∧ q31 < q53) ∧ q16) ∧ q1) ∧ ((True ∧ True ∧ q57 ∧ True ∧ True ∧ True ∧ q59 ∧ q59 ∧ q59 ∧ True ∧ True ∧ q61 ∧ q61 ∧ q61 ∧ True ∧ True ∧ q64 ∧ q64 ∧ (q63 → q66) ∧ q64 ∧ q64 ∧ True ∧ True ∧ q70 ∧ q70 ∧ q70 ∧ True ∧ True ∧ ((true && bif q71 then true else false) = true → True) ∧ q1) ∧ True) ∧ (bif q71 then true else false) = true) ∧ (x.2.2.1 = false → q48 ∧ ((True ∧ True ∧ (Sp.okW (q73, q75) ∧ q8 ∧ q10 ∧ q29 ∧ q28 < q76) ∧ q15) ∧ q1) ∧ ((True ∧ True ∧ q32 ∧ (Sp.okW (q78, q75) ∧ q8 ∧ q10 ∧ q35 ∧ q31 < q76) ∧ q16) ∧ q1) ∧ ((True ∧ True ∧ q57 ∧ True ∧ True ∧ True ∧ q59 ∧ q59 ∧ q59 ∧ True ∧ True ∧ q61 ∧ q61 ∧ q61 ∧ True ∧ True ∧ q81 ∧ q81 ∧ (q80 → q66) ∧ q81 ∧ q81 ∧ True ∧ True ∧ q83 ∧ q83 ∧ q83 ∧ True ∧ True ∧ ((true && bif q84 then true else false) = true → True) ∧ q1) ∧ True) ∧ (bif q84 then true else false) = true)))) := by kernel_rfl
end Go.User
