/- Written by gen.py: what is left to show of each function. The law Refuses. The law OrderRefuses. -/
import Derived.Test.YtdcbiadlojcaoaaLfn
set_option linter.unusedVariables false
set_option linter.unusedSimpArgs false
namespace Go.User
open Go.Proofs Go.Lf
set_option maxRecDepth 100000
theorem vc7o : (funIT C7o (stpS C7o) S7o T7o Try.f7) = (
let q0 : Nat := (2 : Nat);
let q1 : Prop := True /\ True /\ True;
let q2 : Prop := True /\ q1;
let q3 : Prop := q2 /\ True;
let q4 : Prop := q1 /\ True;
let q5 : Prop := (True /\ True) /\ True;
let q6 : Prop := q5 /\ false = true;
let q7 : Nat := (3000 : Nat);
let q8 : Int := (0 : Int);
let q9 : Int := (1 : Int);
let q10 : Int := (5 : Int);
let q11 : Sp.Term := Sp.tJ q10 q8 q8;
let q12 : Nat := (5000 : Nat);
let q13 : Nat := q8.toNat;
let q14 : Sp.Opd := (q8, q8, q8, ());
let q15 : Int × Sp.Opd × Sp.Opd × Sp.Opd × List Int × Unit := (q8, q14, q14, q14, List.replicate q0 q8, ());
let q16 : Sp.Block := (([] : List tInst.den), (q8, q15), ());
let q17 : Sp.Term := (q9, q15);
let q18 : Nat := (0 : Nat);
let q19 : Prop := true = true;
let q20 : Int × Sp.Opd × Sp.Opd × Sp.Opd × Sp.Opd × Unit := (q8, q14, q14, q14, q14, ());
let q21 : List Sp.Inst := ((10 : Int), q9, q20) :: ([] : List tInst.den);
let q22 : Prop := Step.fst = Step.fst /\ True;
let q23 : Prop := Step.snd = Step.snd /\ Step.snd = Step.snd /\ Step.snd = Step.snd /\ Step.snd = Step.snd /\ Step.snd = Step.snd /\ Step.snd = Step.snd /\ Step.snd = Step.snd /\ q22;
let q24 : Prop := True /\ q2;
let q25 : Prop := True /\ q24;
let q26 : Prop := True /\ True /\ True /\ True /\ True /\ True /\ True /\ True /\ True /\ True /\ True /\ True /\ True /\ True /\ True /\ True /\ True /\ True /\ True /\ True /\ True /\ True /\ True /\ True /\ True /\ True /\ True /\ True /\ True /\ True /\ True /\ True /\ True /\ True /\ True /\ True /\ True /\ True /\ True /\ True /\ True /\ True /\ True /\ True /\ True /\ True /\ True /\ True /\ True /\ True /\ True /\ True /\ True /\ True /\ True /\ True /\ True /\ True /\ True /\ True /\ True /\ True /\ True /\ True /\ True /\ True /\ True /\ True /\ True /\ True /\ True /\ True /\ True /\ True /\ True /\ True /\ True /\ True /\ True /\ True /\ True /\ True /\ True /\ True /\ True /\ True /\ True /\ True /\ True /\ True /\ True /\ True /\ True /\ True /\ True /\ True /\ True /\ True /\ True /\ True /\ True /\ True /\ True /\ True /\ True /\ True /\ True /\ True /\ True /\ True /\ True /\ True /\ True /\ True /\ True /\ True /\ True /\ True /\ True /\ True /\ True /\ True /\ True /\ True /\ True /\ True /\ True /\ True /\ True /\ True /\ True /\ True /\ True /\ True /\ True /\ True /\ True /\ True /\ True /\ True /\ True /\ True /\ True /\ True /\ True /\ True /\ True /\ True /\ True /\ True /\ True /\ True /\ True /\ True /\ True /\ True /\ True /\ True /\ True /\ True /\ True /\ True /\ True /\ True /\ True /\ True /\ True /\ True /\ True /\ True /\ True /\ True /\ True /\ True /\ True /\ True /\ True /\ True /\ True /\ True /\ True /\ True /\ True /\ True /\ True /\ True /\ True /\ True /\ True /\ True /\ True /\ True /\ True /\ True /\ True /\ True /\ True /\ True /\ True /\ True /\ True /\ True /\ True /\ True /\ True /\ True /\ True /\ True /\ True /\ True /\ True /\ True /\ True /\ True /\ True /\ True /\ True /\ True /\ True /\ True /\ True /\ True /\ True /\ True /\ True /\ True /\ True /\ True /\ True /\ True /\ True /\ True /\ True /\ True /\ True /\ True /\ True /\ True /\ True /\ True /\ True /\ True /\ True /\ True /\ True /\ True /\ True /\ True /\ True /\ True /\ True /\ True /\ True /\ True /\ True /\ True /\ True /\ True /\ True /\ True /\ True /\ True /\ True /\ True /\ True /\ True /\ True /\ True /\ True /\ True /\ True /\ True /\ True /\ True /\ True /\ True /\ True /\ True /\ True /\ True /\ True /\ True /\ True /\ True /\ True /\ True /\ True /\ True /\ True /\ True /\ True /\ q25;
let q27 : Int × Int × Int × Int × Bool × Unit := (q8, q8, q8, q8, false, ());
let q28 : Int := (100 : Int);
let q29 : List (List Int) := ([] : List tI.den) :: ([] : List tI.slice.den);
let q30 : Prop := inN q9 q0;
let q31 : Nat := q9.toNat;
let q32 : Nat := (1 : Nat);
let q33 : Int := (0 : tU8.den);
let q34 : Prop := (true && true) = true;
let q35 : Prop := q34 -> True;
∀ (x : (List Int × Unit) × List Int × Unit),
 let q36 : Nat := (Sp.cA (Sp.madeC x.1.1)).length;
 let q37 : List Sp.Block := Sp.cB (Sp.madeC x.1.1);
 let q38 : Nat := q37.length;
 let q39 : Prop := (q36 <= q7 /\ (Sp.cL (Sp.madeC x.1.1)).length <= q7 /\ q38 <= q7 /\ ∀ (b : Sp.Block), b ∈ q37 -> b.1.length <= q7) /\ ∀ (b : Sp.Block), b ∈ q37 -> ∀ (i : Sp.Inst), i ∈ b.1 -> Sp.opI i = (7 : Int) ∨ Sp.opI i = (8 : Int) ∨ Sp.opI i = (9 : Int) -> q8 <= Sp.nI i /\ Sp.nI i < (↑q36 : Int);
 let q40 : List (List Int) := Sp.runX Sp.depP (Sp.madeC x.1.1);
 let q41 : List Sp.Block := Sp.reoN (Sp.madeC x.1.1) q40 q38;
 let q42 : Nat := q41.length;
 let q43 : Sp.Code := (Sp.md4 x.1.1).2.2.1;
 let q44 : List Sp.Block := Sp.setT (Sp.cB q43) (Sp.nB (Sp.md4 x.1.1) - q9) q11;
 let q45 : Nat := q44.length;
 let q46 : Int := (↑q45 : Int);
 let q47 : Bool := (↑q42 : Int) != q46;
 let q48 : Prop := (true && bif q47 then false else true) = true -> True;
 let q49 : Nat := q40.length;
 let q50 : Bool := bif q47 then true else (↑q49 : Int) != q46;
 let q51 : Prop := (true && bif q50 then false else true) = true;
 let q52 : Prop := q51 -> True;
 let q53 : Sp.Code := Sp.runC Sp.depP (Sp.madeC x.1.1);
 let q54 : Bool := bif q50 then true else Sp.chkP (Sp.madeC x.1.1) q53 q40 != q8;
 let q55 : List Sp.Block := Sp.cB q53;
 let q56 : Prop := (True /\ True /\ ((Sp.cA q53).length <= q12 /\ (Sp.cL q53).length <= q12 /\ q55.length <= q12 /\ ∀ (b : Sp.Block), b ∈ q55 -> b.1.length <= q12) /\ True /\ True) /\ True /\ True;
 let q57 : Int × Int × Int × Int × List Sp.Arr × List Sp.Opd × List Sp.Block × Unit := q43.2;
 let q58 : Int × Int × Int × List Sp.Arr × List Sp.Opd × List Sp.Block × Unit := q57.2;
 let q59 : Int := q58.1;
 let q60 : Int := q59 + q9;
 let q61 : Int := Int.tmod (x.2.1.getD q13 q8) q46;
 let q62 : Nat := q61.toNat;
 let q63 : Sp.Block := q41.getD q62 q16;
 let q64 : List Sp.Block := q41.set q62 (q63.1, q17, q63.2.2);
 let q65 : Prop := inN q61 q64.length;
 let q66 : Sp.Term := (q44.getD q62 q16).2.1;
 let q67 : Sp.Block := q64.getD q62 q16;
 let q68 : Sp.Term × Unit := q67.2;
 let q69 : Sp.Term := q68.1;
 let q70 : Int × Sp.Opd × Sp.Opd × Sp.Opd × List Int × Unit := q66.2;
 let q71 : Int × Sp.Opd × Sp.Opd × Sp.Opd × List Int × Unit := q69.2;
 let q72 : Sp.Opd × Sp.Opd × Sp.Opd × List Int × Unit := q70.2;
 let q73 : Sp.Opd := q72.1;
 let q74 : Sp.Opd × Sp.Opd × Sp.Opd × List Int × Unit := q71.2;
 let q75 : Sp.Opd := q74.1;
 let q76 : Int × Int × Unit := q73.2;
 let q77 : Int × Int × Unit := q75.2;
 let q78 : Sp.Opd × Sp.Opd × List Int × Unit := q72.2;
 let q79 : Sp.Opd := q78.1;
 let q80 : Sp.Opd × Sp.Opd × List Int × Unit := q74.2;
 let q81 : Sp.Opd := q80.1;
 let q82 : Int × Int × Unit := q79.2;
 let q83 : Int × Int × Unit := q81.2;
 let q84 : Sp.Opd × List Int × Unit := q78.2;
 let q85 : Sp.Opd := q84.1;
 let q86 : Sp.Opd × List Int × Unit := q80.2;
 let q87 : Sp.Opd := q86.1;
 let q88 : Int × Int × Unit := q85.2;
 let q89 : Int × Int × Unit := q87.2;
 let q90 : Bool := decide (q66.1 = q69.1) && (decide (q70.1 = q71.1) && (decide (q73.1 = q75.1) && (decide (q76.1 = q77.1) && (decide (q76.2.1 = q77.2.1) && true)) && (decide (q79.1 = q81.1) && (decide (q82.1 = q83.1) && (decide (q82.2.1 = q83.2.1) && true)) && (decide (q85.1 = q87.1) && (decide (q88.1 = q89.1) && (decide (q88.2.1 = q89.2.1) && true)) && (decide (q84.2.1 = q86.2.1) && true)))));
 let q91 : Int := (x.2.1.getD q18 q8).tmod (↑q38 : Int);
 let q92 : Prop := q61 = q91;
 let q93 : Int := q43.1;
 let q94 : Int := q57.1;
 let q95 : Int × Int × List Sp.Arr × List Sp.Opd × List Sp.Block × Unit := q58.2;
 let q96 : Int := q95.1;
 let q97 : Int × List Sp.Arr × List Sp.Opd × List Sp.Block × Unit := q95.2;
 let q98 : Int := q97.1;
 let q99 : List Sp.Arr × List Sp.Opd × List Sp.Block × Unit := q97.2;
 let q100 : List Sp.Arr := q99.1;
 let q101 : List Sp.Opd := q99.2.1;
 let q102 : Nat := q91.toNat;
 let q103 : Sp.Code := Sp.endC (Sp.madeC x.1.1) q53 q102;
 let q104 : Prop := x.2.1 = x.2.1;
 let q105 : Prop := Sp.madeC x.1.1 = Sp.madeC x.1.1;
 let q106 : Sp.Done := (q53, (q40, ()), ());
 let q107 : Prop := q106 = q106;
 let q108 : Sp.Code := (q93, q94, q60, q96, q98, q100, q101, q41, ());
 let q109 : Prop := q104 /\ q19 /\ q105 /\ q107 /\ q108 = q108 /\ True;
 let q110 : Prop := dFact tI q91;
 let q111 : Prop := inN q91 q42;
 let q112 : Sp.Block := q41.getD q102 q16;
 let q113 : List Sp.Inst := q112.1;
 let q114 : Prop := Step.idx q102 = Step.idx q102;
 let q115 : List Step := Step.snd :: Step.snd :: Step.snd :: Step.snd :: Step.snd :: Step.snd :: Step.snd :: Step.fst :: Step.idx q102 :: Step.fst :: ([] : List Step);
 let q116 : Prop := (True /\ True /\ True /\ (q49 <= q7 /\ ∀ (l : List Int), l ∈ q40 -> l.length <= q7) /\ True /\ True) /\ True /\ True;
 let q117 : List (List Int) := Sp.chgX q40 q27;
 let q118 : Prop := inN q91 q117.length;
 let q119 : List Int := q117.getD q102 (([] : List tI.den));
 let q120 : Nat := q119.length;
 let q121 : Int := (↑q120 : Int);
 let q122 : List Int := q121 :: ([] : List tI.den);
 let q123 : Prop := q118 /\ True;
 let q124 : Prop := Step.fst = Step.fst /\ q114 /\ True;
 let q125 : List Step := Step.fst :: Step.idx q102 :: ([] : List Step);
 let q126 : Prop := q91 = q91;
 let q127 : Sp.Code := Sp.wRg q53 q60;
 let q128 : Sp.Code := Sp.moreC q53 q102;
 let q129 : List (List Int) := Sp.longX q40 q102;
 let q130 : Sp.Ord := (q129, ());
 let q131 : Bool := Sp.chkP (Sp.madeC x.1.1) q127 q40 != q28;
 let q132 : Prop := (true && bif q131 then false else true) = true;
 let q133 : Prop := q132 -> True;
 let q134 : Bool := bif q131 then true else Sp.chkP (Sp.madeC x.1.1) q103 q40 != q28;
 let q135 : Prop := (true && bif q134 then false else true) = true;
 let q136 : Prop := q135 -> True;
 let q137 : Bool := bif q134 then true else Sp.chkP (Sp.madeC x.1.1) q128 q40 != q28;
 let q138 : Prop := (true && bif q137 then false else true) = true;
 let q139 : Prop := q138 -> True;
 let q140 : Bool := bif q137 then true else Sp.chkP (Sp.madeC x.1.1) q53 q129 != q28;
 let q141 : Prop := (true && bif q140 then false else true) = true;
 let q142 : Prop := q141 -> True;
 let q143 : Bool := bif q140 then true else Sp.chkP (Sp.madeC x.1.1) q128 q129 != q28;
 let q144 : Prop := (true && bif q143 then false else true) = true;
 let q145 : Prop := q144 -> True;
 let q146 : Bool := bif q143 then true else Sp.chkP (Sp.madeC x.1.1) q53 (q40 ++ q29) != q28;
 let q147 : Prop := q104 /\ q19 /\ q105 /\ q107 /\ True;
 let q148 : Int := (↑(List.length (q40.getD q102 (([] : List tI.den)))) : Int);
 let q149 : Bool := q148 == q8;
 let q150 : Nat := (Sp.xsAt q40 q102).length;
 let q151 : Prop := q150 ≠ q18;
 let q152 : Int := (↑q150 : Int);
 let q153 : Prop := dFact tI q152;
 let q154 : Prop := q152 = q152;
 let q155 : List (List Int) := Sp.shortX q40 q102;
 let q156 : Sp.Ord := (q155, ());
 let q157 : Prop := q152 ≠ q8;
 let q158 : Int := x.2.1.getD q31 q8;
 let q159 : Int := q158 + q9;
 let q160 : Int := q159.tmod q152;
 let q161 : Int := q158.tmod q152;
 let q162 : List (List Int) := Sp.twX q40 q102 (x.2.1.getD q32 q33);
 let q163 : Sp.Ord := (q162, ());
 let q164 : Prop := q156 = q156;
 let q165 : List Int := Sp.xsAt q162 q102;
 let q166 : Prop := q19 /\ q105 /\ q107 /\ q126 /\ q154 /\ q164 /\ q163 = q163 /\ True;
 let q167 : List Sp.Inst := (Sp.blkAt (Sp.madeC x.1.1) q102).1;
 let q168 : Sp.Block := Sp.blkAt q53 q102;
 let q169 : List Sp.Inst := q168.1;
 let q170 : Sp.Term × Unit := q168.2;
 let q171 : List Int := q162.getD q102 (([] : List tI.den));
 let q172 : List Sp.Inst := (q44.getD q102 q16).1;
 let q173 : Bool := Sp.chkP (Sp.madeC x.1.1) q53 q155 == q28;
 let q174 : Bool := true && bif q173 then true else false;
 let q175 : Prop := q174 = true -> True;
 let q176 : Bool := q152 == q9;
 let q177 : Bool := q174 && bif q176 then false else true;
 let q178 : Prop := q177 = true;
 let q179 : Prop := q178 -> True;
 let q180 : Bool := Sp.chkP (Sp.madeC x.1.1) q53 q162 == q28;
 let q181 : Prop := (q177 && bif q180 then true else false) = true;
 let q182 : Prop := q181 -> True;
 True ->
 dFact (tU8.slice.prod Ty.unit) x.1 /\ dFact (Ty.arr q0 tU8) x.2.1 /\ True ->
 q3 /\
 q4 /\
 q4 /\
 ((!true) = true -> q6) /\
 ((!true) = false ->
 (q2 /\ True /\ True) /\
 ((True /\ q39 /\ True /\ True) /\ True /\ True) /\
 ((True /\ True /\ True /\ True /\ True /\ True /\ True /\ True /\ True /\ q48 /\ q48 /\ q48 /\ q48 /\ q48 /\ q48 /\ q48 /\ q48 /\ True /\ True /\ q52 /\ q52 /\ q52 /\ q52 /\ q52 /\ (q51 -> q39) /\ q52 /\ True /\ True) /\ True) /\
 (q54 = true -> q6) /\
 (q54 = false ->
 ((inN q8 q0 /\ True /\ True /\ True /\ True /\ True /\ q46 ≠ q8 /\ True /\ True) /\ True) /\
 q56 /\
 ((True /\ True /\ inK IntKind.i64 q60 /\ True /\ True) /\ True /\ True) /\
 q56 /\
 ((True /\ True /\ True /\ True /\ inN q61 q42 /\ True /\ True) /\ True /\ True) /\
 (((True /\ True /\ True /\ inN q61 q45 /\ True /\ True /\ True /\ True /\ True /\ q65 /\ q2) /\ True) /\ (q90 = true -> ((True /\ True /\ True /\ True /\ q65 /\ True /\ True) /\ True /\ True) /\ ∃ (x : Unit), True /\ q92 /\ (q93, q94, q59, q96, q98, q100, q101, q64.set q62 (q67.1, (q10, q15), q68.2), ()) = q103 /\ q109) /\ (q90 = false -> ∃ (x : Unit), True /\ q92 /\ (q93, q94, q59, q96, q98, q100, q101, q64, ()) = q103 /\ q109)) /\
 ∀ (x_1 : Unit),
 True ->
 q110 /\ dFact (tI.prod (tI.prod (tI.prod (tI.prod (tI.prod (tArr.slice.prod (tLoop.slice.prod ((tInst.slice.prod ((tI.prod (tI.prod (tOpd.prod (tOpd.prod (tOpd.prod ((Ty.arr q0 tI).prod Ty.unit)))))).prod Ty.unit)).slice.prod Ty.unit)))))))) q103 /\ True ->
 q56 /\
 (((True /\ True /\ True /\ True /\ True /\ True /\ q111 /\ True /\ True /\ True /\ True /\ (↑(q113.length + q21.length) : Int) <= maxNew /\ q111 /\ True /\ True) /\ True /\ True /\ True /\ True /\ True /\ True /\ True /\ True /\ True /\ True /\ True /\ ((True /\ q23 /\ True /\ True /\ q23 /\ True /\ True /\ True /\ (Step.snd = Step.snd /\ Step.snd = Step.snd /\ Step.snd = Step.snd /\ Step.snd = Step.snd /\ Step.snd = Step.snd /\ Step.snd = Step.snd /\ Step.snd = Step.snd /\ Step.fst = Step.fst /\ q114 /\ q22) /\ q25) /\ q26) /\ q1) /\ q115 = q115 /\ True) /\
 q116 /\
 ((((True /\ True /\ True /\ True /\ True /\ True /\ q118 /\ True /\ True /\ True /\ True /\ q118 /\ True /\ True /\ True /\ (↑(q120 + q122.length) : Int) <= maxNew /\ q123) /\ True /\ True /\ True /\ True /\ True /\ True /\ True /\ True /\ True /\ True /\ True /\ True /\ True /\ True /\ True /\ ((True /\ q22 /\ True /\ True /\ q22 /\ True /\ True /\ q124 /\ True /\ q22 /\ True /\ True /\ q124 /\ q24) /\ q26) /\ True /\ True) /\ q125 = q125 /\ True) /\ ∃ (x : Unit), True /\ q126 /\ q108 = q127 /\ (q93, q94, q59, q96, q98, q100, q101, q41.set q102 (q113 ++ q21, q112.2), ()) = q128 /\ (q117.set q102 (q119 ++ q122), ()) = q130 /\ q104 /\ q19 /\ q105 /\ q107 /\ q103 = q103 /\ True) /\
 ∀ (x_2 : Unit),
 True ->
 q110 /\ dFact (tI.prod (tI.prod (tI.prod (tI.prod (tI.prod (tArr.slice.prod (tLoop.slice.prod ((tInst.slice.prod ((tI.prod (tI.prod (tOpd.prod (tOpd.prod (tOpd.prod ((Ty.arr q0 tI).prod Ty.unit)))))).prod Ty.unit)).slice.prod Ty.unit)))))))) q127 /\ dFact (tI.prod (tI.prod (tI.prod (tI.prod (tI.prod (tArr.slice.prod (tLoop.slice.prod ((tInst.slice.prod ((tI.prod (tI.prod (tOpd.prod (tOpd.prod (tOpd.prod ((Ty.arr q0 tI).prod Ty.unit)))))).prod Ty.unit)).slice.prod Ty.unit)))))))) q128 /\ dFact tOrd q130 /\ True ->
 (((True /\ True /\ True /\ True /\ q39 /\ True /\ True /\ q133 /\ q133 /\ q133 /\ q133 /\ (q132 -> q39) /\ q133 /\ True /\ True /\ q136 /\ q136 /\ q136 /\ q136 /\ (q135 -> q39) /\ q136 /\ True /\ True /\ q139 /\ q139 /\ q139 /\ q139 /\ (q138 -> q39) /\ q139 /\ True /\ True /\ q142 /\ q142 /\ q142 /\ (q141 -> q39) /\ q142 /\ True /\ True /\ q145 /\ q145 /\ q145 /\ (q144 /\ True) /\ q145 /\ q145 /\ q145 /\ (q144 /\ (↑(q18 + q49) : Int) <= maxNew) /\ q145 /\ (q144 /\ (↑(q49 + q29.length) : Int) <= maxNew) /\ q145 /\ (q144 -> q39) /\ q145 /\ True /\ True) /\ True) /\ (q146 = true -> q6) /\ (q146 = false -> ∃ (x : Unit), True /\ q126 /\ q147)) /\
 ∀ (x_3 : Unit),
 True ->
 q110 /\ True ->
 ((True /\ True /\ True /\ True /\ inN q91 q49 /\ q2) /\ True) /\
 (q4 /\ (q149 = true -> q4 /\ true = true) /\ (q149 = false -> ∃ (x : Unit), q151 /\ q126 /\ q148 = q152 /\ q147)) /\
 ∀ (x_4 : Unit),
 q151 ->
 q110 /\ q153 /\ True ->
 q116 /\
 (((True /\ True /\ True /\ True /\ True /\ True /\ q118 /\ True /\ winI q9 q121 q120 /\ q123) /\ True /\ True) /\ ∃ (x : Unit), True /\ q126 /\ q154 /\ (q117.set q102 (win q9 q121 q119), ()) = q156 /\ q147) /\
 ∀ (x_5 : Unit),
 True ->
 q110 /\ q153 /\ dFact tOrd q156 /\ True ->
 q116 /\
 (((True /\ True /\ True /\ q118 /\ True /\ q30 /\ True /\ True /\ True /\ q157 /\ True /\ True /\ True /\ q118 /\ True /\ q30 /\ True /\ True /\ inK IntKind.i64 q159 /\ True /\ q157 /\ inN q160 q120 /\ True /\ inN q161 q120 /\ True) /\ True /\ True) /\ ∃ (x : Unit), True /\ q126 /\ q154 /\ (q117.set q102 (q119.set q161.toNat (q119.getD q160.toNat q8)), ()) = q163 /\ q19 /\ q105 /\ q107 /\ q164 /\ True) /\
 ∀ (x_6 : Unit),
 True ->
 q110 /\ q153 /\ dFact tOrd q163 /\ True ->
 q56 /\
 q5 /\
 (∃ (x_7 : Nat), x_7 <= q150 /\ q53 = Sp.dupC (Sp.madeC x.1.1) q53 q102 q165 x_7 /\ q8 = (↑x_7 : Int) /\ q166) /\
 ∀ (x_7 : Nat),
 let q183 : Sp.Code := Sp.dupC (Sp.madeC x.1.1) q53 q102 q165 x_7;
 let q184 : Bool := decide ((↑x_7 : Int) < q152);
 let q185 : List Sp.Block := q55.set q102 (Sp.dupL q167 q169 q165 x_7, q170);
 let q186 : Nat := (↑x_7 : Int).toNat;
 let q187 : Int := q171.getD q186 q8;
 let q188 : Sp.Block := q185.getD q102 q16;
 let q189 : List Sp.Inst := q188.1;
 let q190 : Int := (↑x_7 : Int) + q9;
 x_7 <= q150 -> dFact (tI.prod (tI.prod (tI.prod (tI.prod (tI.prod (tArr.slice.prod (tLoop.slice.prod ((tInst.slice.prod ((tI.prod (tI.prod (tOpd.prod (tOpd.prod (tOpd.prod ((Ty.arr q0 tI).prod Ty.unit)))))).prod Ty.unit)).slice.prod Ty.unit)))))))) q183 /\ dFact tI (↑x_7 : Int) /\ True -> q3 /\ (q184 = true -> ((True /\ True /\ True /\ inN q91 q185.length /\ True /\ True /\ True /\ True /\ True /\ True /\ inN q91 q45 /\ True /\ True /\ True /\ True /\ True /\ inN q91 q162.length /\ True /\ True /\ inN (↑x_7 : Int) q171.length /\ True /\ inN q187 q172.length /\ True /\ inN (↑x_7 : Int) q189.length /\ True) /\ True /\ True) /\ ((True /\ inK IntKind.i64 q190 /\ True /\ True) /\ True) /\ ∃ (y : Nat), y <= q150 /\ q150 - y < q150 - x_7 /\ (q93, q94, q59, q96, q98, q100, q101, q185.set q102 (q189.set q186 (q172.getD q187.toNat (q8, q8, q20)), q188.2), ()) = Sp.dupC (Sp.madeC x.1.1) q53 q102 q165 y /\ q190 = (↑y : Int) /\ q166) /\ (q184 = false -> ((True /\ True /\ q35 /\ q35 /\ q35 /\ q35 /\ (q34 -> q39) /\ q35 /\ True /\ True /\ q175 /\ q175 /\ q175 /\ q179 /\ q179 /\ q179 /\ q179 /\ (q178 -> q39) /\ q179 /\ q179 /\ q182 /\ q182 /\ q182 /\ (q181 -> q39) /\ q182 /\ q179 /\ q175 /\ q1) /\ True) /\ (bif q173 then bif q176 then true else bif q180 then Sp.chkP (Sp.madeC x.1.1) q183 q162 == q28 else false else false) = true)))) := by kernel_rfl
end Go.User
namespace Go.User
open Go.Lf Go.Proofs
set_option maxHeartbeats 8000000 in
set_option maxRecDepth 100000 in
theorem ok7 : FOk Try.prog 7 S7 := by
 have hC : CtxOK Try.prog C7o := okC (fns_cons ok8 (fns_cons ok21 (fns_cons ok10 (fns_cons (ok18 ok65) (fns_cons ok20 (fns_cons ok16 fns_nil)))))) rfl rfl rfl rfl rfl rfl rfl
 refine FOk.introT hC (stpS_ok hC) Try.call7 Try.func7 rfl (by kernel_rfl) T7o ?_
 rw [vc7o]
 simp only [zz, zy]
 rintro ⟨L, z, u⟩ hd
 obtain ⟨L, u2⟩ := L
 have hb : Sp.Byt (Sp.md0 L) := bytes_of hd.1.1
 have hz : ∀ v ∈ (z : List Int), 0 <= v /\ v <= 255 := fun v hv => ⟨(hd.2.2 v hv).1, (hd.2.2 v hv).2⟩
 have hw := wC_made L hb
 have hreg := Sp.made_regs L hb
 dsimp only
 clear hd hb
 have hcM : Sp.setT (Sp.cB (Sp.md4 L).2.2.1) (Sp.nB (Sp.md4 L) - 1) (Sp.tJ 5 0 0) = Sp.cB (Sp.madeC L) := rfl
 have m1 : (Sp.md4 L).2.2.1.1 = (Sp.madeC L).1 := rfl
 have m2 : (Sp.md4 L).2.2.1.2.1 = (Sp.madeC L).2.1 := rfl
 have m3 : (Sp.md4 L).2.2.1.2.2.1 = (Sp.madeC L).2.2.1 := rfl
 have m4 : (Sp.md4 L).2.2.1.2.2.2.1 = (Sp.madeC L).2.2.2.1 := rfl
 have m5 : (Sp.md4 L).2.2.1.2.2.2.2.1 = (Sp.madeC L).2.2.2.2.1 := rfl
 have m6 : (Sp.md4 L).2.2.1.2.2.2.2.2.1 = Sp.cA (Sp.madeC L) := rfl
 have m7 : (Sp.md4 L).2.2.1.2.2.2.2.2.2.1 = Sp.cL (Sp.madeC L) := rfl
 simp only [hcM, m1, m2, m3, m4, m5, m6, m7]
 clear hcM m1 m2 m3 m4 m5 m6 m7
 generalize Sp.madeC L = c at *
 have hv := hw.v
 have hwD := hw.run
 have hD5 := codeOK5 hwD
 have hdB : Sp.reoN c (Sp.runX Sp.depP c) (Sp.cB c).length = Sp.cB (Sp.runC Sp.depP c) := rfl
 have hb0 : (([], (0, 0, (0, 0, 0, ()), (0, 0, 0, ()), (0, 0, 0, ()), List.replicate 2 0, ()), ()) : Sp.Block) = Sp.blk0 := rfl
 have hi0 : ((0, 0, 0, (0, 0, 0, ()), (0, 0, 0, ()), (0, 0, 0, ()), (0, 0, 0, ()), ()) : Sp.Inst) = Sp.inst0 := rfl
 have hgd : ∀ (c : Sp.Code) b, (Sp.cB c).getD b Sp.blk0 = Sp.blkAt c b := fun _ _ => rfl
 have hgi : ∀ (l : List Sp.Inst) n, l.getD n Sp.inst0 = Sp.insAt l n := fun _ _ => rfl
 have hgx : ∀ (X : List (List Int)) b, X.getD b [] = Sp.xsAt X b := fun _ _ => rfl
 rw [hdB, hb0, hi0]
 have hB : (Sp.cB c).length <= 800 := hw.bd.1
 have hne := hw.ne
 have hDl : (Sp.cB (Sp.runC Sp.depP c)).length = (Sp.cB c).length := Sp.cB_reo_len c _
 have hXl : (Sp.runX Sp.depP c).length = (Sp.cB c).length := Sp.runX_len _ _
 have hXa : ∀ b, (Sp.xsAt (Sp.runX Sp.depP c) b).length = (Sp.blkAt c b).1.length := Sp.run_at_len _ _
 have hX0 : Sp.chgX (Sp.runX Sp.depP c) (0, 0, 0, 0, false, ()) = Sp.runX Sp.depP c := by
  refine Sp.chg_none fun b v hv => ?_
  rcases Nat.lt_or_ge b (Sp.cB c).length with g | g
  ·rw [Sp.runX_at Sp.depP c g] at hv
   have := (Sp.lstO_ok _ _).2 v hv
   have := Sp.blk_len hw b
   omega
  ·have : Sp.xsAt (Sp.runX Sp.depP c) b = [] := by
    unfold Sp.xsAt;rw [List.getD_eq_getElem?_getD, List.getElem?_eq_none (by omega)]; rfl
   rw [this] at hv;exact (List.not_mem_nil hv).elim
 have hXb : ∀ l ∈ Sp.runX Sp.depP c, l.length <= 3000 := Sp.bd_mem fun b => by have := Sp.blk_len hw b; rw [hXa]; omega
 rw [hX0, Sp.run_chk]
 simp only [hgd, hgi, hgx, Int.toNat_natCast, show Int.toNat 0 = 0 from rfl, show Int.toNat 1 = 1 from rfl]
 have z0 := byte_at hz 0
 have z1 := byte_at hz 1
 generalize z.getD 0 0 = Z0 at *
 generalize z.getD 1 0 = Z1 at *
 have hb1 := Sp.tmod_bd z0.1 (k := ((Sp.cB c).length : Int)) (by omega)
 generalize Int.tmod Z0 ((Sp.cB c).length : Int) = B at *
 obtain ⟨b, rfl⟩ := Int.eq_ofNat_of_zero_le hb1.1
 rw [Int.toNat_natCast]
 have hbl : b < (Sp.cB c).length := by omega
 have hl3 := Sp.blk_len hw b
 have inB : inN (b : Int) (Sp.cB c).length := ⟨hb1.1, hb1.2⟩
 have inD : inN (b : Int) (Sp.cB (Sp.runC Sp.depP c)).length := by rw [hDl]; exact inB
 have inX : inN (b : Int) (Sp.runX Sp.depP c).length := by rw [hXl]; exact inB
 have inD2 : ∀ v : Sp.Block, inN (b : Int) ((Sp.cB (Sp.runC Sp.depP c)).set b v).length := fun v => by rw [List.length_set]; exact inD
 have eB : ∀ v : Sp.Block, ((Sp.cB (Sp.runC Sp.depP c)).set b v).getD b Sp.blk0 = v := fun v => by rw [Sp.getD_set _ _ _ _ _ (by omega), if_pos rfl]
 have hDb1 : (Sp.blkAt (Sp.runC Sp.depP c) b).1.length = (Sp.blkAt c b).1.length := by
  unfold Sp.runC;rw [Sp.blkAt_reo c _ hbl];show (Sp.reoL _ _).length = _;rw [Sp.reoL_len, hXa]
 have hXn := hXa b
 have k1 := Sp.chk_wide c (Sp.runX Sp.depP c) (Sp.runC Sp.depP c) rfl
 have k2 := Sp.chk_end c (Sp.runX Sp.depP c) (D := Sp.runC Sp.depP c) hbl hDl
 have k3 := Sp.chk_more c (X := Sp.runX Sp.depP c) (D := Sp.runC Sp.depP c) hbl rfl
 have hlong : (Sp.xsAt (Sp.longX (Sp.runX Sp.depP c) b) b).length ≠ (Sp.blkAt c b).1.length := by
  unfold Sp.longX;rw [Sp.xs_set (by omega), List.length_append, List.length_singleton]; omega
 have k4 := Sp.chk_len c (Sp.runC Sp.depP c) hbl hlong
 have k5 := Sp.chk_len c (Sp.moreC (Sp.runC Sp.depP c) b) hbl hlong
 have k6 := Sp.chk_app c (Sp.runC Sp.depP c) (X := Sp.runX Sp.depP c ++ [[]]) (by rw [List.length_append, List.length_singleton]; omega)
 have k1' : Sp.chkP c (Sp.wRg (Sp.runC Sp.depP c) (c.2.2.1 + 1)) (Sp.runX Sp.depP c) = 100 := k1
 rw [k1', k2, k3, k4, k5, k6, hDl, hXl]
 have c5 := codeOK5 hw
 have hE : (Sp.cA (Sp.runC Sp.depP c)).length <= 5000 /\ (Sp.cL (Sp.runC Sp.depP c)).length <= 5000 /\ (Sp.cB c).length <= 5000 /\ ∀ b ∈ Sp.cB (Sp.runC Sp.depP c), b.1.length <= 5000 := ⟨hD5.1, hD5.2.1, by omega, hD5.2.2.2⟩
 refine ⟨hv, fun _ => hv, fun h => ?_, fun _ => ⟨⟨⟨by omega, by omega⟩, by omega⟩, hE, inK_mid (by omega) (by omega), hE, inB, ?_, fun hq => ?_⟩⟩
 ·simp at h
 ·simp only [eB]
  refine ⟨⟨inB, inD2 _⟩, fun h => ?_, fun h => ?_⟩
  ·have ht := Sp.term_1 _ h
   refine ⟨inD2 _, (), trivial, ?_⟩
   unfold Sp.endC;rw [Sp.endT_1 ht, List.set_set]
   rfl
  ·have ht : (Sp.blkAt c b).2.1 ≠ (1, 0, Sp.opd0, Sp.opd0, Sp.opd0, [0, 0], ()) := fun e => by
    rw [e] at h;exact absurd h (by decide)
   refine ⟨(), trivial, ?_⟩
   unfold Sp.endC;rw [Sp.endT_0 ht]
   rfl
 have hT : Sp.xsAt (Sp.twX (Sp.runX Sp.depP c) b Z1) b = Sp.twL (Sp.xsAt (Sp.runX Sp.depP c) b) Z1 := by
  unfold Sp.twX; rw [Sp.xs_set (by omega)]
 have hTl : (Sp.xsAt (Sp.twX (Sp.runX Sp.depP c) b Z1) b).length = (Sp.xsAt (Sp.runX Sp.depP c) b).length := by rw [hT, Sp.twL_len]
 have hTn : (Sp.twX (Sp.runX Sp.depP c) b Z1).length = (Sp.cB c).length := by unfold Sp.twX; rw [List.length_set, hXl]
 have hval : ∀ v ∈ Sp.xsAt (Sp.runX Sp.depP c) b, 0 <= v /\ v < ((Sp.blkAt c b).1.length : Int) := fun v hv => by
  rw [Sp.runX_at Sp.depP c hbl] at hv;exact (Sp.lstO_ok _ _).2 v hv
 have hwin : Go.Lf.win 1 ((Sp.xsAt (Sp.runX Sp.depP c) b).length : Int) (Sp.xsAt (Sp.runX Sp.depP c) b) = (Sp.xsAt (Sp.runX Sp.depP c) b).drop 1 := by
  unfold Go.Lf.win
  simp
 have hsh : 0 < (Sp.xsAt (Sp.runX Sp.depP c) b).length -> (Sp.xsAt (Sp.shortX (Sp.runX Sp.depP c) b) b).length ≠ (Sp.blkAt c b).1.length := fun h0 => by
  unfold Sp.shortX;rw [Sp.xs_set (by omega), List.length_drop]; omega
 have hco : ∀ (d : Sp.Code) , 2 <= (Sp.xsAt (Sp.runX Sp.depP c) b).length -> Sp.chkP c d (Sp.twX (Sp.runX Sp.depP c) b Z1) = 100 := fun d h2 => Sp.chk_tw c d hbl hXl z1.1 h2
 refine ⟨hE, ⟨inB, maxN (by omega), inB⟩, ⟨by omega, hXb⟩, ⟨⟨inB, inB, maxN (by omega), inB⟩, (), rfl, rfl, rfl⟩, fun hq2 => ⟨⟨⟨hv, fun _ => hv, fun _ => hv, fun _ => hv, fun _ => hv, ⟨⟨⟨⟨rfl, rfl⟩, rfl⟩, rfl⟩, rfl⟩, ⟨⟨⟨⟨⟨rfl, rfl⟩, rfl⟩, rfl⟩, rfl⟩, maxN (by omega)⟩, ⟨⟨⟨⟨⟨rfl, rfl⟩, rfl⟩, rfl⟩, rfl⟩, maxN (by omega)⟩, fun _ => hv⟩, fun h => absurd h (by decide), fun _ => ⟨(), trivial⟩⟩, fun hq3 => ⟨inB, fun h => ⟨(), by omega, trivial⟩, fun hn hq4 => ?_⟩⟩⟩
 have hb2 := Sp.tmod_bd z1.1 (k := ((Sp.xsAt (Sp.runX Sp.depP c) b).length : Int)) (by omega)
 have hb3 := Sp.tmod_bd (a := Z1 + 1) (by omega) (k := ((Sp.xsAt (Sp.runX Sp.depP c) b).length : Int)) (by omega)
 have hvt : ∀ k, k < (Sp.xsAt (Sp.runX Sp.depP c) b).length -> 0 <= (Sp.xsAt (Sp.twX (Sp.runX Sp.depP c) b Z1) b).getD k 0 /\ (Sp.xsAt (Sp.twX (Sp.runX Sp.depP c) b Z1) b).getD k 0 < ((Sp.blkAt c b).1.length : Int) := fun k hk => by
  have hg : ∀ j, j < (Sp.xsAt (Sp.runX Sp.depP c) b).length -> (Sp.xsAt (Sp.runX Sp.depP c) b).getD j 0 ∈ Sp.xsAt (Sp.runX Sp.depP c) b := fun j hj => by
   rw [List.getD_eq_getElem?_getD, List.getElem?_eq_getElem hj];exact List.getElem_mem _
  rw [hT];unfold Sp.twL;rw [Sp.getD_set _ _ _ _ _ (by omega)];split
  ·exact hval _ (hg _ (by omega))
  ·exact hval _ (hg k hk)
 refine ⟨⟨by omega, hXb⟩, ⟨⟨inB, ⟨by omega, by omega, by omega⟩, inB⟩, (), by rw [hwin]; rfl⟩, fun hq5 => ⟨⟨by omega, hXb⟩, ⟨⟨inB, ⟨by omega, by omega⟩, by omega, inB, ⟨by omega, by omega⟩, inK_mid (by omega) (by omega), by omega, hb3, hb2⟩, (), rfl⟩, fun hq6 => ⟨hE, ⟨0, by omega, (Sp.dup_zero c _ b _ (by omega)).symm, rfl⟩, fun k hk hq7 => ⟨fun hlt => ?_, fun hge => ?_⟩⟩⟩⟩
 ·simp only [eB]
  refine ⟨⟨inD2 _, inB, ⟨by omega, by omega⟩, ⟨by omega, by omega⟩, hvt k (by omega), ⟨by omega, by rw [Sp.dupL_len]; omega⟩⟩, inK_mid (by omega) (by omega), k + 1, by omega, by omega, ?_, by omega⟩
  unfold Sp.dupC;rw [List.set_set, <- Sp.dupL_succ _ _ _ (by omega)]
  rfl
 ·refine ⟨⟨hv, fun _ => hv, fun _ => hv⟩, Sp.chk_len c _ hbl (hsh (by omega)), ?_⟩
  by_cases h1 : (Sp.xsAt (Sp.runX Sp.depP c) b).length = 1
  ·rw [h1]; rfl
  ·rw [hco _ (by omega), hco _ (by omega)]
   simp
end Go.User
namespace Go.Proofs.Ytdcbiadlojcaoaa
open Go.ChangeShapes Go.WideShapes Go.ChangeAt Go.RowKit Go.Proofs Go.Lf

set_option maxRecDepth 100000 in
theorem orderRefuses_lifted (hF : FOk Try.prog 7 Go.User.S7) (os : Os) (started : os.Started) (H : Type) (enc : TypeId × Value -> H) :
  ReturnsInHanded {} Try.checked os 7 .any (Rows.orderRefusesSpec.pre6 enc Try.prog Try.f7 Rows.orderRefusesRow.domain false) (Rows.orderRefusesSpec.post enc Try.prog Try.f7 false true false false) := by
 refine returnsInHanded_of_change_sized (C := Try.checked) Try.own started (by kernel_rfl) Try.func7
  (ChangeSpec.witness6 (enc := enc) (C := Try.checked) false ⟨#[], #[.agg #[.slice none 0 0], .agg #[.int .u8 0, .int .u8 0]], []⟩ 8 (by kernel_rfl) (by kernel_rfl) (by kernel_rfl) (by kernel_rfl)) ?_
 intro W base args ds gs before hval0 hW _ hsz0 _
 have hsz : (DataW.weightsEach Try.prog (Try.f7.params.toList ++ Rows.orderRefusesSpec.plain.varTypes Try.prog) (ds ++ gs)).all (· <= reachBytes) = true := hsz0
 clear hsz0
 have hval : ∀ (j : Nat) t v, Try.f7.params[j]? = some t -> args[j]? = some v -> Value.okWide Try.prog W .any base t v := hval0
 have hW' := hW
 obtain ⟨p, q, hA0, hV, rfl, _, _⟩ := hW
 have hA : DataW.TrodAll enc Try.prog W 0 (fun _ => true) true Try.f7.params.toList args.toList ds p := hA0
 rw [Try.params7] at hA hval hsz
 obtain ⟨v0, v1, d0, d1, p0, p1, rfl, rfl, rfl, h0, h1⟩ := trodAll_two hA
 obtain ⟨rfl, rfl⟩ := trodVars_none hV
 clear hA0 hval0
 simp only [List.append_nil, List.append_assoc] at hW'
 have hlt0 : ∀ x ∈ p0, x.block < W.heap.size := fun x hx => hW'.lt x (by simp [hx])
 have hlt1 : ∀ x ∈ p1, x.block < W.heap.size := fun x hx => hW'.lt x (by simp [hx])
 obtain ⟨x0, hx0⟩ := arg_of (τ := Go.User.tRaw) (by kernel_rfl) (hval 0 24 v0 rfl rfl) h0 hlt0 (sz_of hsz (j := 0) rfl rfl)
 obtain ⟨x1, hx1⟩ := arg_of (τ := .arr 2 (.int .u8)) (by kernel_rfl) (hval 1 60 v1 rfl rfl) h1 hlt1 (sz_of hsz (j := 1) rfl rfl)
 have hcall := hF.2 W (fun b => b < W.heap.size) [v0, v1] (x0, x1, ()) (GlbOK.zero _ _) (fun b h => h) ⟨v0, [v1], rfl, hx0, v1, [], rfl, hx1, rfl⟩ trivial
 refine hcall.mono ?_
 rintro e W' ⟨v, F', S', rfl, hb, _, _, _, _, hv⟩
 have hv : OwnV F' W' .bool .shr S' v true := hv
 have := hv.bool_eq
 subst this
 have hargs0 := Below.trod Try.laidOut (by kernel_rfl) (of_decide_eq_true (by kernel_rfl)) h0 hb hlt0
 have hargs1 := Below.trod Try.laidOut (by kernel_rfl) (of_decide_eq_true (by kernel_rfl)) h1 hb hlt1
 refine ⟨_, rfl, _, _, _, [], p0 ++ p1, [], hW', ?_, trodAll_mk2 hargs0 hargs1, rfl, hb.frame _, fun h => by cases h⟩
 exact trodAll_mk1 (shut_bool Try.underlying4 true)

theorem orderRefuses_holds : Rows.OrderRefusesSaid :=
 OpenClaim.holds_of_wide 7 Try.f7 rfl rfl rfl rfl rfl rfl rfl ⟨rfl, rfl, rfl, rfl, rfl⟩ rfl rfl rfl rfl rfl (by kernel_rfl) Try.func7 (by kernel_rfl)
  (of_decide_eq_true (by kernel_rfl)) (by unfold Func.isWrapper; first | (rw [if_pos (by decide +kernel)]; kernel_rfl) | (rw [if_neg (by decide +kernel)]; exact ⟨rfl, rfl⟩))
  (fun os started H enc _ => orderRefuses_lifted Go.User.ok7 os started H enc)
end Go.Proofs.Ytdcbiadlojcaoaa
