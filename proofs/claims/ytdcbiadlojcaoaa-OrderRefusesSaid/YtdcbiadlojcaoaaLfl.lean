/- Written by gen.py: what is left to show of each function. The maker of codes: Made: bounds. Copies of codes. Written by gen.py: what is left to show of each function. Codes and orders that are equal; registers; what an instruction accesses. Written by gen.py: what is left to show of each function. -/
import Derived.Test.YtdcbiadlojcaoaaLfk
set_option linter.unusedVariables false
set_option linter.unusedSimpArgs false
namespace Go.User
open Go.Proofs Go.Lf
set_option maxRecDepth 100000
theorem vc21 : (funIT C21 (stpN numsO C21) S21 T21 Try.f21) = (
let q0 : Prop := True /\ True /\ True;
let q1 : Prop := q0 /\ True;
let q2 : Prop := True /\ q0;
let q3 : Prop := True /\ q2;
let q4 : Prop := True /\ q3;
let q5 : Nat := (10 : Nat);
let q6 : Prop := q5 = q5;
let q7 : Prop := ([] : List Step) = ([] : List Step);
let q8 : Prop := True /\ q6 /\ q7;
let q9 : Prop := q8 /\ q8 /\ True;
let q10 : Int := (0 : tI.den);
let q11 : Int := (0 : Int);
let q12 : Int := (5000 : tI.den);
let q13 : Prop := q10 <= q11 /\ q11 <= q12;
let q14 : Int := (5 : Int);
let q15 : Prop := q14 ≠ q11;
let q16 : List Sp.Opd × List Sp.Block × Unit := (([] : List tLoop.den), ([] : List tBlk.den), ());
let q17 : Sp.Code := (q11, q11, q11, q11, q11, ([] : List tArr.den), q16);
let q18 : Int × Sp.Code × Unit := (q11, q17, ());
let q19 : Int := (4 : Int);
let q20 : Int := (1 : Int);
let q21 : Int := (2 : Int);
let q22 : Int := (8 : Int);
let q23 : Int := (6 : Int);
let q24 : List Int := q19 :: q20 :: q21 :: q22 :: q23 :: ([] : List tI.den);
let q25 : Nat := (12 : Nat);
let q26 : List Step := Step.snd :: Step.fst :: ([] : List Step);
let q27 : List Step := Step.snd :: q26;
let q28 : Prop := True /\ q6 /\ q27 = q27;
let q29 : Int := (3 : Int);
let q30 : Nat := (2 : Nat);
let q31 : Prop := dFact (tI.prod (tI.prod (tI.prod (tI.prod (tI.prod (tArr.slice.prod (tLoop.slice.prod ((tInst.slice.prod ((tI.prod (tI.prod (tOpd.prod (tOpd.prod (tOpd.prod ((Ty.arr q30 tI).prod Ty.unit)))))).prod Ty.unit)).slice.prod Ty.unit)))))))) Sp.code0;
let q32 : Prop := q29 ≠ q11;
let q33 : Prop := q32 /\ True /\ True;
let q34 : Nat := (1 : Nat);
let q35 : Prop := Sp.code0 = Sp.code0;
let q36 : Nat := (4000 : Nat);
let q37 : Int := (0 : (AK.val tI).den);
let q38 : Int := (2 : (AK.val tI).den);
let q39 : Nat := (5000 : Nat);
let q40 : Sp.Opd := (q11, q11, q11, ());
let q41 : List Int := List.replicate q30 q11;
let q42 : Int × Sp.Opd × Sp.Opd × Sp.Opd × List Int × Unit := (q11, q40, q40, q40, q41, ());
let q43 : Sp.Block := (([] : List tInst.den), (q11, q42), ());
let q44 : Nat := (0 : Nat);
let q45 : List Step := Step.snd :: Step.snd :: Step.fst :: Step.snd :: Step.snd :: Step.snd :: Step.snd :: Step.snd :: q27;
let q46 : Prop := True /\ q6 /\ q45 = q45;
let q47 : Prop := q23 ≠ q11;
∀ (x : (List Int × Unit) × Unit),
 let q48 : Int := (Sp.nxV (x.1.1, q18)).tmod q14;
 let q49 : Prop := inN q48 q24.length;
 let q50 : Prop := q49 /\ True /\ True;
 let q51 : Prop := q15 /\ q48 = q48;
 let q52 : Nat := q48.toNat;
 let q53 : List Step := Step.idx q52 :: ([] : List Step);
 let q54 : Int := q24.getD q52 q11;
 let q55 : Prop := q8 /\ q51 /\ (q49 /\ q25 = q25 /\ q53 = q53) /\ (True /\ q54 = q54) /\ True;
 let q56 : Prop := q55 /\ (True /\ q0 /\ (q8 /\ q8 /\ q28 /\ True) /\ (True /\ True /\ True /\ ∃ (x_1 : Unit), True /\ q17 = Sp.code0 /\ q7 /\ (x.1.1, q11 + q20, (q54, q20, q23, q11, q29, Sp.arrs, q16), ()) = Sp.md1 x.1.1 /\ True) /\ True) /\ True /\ True;
 let q57 : Prop := q55 /\ (True /\ True /\ q56) /\ q0;
 let q58 : Prop := q8 /\ q51 /\ True;
 let q59 : Int × Sp.Code × Unit := (Sp.md2 x.1.1).2;
 let q60 : Int := q59.1;
 let q61 : Int × Sp.Code × Unit := (Sp.md3 x.1.1).2;
 let q62 : Int := q61.1;
 let q63 : Sp.Mk := ((Sp.md3 x.1.1).1, q62 + q20, q61.2);
 let q64 : Int := (Sp.nxV (Sp.md3 x.1.1)).tmod q29;
 let q65 : Sp.Mk := Sp.q1 (Sp.md3 x.1.1);
 let q66 : Int × Sp.Code × Unit := q65.2;
 let q67 : Int := q66.1;
 let q68 : Bool := (Sp.nxV q65).tmod q29 == q11;
 let q69 : Sp.Mk := (q65.1, q67 + q20, q66.2);
 let q70 : Sp.Mk := Sp.lpM q69;
 let q71 : Sp.Mk := Sp.blkM q70;
 let q72 : Int × Sp.Code × Unit := (Sp.md4 x.1.1).2;
 let q73 : Sp.Code × Unit := q72.2;
 let q74 : Sp.Code := q73.1;
 let q75 : Int × Int × Int × Int × List Sp.Arr × List Sp.Opd × List Sp.Block × Unit := q74.2;
 let q76 : Int × Int × Int × List Sp.Arr × List Sp.Opd × List Sp.Block × Unit := q75.2;
 let q77 : Int × Int × List Sp.Arr × List Sp.Opd × List Sp.Block × Unit := q76.2;
 let q78 : Int × List Sp.Arr × List Sp.Opd × List Sp.Block × Unit := q77.2;
 let q79 : List Sp.Arr × List Sp.Opd × List Sp.Block × Unit := q78.2;
 let q80 : List Sp.Opd × List Sp.Block × Unit := q79.2;
 let q81 : List Sp.Block × Unit := q80.2;
 let q82 : List Sp.Block := q81.1;
 let q83 : Nat := q82.length;
 let q84 : Int := (↑q83 : Int) - q20;
 let q85 : Nat := q84.toNat;
 let q86 : Sp.Block := q82.getD q85 q43;
 True ->
 dFact (tU8.slice.prod Ty.unit) x.1 /\ True ->
 q1 /\
 (q4 /\ True) /\
 (q0 /\ q9 /\ (True /\ True /\ q9 /\ (q13 /\ (q15 /\ q50) /\ q57) /\ q2) /\ (q13 /\ (q15 /\ True) /\ q58 /\ (True /\ q50 /\ q57) /\ (True /\ True /\ q58 /\ (True /\ q50 /\ q56) /\ q0) /\ q0) /\ q2) /\
 ∀ (x_1 : Unit),
 True ->
 q31 /\ True /\ dFact (tU8.slice.prod (tI.prod ((tI.prod (tI.prod (tI.prod (tI.prod (tI.prod (tArr.slice.prod (tLoop.slice.prod ((tInst.slice.prod ((tI.prod (tI.prod (tOpd.prod (tOpd.prod (tOpd.prod ((Ty.arr q30 tI).prod Ty.unit)))))).prod Ty.unit)).slice.prod Ty.unit)))))))).prod Ty.unit))) (Sp.md1 x.1.1) /\ True ->
 (((True /\ True) /\ (q10 <= q20 /\ q20 <= q12) /\ q33) /\
 (∃ (x_2 : Nat × Sp.Mk), (x_2.1 <= q30 /\ Sp.MkOK q30 x_2.2 /\ q20 <= Sp.gS x_2.2 /\ Sp.gS x_2.2 <= q19 /\ (q34 <= x_2.1 -> Sp.gS x_2.2 <= q21) /\ (q30 <= x_2.1 -> Sp.gS x_2.2 <= q20) /\ Sp.sbN x_2.1 x_2.2 = Sp.md2 x.1.1) /\ q35 /\ q7 /\ (x.1.1, q20 + q20, ((q19 :: q20 :: q21 :: q22 :: q23 :: ([] : List Int)).getD ((Sp.nxV (Sp.md0 x.1.1)).tmod (5 : Int)).toNat q11, q20, q23, q11, q29, Sp.arrs, ([] : List Sp.Loop), ([] : List Sp.Block), ()), ()) = x_2.2 /\ (Sp.nxV (Sp.md1 x.1.1)).tmod q29 = (↑x_2.1 : Int) /\ True) /\
 ∀ (x_2 : Nat × Sp.Mk),
 let q87 : Int := (↑x_2.1 : Int);
 let q88 : Bool := decide (q87 > q11);
 let q89 : Prop := (true && bif q88 then true else false) = true;
 let q90 : Prop := q89 -> True;
 let q91 : Int × Int × Int × Int × List Sp.Arr × List Sp.Opd × List Sp.Block × Unit := x_2.2.2.2.1.2;
 let q92 : Int := q21 * q91.1;
 let q93 : Prop := inK IntKind.i64 q92;
 let q94 : Int := x_2.2.2.2.1.1;
 let q95 : Bool := bif q88 then q94.tmod q92 == q11 else false;
 let q96 : Int := q87 - q20;
 x_2.1 <= q30 /\ Sp.MkOK q30 x_2.2 /\ q20 <= Sp.gS x_2.2 /\ Sp.gS x_2.2 <= q19 /\ (q34 <= x_2.1 -> Sp.gS x_2.2 <= q21) /\ (q30 <= x_2.1 -> Sp.gS x_2.2 <= q20) /\ Sp.sbN x_2.1 x_2.2 = Sp.md2 x.1.1 -> q31 /\ True /\ dFact (tU8.slice.prod (tI.prod ((tI.prod (tI.prod (tI.prod (tI.prod (tI.prod (tArr.slice.prod (tLoop.slice.prod ((tInst.slice.prod ((tI.prod (tI.prod (tOpd.prod (tOpd.prod (tOpd.prod ((Ty.arr q30 tI).prod Ty.unit)))))).prod Ty.unit)).slice.prod Ty.unit)))))))).prod Ty.unit))) x_2.2 /\ dFact tI q87 /\ True -> ((True /\ True /\ True /\ q90 /\ q90 /\ q90 /\ q90 /\ q90 /\ q90 /\ q90 /\ q90 /\ q90 /\ q90 /\ (q89 -> q93) /\ (q89 -> q92 ≠ q11) /\ q90 /\ True /\ True) /\ True) /\ (q95 = true -> ((True /\ True /\ True /\ True /\ True /\ True /\ q93 /\ q2) /\ True /\ True) /\ ((True /\ inK IntKind.i64 q96 /\ True /\ True) /\ True) /\ ∃ (y : Nat × Sp.Mk), (y.1 <= q30 /\ Sp.MkOK q30 y.2 /\ q20 <= Sp.gS y.2 /\ Sp.gS y.2 <= q19 /\ (q34 <= y.1 -> Sp.gS y.2 <= q21) /\ (q30 <= y.1 -> Sp.gS y.2 <= q20) /\ Sp.sbN y.1 y.2 = Sp.md2 x.1.1) /\ y.1 < x_2.1 /\ q35 /\ q7 /\ (x_2.2.1, x_2.2.2.1, (q94, q92, q91.2), x_2.2.2.2.2) = y.2 /\ q96 = (↑y.1 : Int) /\ True) /\ (q95 = false -> ∃ (x_3 : Unit), True /\ q35 /\ q7 /\ x_2.2 = Sp.md2 x.1.1 /\ True)) /\
 ∀ (x_2 : Unit),
 True ->
 q31 /\ True /\ dFact (tU8.slice.prod (tI.prod ((tI.prod (tI.prod (tI.prod (tI.prod (tI.prod (tArr.slice.prod (tLoop.slice.prod ((tInst.slice.prod ((tI.prod (tI.prod (tOpd.prod (tOpd.prod (tOpd.prod ((Ty.arr q30 tI).prod Ty.unit)))))).prod Ty.unit)).slice.prod Ty.unit)))))))).prod Ty.unit))) (Sp.md2 x.1.1) /\ True ->
 (((True /\ True) /\ (q10 <= q60 /\ q60 <= q12) /\ q33) /\
 (∃ (x_3 : Nat × Sp.Mk), (x_3.1 <= q30 /\ Sp.MkOK ((700 : Nat) - (310 : Nat) * x_3.1) x_3.2 /\ Sp.mdN x_3.1 x_3.2 = Sp.md3 x.1.1) /\ q35 /\ q7 /\ ((Sp.md2 x.1.1).1, q60 + q20, q59.2) = x_3.2 /\ (Sp.nxV (Sp.md2 x.1.1)).tmod q29 = (↑x_3.1 : Int) /\ True) /\
 ∀ (x_3 : Nat × Sp.Mk),
 let q97 : Int := (↑x_3.1 : Int);
 let q98 : Prop := dFact tI q97;
 let q99 : Prop := q98 /\ True;
 let q100 : Bool := decide (q97 > q11);
 let q101 : Sp.Mk := (x_3.2.1, x_3.2.2.1 + q20, x_3.2.2.2);
 let q102 : Int := (Sp.nxV x_3.2).tmod q29;
 let q103 : Prop := q97 = q97;
 let q104 : Prop := q103 /\ True;
 let q105 : Int := (Sp.q1 x_3.2).2.1;
 let q106 : Bool := (Sp.nxV (Sp.q1 x_3.2)).tmod q29 == q11;
 let q107 : Sp.Mk := ((Sp.q1 x_3.2).1, q105 + q20, (Sp.q1 x_3.2).2.2);
 let q108 : Sp.Mk := Sp.lpM q107;
 let q109 : Sp.Mk := Sp.q2 (Sp.q1 x_3.2);
 let q110 : Prop := dFact (tU8.slice.prod (tI.prod ((tI.prod (tI.prod (tI.prod (tI.prod (tI.prod (tArr.slice.prod (tLoop.slice.prod ((tInst.slice.prod ((tI.prod (tI.prod (tOpd.prod (tOpd.prod (tOpd.prod ((Ty.arr q30 tI).prod Ty.unit)))))).prod Ty.unit)).slice.prod Ty.unit)))))))).prod Ty.unit))) q109;
 let q111 : Int × Sp.Code × Unit := q109.2;
 let q112 : Sp.Code × Unit := q111.2;
 let q113 : Sp.Code := q112.1;
 let q114 : Int × Int × Int × Int × List Sp.Arr × List Sp.Opd × List Sp.Block × Unit := q113.2;
 let q115 : Int × Int × Int × List Sp.Arr × List Sp.Opd × List Sp.Block × Unit := q114.2;
 let q116 : Int × Int × List Sp.Arr × List Sp.Opd × List Sp.Block × Unit := q115.2;
 let q117 : Int × List Sp.Arr × List Sp.Opd × List Sp.Block × Unit := q116.2;
 let q118 : List Sp.Arr × List Sp.Opd × List Sp.Block × Unit := q117.2;
 let q119 : List Sp.Opd × List Sp.Block × Unit := q118.2;
 let q120 : List Sp.Block × Unit := q119.2;
 let q121 : List Sp.Block := q120.1;
 let q122 : Nat := q121.length;
 let q123 : Int := (↑q122 : Int) - q20;
 let q124 : Int := Sp.nB q109 - q20;
 let q125 : Prop := q98 /\ dFact tI q124 /\ True;
 let q126 : Int := q124 + q20;
 let q127 : Prop := inK IntKind.i64 q126;
 let q128 : List Int := q109.1;
 let q129 : Int := q111.1;
 let q130 : Int := q113.1;
 let q131 : Int := q114.1;
 let q132 : Int := q115.1;
 let q133 : Int := q116.1;
 let q134 : Int := q117.1;
 let q135 : List Sp.Arr := q118.1;
 let q136 : List Sp.Opd := q119.1;
 let q137 : Nat := q124.toNat;
 let q138 : Sp.Block := q121.getD q137 q43;
 let q139 : List Int × Unit := ((q41.set q44 q126).set q34 q11, ());
 let q140 : Sp.Mk := Sp.q3 q109;
 let q141 : Prop := q124 = q124;
 let q142 : Bool := (Sp.nxV q140).tmod q29 == q11;
 let q143 : Prop := True /\ q141;
 let q144 : Prop := q127 /\ q126 = q126;
 let q145 : Int := q129 + q20;
 let q146 : Prop := q10 <= q145 /\ q145 <= q12;
 let q147 : List Sp.Block := Sp.setT (Sp.cB q113) q124 (Sp.tJ q29 q126 q11);
 let q148 : Sp.Code × Unit := (Sp.setB q113 q147, ());
 let q149 : Sp.Mk := (q128, q145, q148);
 let q150 : Int := (Sp.nxV q149).tmod q23;
 let q151 : Int := q20 + q150;
 let q152 : Prop := inK IntKind.i64 q151;
 let q153 : Prop := q47 /\ q152 /\ True;
 let q154 : Prop := (q47 /\ q150 = q150) /\ (q152 /\ q151 = q151) /\ True;
 let q155 : Prop := q143 /\ q144 /\ q154;
 let q156 : Prop := q8 /\ q155;
 let q157 : Prop := q8 /\ q156;
 let q158 : Int := q145 + q20;
 let q159 : Sp.Mk := (q128, q158, q148);
 let q160 : Prop := Sp.MkOK q39 q159;
 let q161 : Int := q158 + q20;
 let q162 : Sp.Mk := (q128, q161, q148);
 let q163 : Prop := Sp.MkOK q39 q162;
 let q164 : Int := q161 + q20;
 let q165 : Sp.Mk := (q128, q164, q148);
 let q166 : Prop := Sp.MkOK q39 q165;
 let q167 : Prop := inN q124 q147.length;
 let q168 : List Step := Step.snd :: Step.snd :: Step.fst :: Step.snd :: Step.snd :: Step.snd :: Step.snd :: Step.snd :: Step.snd :: Step.snd :: Step.fst :: Step.idx q137 :: ([] : List Step);
 let q169 : List Step := Step.snd :: Step.snd :: Step.fst :: Step.snd :: Step.snd :: Step.snd :: Step.snd :: Step.snd :: Step.snd :: Step.snd :: Step.fst :: Step.idx q137 :: q26;
 let q170 : Sp.Block := q147.getD q137 q43;
 let q171 : Prop := True /\ (q8 /\ q8 /\ q28 /\ q46 /\ q46 /\ q143 /\ q154) /\ (True /\ (q167 /\ True /\ True) /\ (q8 /\ q8 /\ q28 /\ q46 /\ q46 /\ q143 /\ (q167 /\ q6 /\ q168 = q168) /\ (True /\ q6 /\ q169 = q169) /\ True) /\ (True /\ True /\ True /\ ∃ (x : Unit), True /\ q35 /\ q7 /\ (q128, q164 + q20, (q130, q131, q132, q133, q134, q135, q136, q147.set q137 (q170.1, (q19, q151, Sp.regV q159, Sp.valV q162, Sp.valV q165, q139), q170.2.2), ()), ()) = Sp.mdS x_3.2 /\ q104) /\ True) /\ True /\ True;
 let q172 : Prop := q8 /\ q154;
 let q173 : Prop := True /\ (q8 /\ q8 /\ q28 /\ q46 /\ q46 /\ q143 /\ q172) /\ (q166 /\ q171) /\ q0;
 let q174 : Prop := q8 /\ q172;
 let q175 : Prop := True /\ (q8 /\ q8 /\ q28 /\ q46 /\ q46 /\ q143 /\ q174) /\ (q163 /\ q173) /\ q2;
 let q176 : Prop := (q8 /\ q8 /\ q28 /\ q46 /\ q46 /\ q143 /\ q8 /\ q174) /\ (q160 /\ q175) /\ q3;
 let q177 : Int := q97 - q20;
 x_3.1 <= q30 /\ Sp.MkOK ((700 : Nat) - (310 : Nat) * x_3.1) x_3.2 /\ Sp.mdN x_3.1 x_3.2 = Sp.md3 x.1.1 -> q31 /\ True /\ dFact (tU8.slice.prod (tI.prod ((tI.prod (tI.prod (tI.prod (tI.prod (tI.prod (tArr.slice.prod (tLoop.slice.prod ((tInst.slice.prod ((tI.prod (tI.prod (tOpd.prod (tOpd.prod (tOpd.prod ((Ty.arr q30 tI).prod Ty.unit)))))).prod Ty.unit)).slice.prod Ty.unit)))))))).prod Ty.unit))) x_3.2 /\ q99 -> q1 /\ (q100 = true -> (((q0 /\ (q10 <= x_3.2.2.1 /\ x_3.2.2.1 <= q12) /\ q32 /\ (Sp.MkOK q36 q101 /\ q37 <= q102 /\ q102 <= q38) /\ True) /\ ∃ (x : Unit), True /\ q35 /\ q7 /\ Sp.rgM q101 q102 = Sp.q1 x_3.2 /\ q104) /\ ∀ (x : Unit), True -> q31 /\ True /\ dFact (tU8.slice.prod (tI.prod ((tI.prod (tI.prod (tI.prod (tI.prod (tI.prod (tArr.slice.prod (tLoop.slice.prod ((tInst.slice.prod ((tI.prod (tI.prod (tOpd.prod (tOpd.prod (tOpd.prod ((Ty.arr q30 tI).prod Ty.unit)))))).prod Ty.unit)).slice.prod Ty.unit)))))))).prod Ty.unit))) (Sp.q1 x_3.2) /\ q99 -> (((True /\ True) /\ (q10 <= q105 /\ q105 <= q12) /\ q33) /\ (q106 = true -> ((True /\ True) /\ (Sp.MkOK q36 q107 /\ Sp.has q107) /\ True) /\ ((True /\ True) /\ Sp.MkOK q39 q108 /\ True) /\ ∃ (x : Unit), True /\ q35 /\ q7 /\ Sp.blkM q108 = q109 /\ q104) /\ (q106 = false -> ∃ (x : Unit), True /\ q35 /\ q7 /\ q107 = q109 /\ q104)) /\ ∀ (x : Unit), True -> q31 /\ True /\ q110 /\ q99 -> (((True /\ True /\ True /\ True /\ True /\ True /\ inK IntKind.i64 q123 /\ True /\ True) /\ True) /\ ∃ (x : Unit), True /\ q35 /\ q7 /\ q109 = q109 /\ q103 /\ q123 = q124 /\ True) /\ ∀ (x : Unit), True -> q31 /\ True /\ q110 /\ q125 -> (((True /\ True /\ True /\ True /\ True /\ True /\ True /\ q127 /\ True /\ True /\ inN q124 q122 /\ True /\ True) /\ True /\ True) /\ ∃ (x : Unit), True /\ q35 /\ q7 /\ (q128, q129, (q130, q131, q132, q133, q134, q135, q136, q121.set q137 (q138.1, (q29, q11, q40, q40, q40, q139), q138.2.2), q120.2), q112.2) = q140 /\ q103 /\ q141 /\ True) /\ ∀ (x : Unit), True -> q31 /\ True /\ dFact (tU8.slice.prod (tI.prod ((tI.prod (tI.prod (tI.prod (tI.prod (tI.prod (tArr.slice.prod (tLoop.slice.prod ((tInst.slice.prod ((tI.prod (tI.prod (tOpd.prod (tOpd.prod (tOpd.prod ((Ty.arr q30 tI).prod Ty.unit)))))).prod Ty.unit)).slice.prod Ty.unit)))))))).prod Ty.unit))) q140 /\ q125 -> ((True /\ True) /\ (q10 <= q129 /\ q129 <= q12) /\ q33) /\ (q142 = true -> (True /\ True /\ True /\ True /\ True /\ True /\ True /\ True /\ True /\ True /\ True /\ q127 /\ True) /\ (q8 /\ q8 /\ q28 /\ q46 /\ q46 /\ q143 /\ q8 /\ q8 /\ q8 /\ q8 /\ q143 /\ q144 /\ True) /\ (q146 /\ q153 /\ (q8 /\ q8 /\ q28 /\ q46 /\ q46 /\ q143 /\ q8 /\ q157) /\ (q160 /\ True /\ (q8 /\ q8 /\ q28 /\ q46 /\ q46 /\ q143 /\ q157) /\ (q163 /\ True /\ (q8 /\ q8 /\ q28 /\ q46 /\ q46 /\ q143 /\ q156) /\ (q166 /\ True /\ (q8 /\ q8 /\ q28 /\ q46 /\ q46 /\ q143 /\ q155) /\ (True /\ q171) /\ q0) /\ (True /\ q173) /\ q0) /\ True /\ (True /\ q175) /\ q0) /\ True /\ True /\ (True /\ True /\ q176) /\ q0) /\ True /\ True /\ True /\ (True /\ True /\ (q8 /\ q8 /\ q28 /\ q46 /\ q46 /\ q143 /\ q8 /\ q8 /\ q9) /\ (q146 /\ q153 /\ q176) /\ q4) /\ q0) /\ (q142 = false -> ∃ (x : Unit), True /\ q35 /\ q7 /\ q149 = Sp.mdS x_3.2 /\ q104)) /\ ∀ (x_4 : Unit), True -> q31 /\ True /\ dFact (tU8.slice.prod (tI.prod ((tI.prod (tI.prod (tI.prod (tI.prod (tI.prod (tArr.slice.prod (tLoop.slice.prod ((tInst.slice.prod ((tI.prod (tI.prod (tOpd.prod (tOpd.prod (tOpd.prod ((Ty.arr q30 tI).prod Ty.unit)))))).prod Ty.unit)).slice.prod Ty.unit)))))))).prod Ty.unit))) (Sp.mdS x_3.2) /\ q99 -> ((True /\ inK IntKind.i64 q177 /\ True /\ True) /\ True) /\ ∃ (y : Nat × Sp.Mk), (y.1 <= q30 /\ Sp.MkOK ((700 : Nat) - (310 : Nat) * y.1) y.2 /\ Sp.mdN y.1 y.2 = Sp.md3 x.1.1) /\ y.1 < x_3.1 /\ q35 /\ q7 /\ Sp.mdS x_3.2 = y.2 /\ q177 = (↑y.1 : Int) /\ True) /\ (q100 = false -> ∃ (x_4 : Unit), True /\ q35 /\ q7 /\ x_3.2 = Sp.md3 x.1.1 /\ True)) /\
 ∀ (x_3 : Unit), True -> q31 /\ True /\ dFact (tU8.slice.prod (tI.prod ((tI.prod (tI.prod (tI.prod (tI.prod (tI.prod (tArr.slice.prod (tLoop.slice.prod ((tInst.slice.prod ((tI.prod (tI.prod (tOpd.prod (tOpd.prod (tOpd.prod ((Ty.arr q30 tI).prod Ty.unit)))))).prod Ty.unit)).slice.prod Ty.unit)))))))).prod Ty.unit))) (Sp.md3 x.1.1) /\ True -> ((q0 /\ (q10 <= q62 /\ q62 <= q12) /\ q32 /\ (Sp.MkOK q36 q63 /\ q37 <= q64 /\ q64 <= q38) /\ True) /\ ∃ (x : Unit), True /\ q35 /\ q7 /\ Sp.rgM q63 q64 = q65 /\ True) /\ ∀ (x_4 : Unit), True -> q31 /\ True /\ dFact (tU8.slice.prod (tI.prod ((tI.prod (tI.prod (tI.prod (tI.prod (tI.prod (tArr.slice.prod (tLoop.slice.prod ((tInst.slice.prod ((tI.prod (tI.prod (tOpd.prod (tOpd.prod (tOpd.prod ((Ty.arr q30 tI).prod Ty.unit)))))).prod Ty.unit)).slice.prod Ty.unit)))))))).prod Ty.unit))) q65 /\ True -> (((True /\ True) /\ (q10 <= q67 /\ q67 <= q12) /\ q33) /\ (q68 = true -> ((True /\ True) /\ (Sp.MkOK q36 q69 /\ Sp.has q69) /\ True) /\ ((True /\ True) /\ Sp.MkOK q39 q70 /\ True) /\ ((True /\ True) /\ (Sp.MkOK (4500 : Nat) q71 /\ Sp.has q71) /\ True) /\ ∃ (x_5 : Unit), True /\ q35 /\ q7 /\ Sp.insM q71 = Sp.md4 x.1.1 /\ True) /\ (q68 = false -> ∃ (x_5 : Unit), True /\ q35 /\ q7 /\ q69 = Sp.md4 x.1.1 /\ True)) /\ ∀ (x_5 : Unit), True -> q31 /\ True /\ dFact (tU8.slice.prod (tI.prod ((tI.prod (tI.prod (tI.prod (tI.prod (tI.prod (tArr.slice.prod (tLoop.slice.prod ((tInst.slice.prod ((tI.prod (tI.prod (tOpd.prod (tOpd.prod (tOpd.prod ((Ty.arr q30 tI).prod Ty.unit)))))).prod Ty.unit)).slice.prod Ty.unit)))))))).prod Ty.unit))) (Sp.md4 x.1.1) /\ True -> (((True /\ True /\ True /\ True /\ True /\ True /\ True /\ True /\ True /\ True /\ True /\ inK IntKind.i64 q84 /\ True /\ inN q84 q83 /\ True /\ True) /\ True /\ True) /\ ∃ (x_6 : Unit), True /\ q35 /\ q7 /\ ((Sp.md4 x.1.1).1, q72.1, (q74.1, q75.1, q76.1, q77.1, q78.1, q79.1, q80.1, q82.set q85 (q86.1, (q14, q42), q86.2.2), q81.2), q73.2) = Sp.md5 x.1.1 /\ True) /\ ∀ (x_6 : Unit), True -> q31 /\ True /\ dFact (tU8.slice.prod (tI.prod ((tI.prod (tI.prod (tI.prod (tI.prod (tI.prod (tArr.slice.prod (tLoop.slice.prod ((tInst.slice.prod ((tI.prod (tI.prod (tOpd.prod (tOpd.prod (tOpd.prod ((Ty.arr q30 tI).prod Ty.unit)))))).prod Ty.unit)).slice.prod Ty.unit)))))))).prod Ty.unit))) (Sp.md5 x.1.1) /\ True -> (q3 /\ True /\ True) /\ Sp.setB q74 (Sp.setT (Sp.cB q74) (Sp.nB (Sp.md4 x.1.1) - q20) (Sp.tJ q14 q11 q11)) = Sp.madeC x.1.1) := by kernel_rfl
end Go.User
namespace Sp
theorem fst_inst (s : Mk) : (instM s).1 = s.1 := by
 unfold instM instF
 repeat' split
 all_goals rfl
theorem fst_instN : ∀ (k : Nat) (s : Mk), (instN k s).1 = s.1
 | 0, s => rfl
 | k + 1, s => (fst_instN k (instM s)).trans (fst_inst s)
theorem fst_ins (s : Mk) : (insM s).1 = s.1 := fst_instN _ (nxM s)
theorem fst_rg2 (b last : Int) (s : Mk) : (rg2 b last s).1 = s.1 := rg2_cases (fun t => t.1 = s.1) b last s rfl rfl
theorem fst_rgN (last : Int) : ∀ (k : Nat) (s : Mk), (rgN last k s).1 = s.1
 | 0, s => rfl
 | k + 1, s => (fst_rgN last k _).trans ((fst_rg2 _ _ _).trans (fst_ins s))
theorem fst_rg (s : Mk) (n : Int) : (rgM s n).1 = s.1 := (fst_ins _).trans (fst_rgN _ _ (blkM s))
def Byt (s : Mk) : Prop := ∀ v ∈ s.1, 0 <= v /\ v <= 255
theorem Byt.to {s t : Mk} (h : Byt s) (e : t.1 = s.1) : Byt t := fun v hv => h v (e ▸ hv)
theorem MkOK.rgN {last : Int} : ∀ {k n : Nat} {s : Mk}, MkOK n s -> Byt s -> MkOK (n + 55 * k) (rgN last k s) /\ lenB (Sp.rgN last k s) = lenB s + k
 | 0, n, s, h, hb => ⟨h, rfl⟩
 | k + 1, n, s, h, hb => by
  have h1 := (rg_facts h hb (last - ((k + 1 : Nat) : Int)) last).2.2.2
  have h2 := (rg_len (last - ((k + 1 : Nat) : Int)) last s).2.2
  obtain ⟨h3, h4⟩ := MkOK.rgN (last := last) (k := k) h1 (hb.to ((fst_rg2 _ _ _).trans (fst_ins s)));exact ⟨h3.mono (by omega), by show lenB (Sp.rgN last k _) = _; rw [h4, h2]; omega⟩
theorem MkOK.rg {n : Nat} {s : Mk} {k : Int} (h : MkOK n s) (hb : Byt s) (h0 : 0 <= k) (h2 : k <= 2) : MkOK (n + 161) (rgM s k) /\ has (rgM s k) := by
 have h1 := MkOK.rgN (last := nB s + k) (k := k.toNat) h.bl hb
 have h3 := h1.1.insM (hb.to (fst_rgN _ _ (blkM s)))
 refine ⟨h3.mono (by omega), has_iff.2 ?_⟩
 have e : lenB (rgM s k) = lenB (blkM s) + k.toNat := (lenB_ins _).trans h1.2
 rw [e, lenB_blk]; omega
theorem fst_lp6 (s : Mk) : (lp6 s).1 = s.1 := fst_ins _
theorem lp_cases (P : Mk -> Prop) (s : Mk) (h1 : P (wT (nxM (nxM (lp6 s))) (nB s + 1) (tB (regV (nxM (lp6 s))) (nB s) (nB s + 2)))) (h2 : P (nxM (lp6 s))) : P (lpM s) := by
 unfold lpM
 split
 ·exact h1
 ·exact h2
theorem fst_lp (s : Mk) : (lpM s).1 = s.1 := lp_cases (fun t => t.1 = s.1) s (fst_lp6 s) (fst_lp6 s)
theorem MkOK.lp {n : Nat} {s : Mk} (h : MkOK n s) (hh : has s) (hb : Byt s) : MkOK (n + 59) (lpM s) /\ has (lpM s) := by
 have h1 := (lp_facts h hh hb).2.2.2.2.2.2.2.2.2
 have h2 := (lp_len s).2.2.2.2.2
 refine lp_cases (fun t => MkOK (n + 59) t /\ has t) s ⟨h1.nx.nx.wT _ _, has_iff.2 ?_⟩ ⟨h1.nx.mono (by omega), has_iff.2 ?_⟩
 ·rw [lenB_wT]; show 0 < lenB (lp6 s); omega
 ·show 0 < lenB (lp6 s); omega
theorem bd3 (s : Mk) (hb : Byt s) : 0 <= Int.tmod (nxV s) 3 /\ Int.tmod (nxV s) 3 <= 2 := by
 have := tmod_bd (nxV_bd s hb).1 (k := 3) (by decide)
 omega
theorem fst_q1 (s : Mk) : (q1 s).1 = s.1 := fst_rg (nxM s) _
theorem MkOK.q1 {n : Nat} {s : Mk} (h : MkOK n s) (hb : Byt s) : MkOK (n + 162) (q1 s) /\ has (Sp.q1 s) := by
 obtain ⟨h1, h2⟩ := bd3 s hb
 obtain ⟨h3, h4⟩ := MkOK.rg h.nx (s := nxM s) hb h1 h2
 exact ⟨h3.mono (by omega), h4⟩
theorem q2_cases (P : Mk -> Prop) (s : Mk) (h1 : P (blkM (lpM (nxM s)))) (h2 : P (nxM s)) : P (q2 s) := by
 unfold q2
 split
 ·exact h1
 ·exact h2
theorem fst_q2 (s : Mk) : (q2 s).1 = s.1 := q2_cases (fun t => t.1 = s.1) s (fst_lp (nxM s)) rfl
theorem MkOK.q2 {n : Nat} {s : Mk} (h : MkOK n s) (hh : has s) (hb : Byt s) : MkOK (n + 61) (q2 s) /\ has (Sp.q2 s) := by
 obtain ⟨h1, h2⟩ := MkOK.lp h.nx (s := nxM s) hh hb
 refine q2_cases (fun t => MkOK (n + 61) t /\ has t) s ⟨h1.bl.mono (by omega), has_iff.2 ?_⟩ ⟨h.nx.mono (by omega), hh⟩
 rw [lenB_blk]; omega
theorem q4_cases (P : Mk -> Prop) (b : Int) (s : Mk) (h1 : P (wT (nxM (nxM (nxM (nxM (nxM s))))) b (tC (nxM s) b))) (h2 : P (nxM s)) : P (q4 b s) := by
 unfold q4
 split
 ·exact h1
 ·exact h2
theorem fst_q4 (b : Int) (s : Mk) : (q4 b s).1 = s.1 := q4_cases (fun t => t.1 = s.1) b s rfl rfl
theorem MkOK.q4 {n : Nat} {s : Mk} (b : Int) (h : MkOK n s) : MkOK (n + 5) (q4 b s) := q4_cases (fun t => MkOK (n + 5) t) b s (h.nx.nx.nx.nx.nx.wT _ _) (h.nx.mono (by omega))
theorem fst_mdS (s : Mk) : (mdS s).1 = s.1 := (fst_q4 _ _).trans ((fst_q2 _).trans (fst_q1 s))
theorem MkOK.mdS {n : Nat} {s : Mk} (h : MkOK n s) (hb : Byt s) : MkOK (n + 228) (mdS s) := by
 obtain ⟨h1, h2⟩ := h.q1 hb
 obtain ⟨h3, h4⟩ := h1.q2 h2 (hb.to (fst_q1 s))
 exact (h3.wT _ _).q4 _
theorem MkOK.mdN : ∀ {k n : Nat} {s : Mk}, MkOK n s -> Byt s -> MkOK (n + 228 * k) (mdN k s) /\ (Sp.mdN k s).1 = s.1
 | 0, n, s, h, hb => ⟨h, rfl⟩
 | k + 1, n, s, h, hb => by
  obtain ⟨h3, h4⟩ := MkOK.mdN (k := k) (h.mdS hb) (hb.to (fst_mdS s));exact ⟨h3.mono (by omega), h4.trans (fst_mdS s)⟩
theorem MkOK.wS {n : Nat} {s : Mk} (h : MkOK n s) (k : Int) : MkOK n (wS s k) := ⟨h.at0, h.at1, h.arr, h.blk, h.ins, h.lps⟩
theorem MkOK.sbN : ∀ {k n : Nat} {s : Mk}, MkOK n s -> MkOK n (sbN k s) /\ (Sp.sbN k s).1 = s.1
 | 0, n, s, h => ⟨h, rfl⟩
 | k + 1, n, s, h => by
  show MkOK n (if _ then _ else _) /\ Prod.fst (if _ then _ else _) = _
  split
  ·exact MkOK.sbN (h.wS _)
  ·exact ⟨h, rfl⟩
theorem MkOK.md1 (L : List Int) : MkOK 1 (md1 L) := ⟨Int.le_of_lt Int.zero_lt_one, Int.le_refl _, rfl, Nat.zero_le _, fun b hb => (List.not_mem_nil hb).elim, Nat.zero_le _⟩
theorem MkOK.md2 (L : List Int) : MkOK 2 (md2 L) /\ (Sp.md2 L).1 = L := MkOK.sbN (MkOK.md1 L).nx
theorem MkOK.md3 (L : List Int) (hb : Byt (Sp.md0 L)) : MkOK 500 (md3 L) /\ (Sp.md3 L).1 = L := by
 obtain ⟨h1, h2⟩ := MkOK.md2 L
 have hb2 : Byt (Sp.md2 L) := hb.to h2
 have hk := bd3 _ hb2
 obtain ⟨h3, h4⟩ := MkOK.mdN (k := (Int.tmod (nxV (Sp.md2 L)) 3).toNat) (s := nxM (Sp.md2 L)) h1.nx hb2
 unfold Sp.md3
 exact ⟨h3.mono (by omega), h4.trans h2⟩
theorem q5_cases (P : Mk -> Prop) (s : Mk) (h1 : P (insM (blkM (lpM (nxM s))))) (h2 : P (nxM s)) : P (q5 s) := by
 unfold q5
 split
 ·exact h1
 ·exact h2
theorem MkOK.q5 {n : Nat} {s : Mk} (h : MkOK n s) (hh : has s) (hb : Byt s) : MkOK (n + 112) (q5 s) /\ has (Sp.q5 s) /\ (Sp.q5 s).1 = s.1 := by
 obtain ⟨h5, h6⟩ := MkOK.lp h.nx (s := nxM s) hh hb
 have e : (lpM (nxM s)).1 = s.1 := fst_lp (nxM s)
 have hb5 : Byt (lpM (nxM s)) := hb.to e
 have h7 := h5.bl.insM (s := blkM (lpM (nxM s))) hb5
 have e2 : (Sp.insM (blkM (lpM (nxM s)))).1 = s.1 := (fst_ins _).trans e
 have h8 : has (Sp.insM (blkM (lpM (nxM s)))) := has_iff.2 (by rw [lenB_ins, lenB_blk]; omega)
 exact q5_cases (fun t => MkOK (n + 112) t /\ has t /\ t.1 = s.1) s ⟨h7.mono (by omega), h8, e2⟩ ⟨h.nx.mono (by omega), hh, rfl⟩
theorem MkOK.md4 (L : List Int) (hb : Byt (Sp.md0 L)) : MkOK 800 (md4 L) /\ has (Sp.md4 L) /\ (Sp.md4 L).1 = L := by
 obtain ⟨h1, h2⟩ := MkOK.md3 L hb
 have hb3 : Byt (Sp.md3 L) := hb.to h2
 obtain ⟨h3, h4⟩ := h1.q1 hb3
 have hb4 : Byt (Sp.q1 (Sp.md3 L)) := hb3.to (fst_q1 _)
 obtain ⟨h5, h6, h7⟩ := h3.q5 h4 hb4
 unfold Sp.md4
 exact ⟨h5.mono (by decide), h6, h7.trans ((fst_q1 _).trans h2)⟩
end Sp
namespace Go.User
open Go.Lf Go.Proofs
theorem at_of {n : Nat} {s : Sp.Mk} (h : Sp.MkOK n s) (hn : n <= 5000) : 0 <= s.2.1 /\ s.2.1 <= 5000 := ⟨h.at0, by have := h.at1; omega⟩
theorem k3 : ¬((3 : Int) = 0) := by decide
theorem k5 : ¬((5 : Int) = 0) := by decide
theorem k6 : ¬((6 : Int) = 0) := by decide
set_option maxHeartbeats 4000000 in
set_option maxRecDepth 100000 in
theorem ok21 : FOk Try.prog 21 S21 := by
 have hC : CtxOK Try.prog C21 := okM' 0 (fns_cons ok46 fns_nil) (ptr_cons pk47 (ptr_cons pk48 (ptr_cons pk49 (ptr_cons pk50 (ptr_cons pk51 (ptr_cons pk52 ptrs_nil)))))) rfl rfl rfl rfl rfl rfl
 refine FOk.introT hC (stpN_ok hC numsO_ok) Try.call21 Try.func21 rfl (by kernel_rfl) T21 ?_
 rw [vc21]
 simp only [zz, zy]
 rintro ⟨⟨L, u⟩, u2⟩ hx
 dsimp only
 have hb : Sp.Byt (Sp.md0 L) := bytes_of hx.1
 have hI : ∀ z : Int, -10 <= z -> z <= 100000 -> inK .i64 z := fun z _ _ => inK_mid (by omega) (by omega)
 have m1 := Sp.MkOK.md1 L
 obtain ⟨m2, e2⟩ := Sp.MkOK.md2 L
 have hb2 : Sp.Byt (Sp.md2 L) := hb.to e2
 obtain ⟨m3, e3⟩ := Sp.MkOK.md3 L hb
 have hb3 : Sp.Byt (Sp.md3 L) := hb.to e3
 obtain ⟨m4, h4, e4⟩ := Sp.MkOK.md4 L hb
 have hb1 : Sp.Byt (Sp.md1 L) := hb
 have d1 := Sp.bd3 _ hb1
 have d2 := Sp.bd3 _ hb2
 have d3 := Sp.bd3 _ hb3
 refine ⟨?_, fun _ => ⟨?_, fun _ => ⟨?_, fun _ => ⟨?_, fun _ => ⟨?_, fun _ => ⟨?_, fun _ => ?_⟩⟩⟩⟩⟩⟩
 ·have a1 : inN ((Sp.nxV (L, 0, (0, 0, 0, 0, 0, [], [], [], ()), ())).tmod 5) 5 := inN_t (Sp.md0 L) hb 5 (by decide)
  have a2 : (0 : Int) <= 0 /\ (0 : Int) <= 5000 := ⟨Int.le_refl _, by decide⟩
  repeat' first | exact a1 | exact a2 | exact k5 | exact ⟨(), rfl, rfl⟩ | constructor
 ·refine ⟨⟨at_of m1 (by decide), k3⟩, ⟨((Int.tmod (Sp.nxV (Sp.md1 L)) 3).toNat, Sp.nxM (Sp.md1 L)), ⟨by dsimp only; omega, m1.nx, ?_, ?_, ?_, ?_, rfl⟩, rfl, by dsimp only; omega⟩, ?_⟩
  ·show (1 : Int) <= 1; decide
  ·show (1 : Int) <= 4; decide
  ·intro _; show (1 : Int) <= 2; decide
  ·intro _; show (1 : Int) <= 1; decide
  rintro ⟨k, s⟩
  dsimp only
  rintro ⟨g1, g2, g3, g4, g5, g6, g7⟩ _
  have g3 : 1 <= s.2.2.1.2.1 := g3
  have g4 : s.2.2.1.2.1 <= 4 := g4
  have a1 : inK .i64 (2 * s.2.2.1.2.1) := hI _ (by omega) (by omega)
  refine ⟨⟨fun _ => a1, fun _ => by omega⟩, ?_, ?_⟩
  ·rintro ⟨c1, c2⟩
   obtain ⟨j, rfl⟩ : ∃ j, k = j + 1 := ⟨k - 1, by omega⟩
   have g5 : s.2.2.1.2.1 <= 2 := g5 (by omega)
   refine ⟨a1, hI _ (by omega) (by omega), (j, Sp.wS s (2 * Sp.gS s)), ⟨by dsimp only; omega, g2.wS _, ?_, ?_, ?_, ?_, ?_⟩, by dsimp only; omega, rfl, by dsimp only; omega⟩
   ·show 1 <= 2 * s.2.2.1.2.1; omega
   ·show 2 * s.2.2.1.2.1 <= 4; omega
   ·intro h
    have g6 : s.2.2.1.2.1 <= 1 := g6 (by dsimp only at h; omega)
    show 2 * s.2.2.1.2.1 <= 2; omega
   ·intro h; dsimp only at h; omega
   ·rw [<- g7]
    show _ = (if _ then _ else _)
    have c3 : Int.tmod (Sp.gG s) (2 * Sp.gS s) = 0 := c2
    rw [if_pos c3]
  ·intro hf
   refine ⟨(), ?_⟩
   rw [<- g7];cases k with
   | zero => rfl
   | succ j =>
    show _ = (if _ then _ else _)
    rw [if_neg];intro c;have c : s.2.2.1.1.tmod (2 * s.2.2.1.2.1) = 0 := c;rw [c] at hf;have h0 : (0 : Int) < ((j + 1 : Nat) : Int) := by omega
    rw [decide_eq_true h0] at hf;exact absurd hf (by decide)
 ·refine ⟨⟨at_of m2 (by decide), k3⟩, ⟨((Int.tmod (Sp.nxV (Sp.md2 L)) 3).toNat, Sp.nxM (Sp.md2 L)), ⟨by dsimp only; omega, m2.nx.mono (by dsimp only; omega), rfl⟩, rfl, by dsimp only; omega⟩, ?_⟩
  rintro ⟨k, s⟩
  dsimp only
  rintro ⟨g1, g2, g3⟩ hd
  have hbs : Sp.Byt s := bytes_of hd.2.1.1
  refine ⟨fun hk => ?_, fun hk => ⟨(), ?_⟩⟩
  ·obtain ⟨n1, n2⟩ := g2.q1 hbs
   have hbq : Sp.Byt (Sp.q1 s) := hbs.to (Sp.fst_q1 s)
   obtain ⟨n3, n4⟩ := n1.q2 n2 hbq;have hbq2 : Sp.Byt (Sp.q2 (Sp.q1 s)) := hbq.to (Sp.fst_q2 _);obtain ⟨n5, n6⟩ := Sp.MkOK.lp n1.nx (s := Sp.nxM (Sp.q1 s)) n2 hbq;have ds := Sp.bd3 _ hbs;have hl : (Sp.cB (Sp.q2 (Sp.q1 s)).2.2.1).length <= 5000 := Nat.le_trans n3.blk (by omega);have hl0 : 0 < (Sp.cB (Sp.q2 (Sp.q1 s)).2.2.1).length := n4;have n0 : Sp.nB (Sp.q2 (Sp.q1 s)) = ((Sp.cB (Sp.q2 (Sp.q1 s)).2.2.1).length : Int) := rfl;have a1 : inK .i64 (Sp.nB (Sp.q2 (Sp.q1 s)) - 1 + 1) := hI _ (by omega) (by omega);have a2 : inK .i64 (Sp.nB (Sp.q2 (Sp.q1 s)) - 1) := hI _ (by omega) (by omega);have a3 : inN (Sp.nB (Sp.q2 (Sp.q1 s)) - 1) (Sp.lenB (Sp.q2 (Sp.q1 s))) := by rw [n0]; exact inN_last hl0
   have n7 : Sp.MkOK (700 - 310 * k + 162 + 61) (Sp.q3 (Sp.q2 (Sp.q1 s))) := n3.wT _ _
   have a4 : inN (Sp.nB (Sp.q2 (Sp.q1 s)) - 1) (Sp.lenB (Sp.q3 (Sp.q2 (Sp.q1 s)))) := by
    have e : Sp.lenB (Sp.q3 (Sp.q2 (Sp.q1 s))) = Sp.lenB (Sp.q2 (Sp.q1 s)) := Sp.lenB_wT _ _ _
    rw [e]; exact a3
   have hbq3 : Sp.Byt (Sp.q3 (Sp.q2 (Sp.q1 s))) := hbq2
   have n8 := g2.mdS hbs
   have t0 := at_of n7 (by omega)
   refine ⟨⟨⟨⟨at_of g2 (by omega), k3, g2.nx.mono (by omega), ds.1, ds.2⟩, (), rfl⟩, fun _ => ⟨⟨⟨at_of n1 (by omega), k3⟩, fun c => ⟨⟨n1.nx.mono (by omega), n2⟩, n5.mono (by omega), (), ?_⟩, fun c => ⟨(), ?_⟩⟩, fun _ => ⟨⟨a2, (), rfl⟩, fun _ => ⟨⟨⟨a1, a3⟩, (), rfl⟩, fun _ => ⟨⟨t0, k3⟩, fun c => ?_, fun c => ⟨(), ?_⟩⟩⟩⟩⟩⟩, fun _ => ?_⟩
   ·unfold Sp.q2
    rw [if_pos c]
    rfl
   ·unfold Sp.q2
    rw [if_neg c]
    rfl
   ·have E : ∀ A, A = Sp.wT (Sp.nxM (Sp.nxM (Sp.nxM (Sp.nxM (Sp.nxM (Sp.q3 (Sp.q2 (Sp.q1 s)))))))) (Sp.nB (Sp.q2 (Sp.q1 s)) - 1) (Sp.tC (Sp.nxM (Sp.q3 (Sp.q2 (Sp.q1 s)))) (Sp.nB (Sp.q2 (Sp.q1 s)) - 1)) -> A = Sp.mdS s := by
     rintro A rfl
     unfold Sp.mdS Sp.q4;rw [if_pos c]
    clear hx hd n8 n5 n6 n3 n4 t0 a2 a3;have n7 : Sp.MkOK 930 (Sp.q3 (Sp.q2 (Sp.q1 s))) := n7.mono (by omega);generalize Sp.q2 (Sp.q1 s) = z at *;have z0 : 0 <= z.2.1 := n7.at0;have z1 : z.2.1 <= 930 := n7.at1;have T : ∀ a : Int, 0 <= a -> a <= 5000 -> Sp.MkOK 5000 (z.1, a, Sp.setB z.2.2.1 (Sp.setT (Sp.cB z.2.2.1) (Sp.nB z - 1) (Sp.tJ 3 (Sp.nB z - 1 + 1) 0)), ()) := fun a h0 h1 =>
     ⟨h0, h1, n7.arr, Nat.le_trans n7.blk (by decide), fun b hb => Nat.le_trans (n7.ins b hb) (by decide), Nat.le_trans n7.lps (by decide)⟩
    have t1 : 0 <= z.2.1 + 1 /\ z.2.1 + 1 <= 5000 := ⟨by omega, by omega⟩
    have t2 := T (z.2.1 + 1 + 1) (by omega) (by omega)
    have t3 := T (z.2.1 + 1 + 1 + 1) (by omega) (by omega)
    have t4 := T (z.2.1 + 1 + 1 + 1 + 1) (by omega) (by omega)
    have t5 : inK .i64 (1 + (Sp.nxV (z.1, z.2.1 + 1, Sp.setB z.2.2.1 (Sp.setT (Sp.cB z.2.2.1) (Sp.nB z - 1) (Sp.tJ 3 (Sp.nB z - 1 + 1) 0)), ())).tmod 6) := inK_ct (Sp.nxM (Sp.q3 z)) hbq3 1 6 (by decide) (by decide)
    have a4 : inN (Sp.nB z - 1) (Sp.setT (Sp.cB z.2.2.1) (Sp.nB z - 1) (Sp.tJ 3 (Sp.nB z - 1 + 1) 0)).length := a4
    repeat' first | with_reducible exact a1 | with_reducible exact a4 | with_reducible exact k6 | with_reducible exact t5 | with_reducible exact t1 | with_reducible exact t2 | with_reducible exact t3 | with_reducible exact t4 | with_reducible apply And.intro | exact ⟨(), E _ rfl⟩
   ·unfold Sp.mdS Sp.q4
    rw [if_neg c]
    rfl
   ·obtain ⟨j, rfl⟩ : ∃ j, k = j + 1 := ⟨k - 1, by omega⟩
    exact ⟨hI _ (by omega) (by omega), (j, Sp.mdS s), ⟨by dsimp only; omega, n8.mono (by dsimp only; omega), g3⟩, by dsimp only; omega, rfl, by dsimp only; omega⟩
  ·have : k = 0 := by omega
   subst this;exact g3
 ·exact ⟨⟨at_of m3 (by decide), k3, m3.nx.mono (by decide), d3.1, d3.2⟩, (), rfl⟩
 ·obtain ⟨n1, n2⟩ := m3.q1 hb3
  have hb4 : Sp.Byt (Sp.q1 (Sp.md3 L)) := hb3.to (Sp.fst_q1 _)
  obtain ⟨n3, n4⟩ := Sp.MkOK.lp n1.nx (s := Sp.nxM (Sp.q1 (Sp.md3 L))) n2 hb4;refine ⟨⟨at_of n1 (by decide), k3⟩, fun c => ⟨⟨n1.nx.mono (by decide), n2⟩, n3.mono (by decide), ⟨n3.bl.mono (by decide), Sp.has.bl⟩, (), ?_⟩, fun c => ⟨(), ?_⟩⟩
  ·unfold Sp.md4 Sp.q5
   rw [if_pos c]
   rfl
  ·unfold Sp.md4 Sp.q5
   rw [if_neg c]
   rfl
 ·have hl : (Sp.cB (Sp.md4 L).2.2.1).length <= 5000 := Nat.le_trans m4.blk (by decide)
  have hl0 : 0 < (Sp.cB (Sp.md4 L).2.2.1).length := h4
  refine ⟨⟨hI (((Sp.cB (Sp.md4 L).2.2.1).length : Int) - 1) (by omega) (by omega), inN_last hl0⟩, (), rfl⟩
 ·rfl
end Go.User
namespace Sp
end Sp
namespace Go.User
open Go.Lf
abbrev mBlk : Md := .pair (.own .shr) (.pair .shr .shr)
abbrev mCp : Md := .pair .shr (.pair .shr (.pair .shr (.pair .shr (.pair .shr (.pair (.own .shr) (.pair (.own .shr) (.pair (.own mBlk) .shr)))))))
def codeOK (n : Nat) (c : Sp.Code) : Prop := (Sp.cA c).length <= n /\ (Sp.cL c).length <= n /\ (Sp.cB c).length <= n /\ ∀ b ∈ Sp.cB c, b.1.length <= n
def S20 : FSpec := { args := [.val tCode], multi := false, res := tCode, mode := mCp, pre := fun x => codeOK 5000 x.1, fn := fun x => x.1 }
def C20 : Ctx := { mkC 44 [] with mds := [(2, mCp), (15, .own mBlk), (3, .own mBlk), (38, mBlk), (39, .own mBlk)] }
def L20 (x : kdens S20.args) : List LoopI := [
 {ι := Nat, inv := fun i => i <= (Sp.cB x.1).length, dec := fun i => (Sp.cB x.1).length - i, ovr := fun i => [(3, .own (.slice tBlk) (.own mBlk) ((Sp.cB x.1).take i)), (4, .shr tI (i : Int))], keep := [1, 2] }]
end Go.User
namespace Go.User
open Go.Proofs Go.Lf
set_option maxRecDepth 100000
theorem vc20 : (funI C20 (stpS C20) S20 L20 Try.f20) = (
let q0 : Nat := (5000 : Nat);
let q1 : Nat := (2 : Nat);
let q2 : Prop := True /\ True /\ True;
let q3 : Nat := (0 : Nat);
let q4 : Prop := (True /\ True) /\ True /\ True;
let q5 : Int := (0 : Int);
let q6 : Sp.Code := (q5, q5, q5, q5, q5, ([] : List tArr.den), ([] : List tLoop.den), ([] : List tBlk.den), ());
let q7 : Prop := q6 = q6 /\ True;
let q8 : Prop := True /\ True /\ q2;
let q9 : Sp.Opd := (q5, q5, q5, ());
let q10 : Sp.Block := (([] : List tInst.den), (q5, q5, q9, q9, q9, List.replicate q1 q5, ()), ());
let q11 : Int := (1 : Int);
∀ (x : Sp.Code × Unit),
 let q12 : Nat := (Sp.cB x.1).length;
 let q13 : Int × List Sp.Arr × List Sp.Opd × List Sp.Block × Unit := x.1.2.2.2.2;
 let q14 : List Sp.Arr × List Sp.Opd × List Sp.Block × Unit := q13.2;
 let q15 : List Sp.Arr := q14.1;
 let q16 : List Sp.Opd × List Sp.Block × Unit := q14.2;
 let q17 : List Sp.Opd := q16.1;
 let q18 : Int := x.1.2.2.2.1;
 let q19 : Int := q13.1;
 let q20 : List Sp.Block × Unit := q16.2;
 let q21 : Sp.Code := (x.1.1, x.1.2.1, x.1.2.2.1, q18, q19, q15, q17, q20);
 let q22 : Prop := q21 = q21 /\ q7;
 let q23 : List Sp.Block := q20.1;
 let q24 : Nat := q23.length;
 ((Sp.cA x.1).length <= q0 /\ (Sp.cL x.1).length <= q0 /\ q12 <= q0 /\ ∀ (b : Sp.Block), b ∈ Sp.cB x.1 -> b.1.length <= q0) ->
 dFact (tI.prod (tI.prod (tI.prod (tI.prod (tI.prod (tArr.slice.prod (tLoop.slice.prod ((tInst.slice.prod ((tI.prod (tI.prod (tOpd.prod (tOpd.prod (tOpd.prod ((Ty.arr q1 tI).prod Ty.unit)))))).prod Ty.unit)).slice.prod Ty.unit)))))))) x.1 /\ True ->
 (q2 /\ True) /\
 ((True /\ True /\ True /\ (↑(q3 + q15.length) : Int) <= maxNew /\ True /\ True) /\ True /\ True) /\
 ((True /\ True /\ True /\ (↑(q3 + q17.length) : Int) <= maxNew /\ True /\ True) /\ True /\ True) /\
 q4 /\
 ((True /\ True) /\ True) /\
 (∃ (x_1 : Nat), x_1 <= q12 /\ ([] : List tBlk.den) = List.take x_1 (Sp.cB x.1) /\ q5 = (↑x_1 : Int) /\ q22) /\
 ∀ (x_1 : Nat),
 let q25 : List Sp.Block := List.take x_1 (Sp.cB x.1);
 let q26 : Bool := decide ((↑x_1 : Int) < (↑q24 : Int));
 let q27 : Prop := inN (↑x_1 : Int) q24;
 let q28 : Sp.Block := q23.getD (↑x_1 : Int).toNat q10;
 let q29 : List Sp.Inst := q28.1;
 let q30 : List Sp.Block := (q29, q28.2.1, ()) :: ([] : List tBlk.den);
 let q31 : Int := (↑x_1 : Int) + q11;
 x_1 <= q12 -> dFact (tInst.slice.prod ((tI.prod (tI.prod (tOpd.prod (tOpd.prod (tOpd.prod ((Ty.arr q1 tI).prod Ty.unit)))))).prod Ty.unit)).slice q25 /\ dFact tI (↑x_1 : Int) /\ True -> ((True /\ q8) /\ True) /\ (q26 = true -> ((True /\ True /\ True /\ True /\ True /\ q27 /\ True /\ True /\ (↑(q3 + q29.length) : Int) <= maxNew /\ True /\ True /\ True /\ q27 /\ q8) /\ (↑(q25.length + q30.length) : Int) <= maxNew /\ True /\ True) /\ ((True /\ inK IntKind.i64 q31 /\ True /\ True) /\ True) /\ ∃ (y : Nat), y <= q12 /\ q12 - y < q12 - x_1 /\ q25 ++ q30 = List.take y (Sp.cB x.1) /\ q31 = (↑y : Int) /\ q22) /\ (q26 = false -> (q2 /\ True /\ True) /\ q4 /\ (x.1.1, x.1.2.1, x.1.2.2.1, q18, q19, q15, q17, q25, q20.2) = x.1)) := by kernel_rfl
end Go.User
namespace Sp
noncomputable def eqCode (a b : Code) : Bool := @decide (a = b) (Classical.propDecidable _)
def eqArrs (a b : List Arr) : Bool := decide (a = b)
def eqLps (a b : List Loop) : Bool := decide (a = b)
noncomputable def eqIns (a b : List Inst) : Bool := @decide (a = b) (Classical.propDecidable _)
def eqInt (a b : List Int) : Bool := decide (a = b)
def mem (l : List Int) (n : Int) : Bool := decide (n ∈ l)
def opI (i : Inst) : Int := i.1
def nI (i : Inst) : Int := i.2.2.1
def dI (i : Inst) : Opd := i.2.2.2.1
def aI (i : Inst) : Opd := i.2.2.2.2.1
def bI (i : Inst) : Opd := i.2.2.2.2.2.1
def cI (i : Inst) : Opd := i.2.2.2.2.2.2.1
def def0 (o : Opd) : Int := if o.1 = 2 then o.2.1 else -1
def defI (i : Inst) : Int := def0 (dI i)
def addN (l : List Int) (n : Int) : List Int := if n ∈ l then l else l.takeWhile (fun v => decide (v < n)) ++ [n] ++ l.dropWhile (fun v => decide (v < n))
def regL : List Opd -> List Int -> List Int
 | [], out => out
 | o :: l, out => regL l (if o.1 = 2 then addN out o.2.1 else out)
def useI (i : Inst) : List Int := regL [aI i, bI i, cI i] []
def idxL (l : List Int) (n : Int) : Int := if n ∈ l then ((l.idxOf n : Nat) : Int) else -1
def hitB (i j : Inst) : Bool := decide (0 <= defI i) && (decide (defI j = defI i) || mem (useI j) (defI i))
def arr0 : Arr := ([], 0, 0, 0, ())
def spc (c : Code) (n : Int) : Int := ((cA c).getD n.toNat arr0).2.1
def arrB (i : Inst) : Bool := decide (opI i = 7) || decide (opI i = 8) || decide (opI i = 9)
def sltB (i : Inst) : Bool := decide (opI i = 11) || decide (opI i = 12)
def strB (i : Inst) : Bool := decide (opI i = 10) || decide (opI i = 9)
def visB (c : Code) (i : Inst) : Bool := strB i || arrB i && !decide (spc c (nI i) = 3)
def headB (a b : Code) : Bool := decide (a.1 = b.1) && decide (a.2.1 = b.2.1) && decide (a.2.2.1 = b.2.2.1) && decide (a.2.2.2.1 = b.2.2.2.1) && decide (a.2.2.2.2.1 = b.2.2.2.2.1) && decide (cA a = cA b) && decide (cL a = cL b)
def ac0 : Acs := (-1, -1, false, false, false, ())
def accI (c : Code) (i : Inst) : Acs :=
 if opI i = 7 ∨ opI i = 8 ∨ opI i = 9 then (nI i, -1, decide (opI i = 7), decide (opI i = 9), !decide (spc c (nI i) = 3), ())
 else if opI i = 11 ∨ opI i = 12 then (-1, nI i, decide (opI i = 11), false, false, ())
 else if opI i = 10 then (-1, -1, false, true, true, ()) else ac0
def accB (a b : Acs) : Bool :=
 (decide (0 <= a.1) && decide (a.1 = b.1) || decide (0 <= a.2.1) && decide (a.2.1 = b.2.1)) && (a.2.2.2.2.1 || !a.2.2.1 || !b.2.2.1) || a.2.2.2.1 && b.2.2.2.2.1 || b.2.2.2.1 && a.2.2.2.2.1
def depP (c : Code) (i j : Inst) : Bool := hitB i j || hitB j i || accB (accI c i) (accI c j)
def depR (c : Code) (i j : Inst) : Bool :=
 hitB i j || hitB j i || arrB i && arrB j && decide (nI i = nI j) && (!decide (opI i = 7) || !decide (opI j = 7) || visB c i) || sltB i && sltB j && decide (nI i = nI j) && (!decide (opI i = 11) || !decide (opI j = 11)) || strB i && visB c j || strB j && visB c i
end Sp
namespace Go.User
open Go.Lf
def instOK (c : Sp.Code) (i : Sp.Inst) : Prop := (Sp.opI i = 7 ∨ Sp.opI i = 8 ∨ Sp.opI i = 9) -> 0 <= Sp.nI i /\ Sp.nI i < ((Sp.cA c).length : Int)
def eqL {α : Type} (a b : List α) (s : Nat) (keep : List Nat) : LoopI := { ι := Nat, inv := fun i => i <= a.length /\ a.length = b.length /\ a.take i = b.take i, dec := fun i => a.length - i, ovr := fun i => [(s, .shr tI (i : Int))], keep := keep }
def S26 : FSpec := { args := [.val (.slice tI), .val (.slice tI)], multi := false, res := .bool, mode := .shr, pre := fun _ => True, fn := fun x => Sp.eqInt x.1 x.2.1 }
def C26 : Ctx := mkC 26 []
def L26 (x : kdens S26.args) : List LoopI := [eqL (α := Int) x.1 x.2.1 5 [0, 1]]
def S69 : FSpec := { args := [.val (.slice tI), .val tI], multi := false, res := tI, mode := .shr, pre := fun _ => True, fn := fun x => Sp.idxL x.1 x.2.1 }
def C69 : Ctx := mkC 19 []
def L69 (x : kdens S69.args) : List LoopI := [{ ι := Nat, inv := fun i => i <= List.length x.1 /\ (x.2.1 : Int) ∉ List.take i x.1, dec := fun i => List.length x.1 - i, ovr := fun i => [(8, .shr tI (i : Int)), (7, .shr tI (List.length x.1 : Int))], keep := [0, 1] }]
def S61 : FSpec := { args := [.val (.slice tI), .val tI], multi := false, res := .bool, mode := .shr, pre := fun _ => True, fn := fun x => Sp.mem x.1 x.2.1 }
def C61 : Ctx := mkC 9 [(69, S69)]
def L61 (x : kdens S61.args) : List LoopI := []
def eqR {α : Type} (a b : List α) : LoopI := { ι := Nat, inv := fun i => i <= a.length /\ a.length = b.length /\ a.take i = b.take i, dec := fun i => a.length - i, ovr := fun i => [(13, .shr tI (i : Int)), (12, .shr tI (a.length : Int))], keep := [0, 1] }
def S39 : FSpec := { args := [.val (.slice tArr), .val (.slice tArr)], multi := false, res := .bool, mode := .shr, pre := fun _ => True, fn := fun x => Sp.eqArrs x.1 x.2.1 }
def C39 : Ctx := mkC 26 []
def L39 (x : kdens S39.args) : List LoopI := [eqR (α := Sp.Arr) x.1 x.2.1]
def S40 : FSpec := { args := [.val (.slice tLoop), .val (.slice tLoop)], multi := false, res := .bool, mode := .shr, pre := fun _ => True, fn := fun x => Sp.eqLps x.1 x.2.1 }
def C40 : Ctx := mkC 26 []
def L40 (x : kdens S40.args) : List LoopI := [eqR (α := Sp.Loop) x.1 x.2.1]
noncomputable def S42 : FSpec := { args := [.val (.slice tInst), .val (.slice tInst)], multi := false, res := .bool, mode := .shr, pre := fun _ => True, fn := fun x => Sp.eqIns x.1 x.2.1 }
def C42 : Ctx := mkC 26 []
def L42 (x : kdens S42.args) : List LoopI := [eqR (α := Sp.Inst) x.1 x.2.1]
def S56 : FSpec := { args := [.val (.slice tArr)], multi := false, res := .slice tArr, mode := .own .shr, pre := fun x => List.length x.1 <= 5000, fn := fun x => x.1 }
def C56 : Ctx := mkC 8 []
def L56 (x : kdens S56.args) : List LoopI := []
def S57 : FSpec := { args := [.val (.slice tLoop)], multi := false, res := .slice tLoop, mode := .own .shr, pre := fun x => List.length x.1 <= 5000, fn := fun x => x.1 }
def C57 : Ctx := mkC 8 []
def L57 (x : kdens S57.args) : List LoopI := []
def S58 : FSpec := { args := [.val (.slice tBlk)], multi := false, res := .slice tBlk, mode := .own .shr, pre := fun x => List.length x.1 <= 5000, fn := fun x => x.1 }
def C58 : Ctx := mkC 8 []
def L58 (x : kdens S58.args) : List LoopI := []
def S68 : FSpec := { args := [.val tOpd], multi := false, res := tI, mode := .shr, pre := fun _ => True, fn := fun x => Sp.def0 x.1 }
def C68 : Ctx := mkC 8 []
def L68 (x : kdens S68.args) : List LoopI := []
def S60 : FSpec := { args := [.val tInst], multi := false, res := tI, mode := .shr, pre := fun _ => True, fn := fun x => Sp.defI x.1 }
def C60 : Ctx := mkC 6 [(68, S68)]
def L60 (x : kdens S60.args) : List LoopI := []
def S62 : FSpec := { args := [.val tInst], multi := false, res := .slice tI, mode := .shr, pre := fun _ => True, fn := fun x => Sp.useI x.1 }
def S70 : FSpec := { args := [.val (.slice tOpd)], multi := false, res := .slice tI, mode := .shr, pre := fun x => List.length x.1 <= 3, fn := fun x => Sp.regL x.1 [] }
def C62 : Ctx := { mkC 11 [(70, S70)] with frz := [9] }
def L62 (x : kdens S62.args) : List LoopI := []
def S32 : FSpec := { args := [.val tInst, .val tInst], multi := false, res := .bool, mode := .shr, pre := fun _ => True, fn := fun x => Sp.hitB x.1 x.2.1 }
def C32 : Ctx := mkC 22 [(60, S60), (61, S61), (62, S62)]
def L32 (x : kdens S32.args) : List LoopI := []
def S31 : FSpec := { args := [.val tCode, .val tInst], multi := false, res := tAcs, mode := .shr, pre := fun x => instOK x.1 x.2.1, fn := fun x => Sp.accI x.1 x.2.1 }
def C31 : Ctx := mkC 48 []
def L31 (x : kdens S31.args) : List LoopI := []
def S14 : FSpec := { args := [.val tCode, .val tInst, .val tInst], multi := false, res := .bool, mode := .shr, pre := fun x => instOK x.1 x.2.1 /\ instOK x.1 x.2.2.1, fn := fun x => Sp.depP x.1 x.2.1 x.2.2.1 }
def C14 : Ctx := mkC 79 [(31, S31), (32, S32)]
def L14 (x : kdens S14.args) : List LoopI := []
end Go.User
namespace Go.User
open Go.Proofs Go.Lf
set_option maxRecDepth 100000
theorem vc26 : (funI C26 (stpS C26) S26 L26 Try.f26) = (
let q0 : Prop := (True /\ True) /\ True;
let q1 : Prop := True /\ True /\ True;
let q2 : Prop := True /\ True /\ q1;
let q3 : Int := (0 : Int);
let q4 : Int := (1 : Int);
∀ (x : List Int × List Int × Unit),
 let q5 : Nat := x.1.length;
 let q6 : Int := (↑q5 : Int);
 let q7 : Nat := x.2.1.length;
 let q8 : Bool := q6 != (↑q7 : Int);
 let q9 : Bool := Sp.eqInt x.1 x.2.1;
 let q10 : Prop := q0 /\ false = q9;
 let q11 : Prop := x.1 = x.1 /\ x.2.1 = x.2.1 /\ True;
 True ->
 dFact tI.slice x.1 /\ dFact tI.slice x.2.1 /\ True ->
 q0 /\
 ((True /\ q2) /\ True) /\
 (q8 = true -> q10) /\
 (q8 = false ->
 q0 /\
 (∃ (x_1 : Nat), (x_1 <= x.1.length /\ x.1.length = x.2.1.length /\ List.take x_1 x.1 = List.take x_1 x.2.1) /\ q3 = (↑x_1 : Int) /\ q11) /\
 ∀ (x_1 : Nat),
 let q12 : Bool := decide ((↑x_1 : Int) < q6);
 let q13 : Nat := (↑x_1 : Int).toNat;
 let q14 : Bool := x.1.getD q13 q3 != x.2.1.getD q13 q3;
 let q15 : Int := (↑x_1 : Int) + q4;
 x_1 <= x.1.length /\ x.1.length = x.2.1.length /\ List.take x_1 x.1 = List.take x_1 x.2.1 -> dFact tI (↑x_1 : Int) /\ True -> (q2 /\ True) /\ (q12 = true -> ((True /\ True /\ inN (↑x_1 : Int) q5 /\ True /\ True /\ True /\ inN (↑x_1 : Int) q7 /\ q1) /\ True) /\ (q14 = true -> q10) /\ (q14 = false -> ((True /\ inK IntKind.i64 q15 /\ True /\ True) /\ True) /\ ∃ (y : Nat), (y <= x.1.length /\ x.1.length = x.2.1.length /\ List.take y x.1 = List.take y x.2.1) /\ x.1.length - y < x.1.length - x_1 /\ q15 = (↑y : Int) /\ q11)) /\ (q12 = false -> q0 /\ true = q9))) := by kernel_rfl
theorem vc69 : (funI C69 (stpS C69) S69 L69 Try.f69) = (
let q0 : Prop := (True /\ True) /\ True;
let q1 : Prop := True /\ True /\ True;
let q2 : Int := (0 : Int);
let q3 : Prop := q1 /\ True;
let q4 : Int := (1 : Int);
∀ (x : List Int × Int × Unit),
 let q5 : Nat := x.1.length;
 let q6 : Int := (↑q5 : Int);
 let q7 : Prop := q6 = q6 /\ x.1 = x.1 /\ x.2.1 = x.2.1 /\ True;
 let q8 : Int := Sp.idxL x.1 x.2.1;
 True ->
 dFact tI.slice x.1 /\ dFact tI x.2.1 /\ True ->
 q0 /\
 ((True /\ q1) /\ True) /\
 (∃ (x_1 : Nat), (x_1 <= q5 /\ ¬x.2.1 ∈ List.take x_1 x.1) /\ q2 = (↑x_1 : Int) /\ q7) /\
 ∀ (x_1 : Nat),
 let q9 : Bool := decide ((↑x_1 : Int) < q6);
 let q10 : Bool := x.2.1 == x.1.getD (↑x_1 : Int).toNat q2;
 let q11 : Int := (↑x_1 : Int) + q4;
 x_1 <= q5 /\ ¬x.2.1 ∈ List.take x_1 x.1 -> dFact tI (↑x_1 : Int) /\ dFact tI q6 /\ True -> q0 /\ (q9 = true -> q3 /\ ((True /\ True /\ True /\ inN (↑x_1 : Int) q5 /\ q1) /\ True) /\ (q10 = true -> q3 /\ (↑x_1 : Int) = q8) /\ (q10 = false -> ((inK IntKind.i64 q11 /\ True /\ True) /\ True) /\ ∃ (y : Nat), (y <= q5 /\ ¬x.2.1 ∈ List.take y x.1) /\ q5 - y < q5 - x_1 /\ q11 = (↑y : Int) /\ q7)) /\ (q9 = false -> q0 /\ -q4 = q8)) := by kernel_rfl
theorem vc61 : (funI C61 (stpS C61) S61 L61 Try.f61) = (
∀ (x : List Int × Int × Unit), True -> dFact tI.slice x.1 /\ dFact tI x.2.1 /\ True -> ((True /\ True) /\ True) /\ ((True /\ True /\ True /\ True /\ True /\ True) /\ True) /\ decide (Sp.idxL x.1 x.2.1 ≥ (0 : Int)) = Sp.mem x.1 x.2.1) := by kernel_rfl
theorem vc39 : (funI C39 (stpS C39) S39 L39 Try.f39) = (
let q0 : Prop := (True /\ True) /\ True;
let q1 : Prop := True /\ True /\ True;
let q2 : Prop := True /\ q1;
let q3 : Int := (0 : Int);
let q4 : Sp.Arr := (([] : List UInt8), q3, q3, q3, ());
let q5 : Int := (1 : Int);
∀ (x : List Sp.Arr × List Sp.Arr × Unit),
 let q6 : Nat := x.1.length;
 let q7 : Int := (↑q6 : Int);
 let q8 : Nat := x.2.1.length;
 let q9 : Bool := q7 != (↑q8 : Int);
 let q10 : Bool := Sp.eqArrs x.1 x.2.1;
 let q11 : Prop := q0 /\ false = q10;
 let q12 : Int := (↑x.1.length : Int);
 let q13 : Prop := x.1 = x.1 /\ x.2.1 = x.2.1 /\ True;
 True ->
 dFact tArr.slice x.1 /\ dFact tArr.slice x.2.1 /\ True ->
 q0 /\
 ((True /\ True /\ q2) /\ True) /\
 (q9 = true -> q11) /\
 (q9 = false ->
 (q2 /\ True) /\
 (∃ (x_1 : Nat), (x_1 <= x.1.length /\ x.1.length = x.2.1.length /\ List.take x_1 x.1 = List.take x_1 x.2.1) /\ q3 = (↑x_1 : Int) /\ q7 = q12 /\ q13) /\
 ∀ (x_1 : Nat),
 let q14 : Bool := decide ((↑x_1 : Int) < q12);
 let q15 : Nat := (↑x_1 : Int).toNat;
 let q16 : Sp.Arr := x.1.getD q15 q4;
 let q17 : Sp.Arr := x.2.1.getD q15 q4;
 let q18 : Sp.Opd := q16.2;
 let q19 : Sp.Opd := q17.2;
 let q20 : Int × Int × Unit := q18.2;
 let q21 : Int × Int × Unit := q19.2;
 let q22 : Bool := !(decide (q16.1 = q17.1) && (decide (q18.1 = q19.1) && (decide (q20.1 = q21.1) && (decide (q20.2.1 = q21.2.1) && true))));
 let q23 : Int := (↑x_1 : Int) + q5;
 x_1 <= x.1.length /\ x.1.length = x.2.1.length /\ List.take x_1 x.1 = List.take x_1 x.2.1 -> dFact tI (↑x_1 : Int) /\ dFact tI q12 /\ True -> q0 /\ (q14 = true -> (q1 /\ True) /\ ((True /\ True /\ inN (↑x_1 : Int) q6 /\ True /\ True /\ True /\ inN (↑x_1 : Int) q8 /\ q1) /\ True) /\ (q22 = true -> q11) /\ (q22 = false -> ((inK IntKind.i64 q23 /\ True /\ True) /\ True) /\ ∃ (y : Nat), (y <= x.1.length /\ x.1.length = x.2.1.length /\ List.take y x.1 = List.take y x.2.1) /\ x.1.length - y < x.1.length - x_1 /\ q23 = (↑y : Int) /\ q12 = q12 /\ q13)) /\ (q14 = false -> q0 /\ true = q10))) := by kernel_rfl
theorem vc40 : (funI C40 (stpS C40) S40 L40 Try.f40) = (
let q0 : Prop := (True /\ True) /\ True;
let q1 : Prop := True /\ True /\ True;
let q2 : Prop := True /\ q1;
let q3 : Int := (0 : Int);
let q4 : Sp.Opd := (q3, q3, q3, ());
let q5 : Int := (1 : Int);
∀ (x : List Sp.Opd × List Sp.Opd × Unit),
 let q6 : Nat := x.1.length;
 let q7 : Int := (↑q6 : Int);
 let q8 : Nat := x.2.1.length;
 let q9 : Bool := q7 != (↑q8 : Int);
 let q10 : Bool := Sp.eqLps x.1 x.2.1;
 let q11 : Prop := q0 /\ false = q10;
 let q12 : Int := (↑x.1.length : Int);
 let q13 : Prop := x.1 = x.1 /\ x.2.1 = x.2.1 /\ True;
 True ->
 dFact tLoop.slice x.1 /\ dFact tLoop.slice x.2.1 /\ True ->
 q0 /\
 ((True /\ True /\ q2) /\ True) /\
 (q9 = true -> q11) /\
 (q9 = false ->
 (q2 /\ True) /\
 (∃ (x_1 : Nat), (x_1 <= x.1.length /\ x.1.length = x.2.1.length /\ List.take x_1 x.1 = List.take x_1 x.2.1) /\ q3 = (↑x_1 : Int) /\ q7 = q12 /\ q13) /\
 ∀ (x_1 : Nat),
 let q14 : Bool := decide ((↑x_1 : Int) < q12);
 let q15 : Nat := (↑x_1 : Int).toNat;
 let q16 : Sp.Opd := x.1.getD q15 q4;
 let q17 : Sp.Opd := x.2.1.getD q15 q4;
 let q18 : Int × Int × Unit := q16.2;
 let q19 : Int × Int × Unit := q17.2;
 let q20 : Bool := !(decide (q16.1 = q17.1) && (decide (q18.1 = q19.1) && (decide (q18.2.1 = q19.2.1) && true)));
 let q21 : Int := (↑x_1 : Int) + q5;
 x_1 <= x.1.length /\ x.1.length = x.2.1.length /\ List.take x_1 x.1 = List.take x_1 x.2.1 -> dFact tI (↑x_1 : Int) /\ dFact tI q12 /\ True -> q0 /\ (q14 = true -> (q1 /\ True) /\ ((True /\ True /\ inN (↑x_1 : Int) q6 /\ True /\ True /\ True /\ inN (↑x_1 : Int) q8 /\ q1) /\ True) /\ (q20 = true -> q11) /\ (q20 = false -> ((inK IntKind.i64 q21 /\ True /\ True) /\ True) /\ ∃ (y : Nat), (y <= x.1.length /\ x.1.length = x.2.1.length /\ List.take y x.1 = List.take y x.2.1) /\ x.1.length - y < x.1.length - x_1 /\ q21 = (↑y : Int) /\ q12 = q12 /\ q13)) /\ (q14 = false -> q0 /\ true = q10))) := by kernel_rfl
theorem vc42 : (funI C42 (stpS C42) S42 L42 Try.f42) = (
let q0 : Prop := (True /\ True) /\ True;
let q1 : Prop := True /\ True /\ True;
let q2 : Prop := True /\ q1;
let q3 : Int := (0 : Int);
let q4 : Sp.Opd := (q3, q3, q3, ());
let q5 : Sp.Inst := (q3, q3, q3, q4, q4, q4, q4, ());
let q6 : Int := (1 : Int);
∀ (x : List Sp.Inst × List Sp.Inst × Unit),
 let q7 : Nat := x.1.length;
 let q8 : Int := (↑q7 : Int);
 let q9 : Nat := x.2.1.length;
 let q10 : Bool := q8 != (↑q9 : Int);
 let q11 : Bool := Sp.eqIns x.1 x.2.1;
 let q12 : Prop := q0 /\ false = q11;
 let q13 : Int := (↑x.1.length : Int);
 let q14 : Prop := x.1 = x.1 /\ x.2.1 = x.2.1 /\ True;
 True ->
 dFact tInst.slice x.1 /\ dFact tInst.slice x.2.1 /\ True ->
 q0 /\
 ((True /\ True /\ q2) /\ True) /\
 (q10 = true -> q12) /\
 (q10 = false ->
 (q2 /\ True) /\
 (∃ (x_1 : Nat), (x_1 <= x.1.length /\ x.1.length = x.2.1.length /\ List.take x_1 x.1 = List.take x_1 x.2.1) /\ q3 = (↑x_1 : Int) /\ q8 = q13 /\ q14) /\
 ∀ (x_1 : Nat),
 let q15 : Bool := decide ((↑x_1 : Int) < q13);
 let q16 : Nat := (↑x_1 : Int).toNat;
 let q17 : Sp.Inst := x.1.getD q16 q5;
 let q18 : Sp.Inst := x.2.1.getD q16 q5;
 let q19 : Int × Int × Sp.Opd × Sp.Opd × Sp.Opd × Sp.Opd × Unit := q17.2;
 let q20 : Int × Int × Sp.Opd × Sp.Opd × Sp.Opd × Sp.Opd × Unit := q18.2;
 let q21 : Int × Sp.Opd × Sp.Opd × Sp.Opd × Sp.Opd × Unit := q19.2;
 let q22 : Int × Sp.Opd × Sp.Opd × Sp.Opd × Sp.Opd × Unit := q20.2;
 let q23 : Sp.Opd × Sp.Opd × Sp.Opd × Sp.Opd × Unit := q21.2;
 let q24 : Sp.Opd := q23.1;
 let q25 : Sp.Opd × Sp.Opd × Sp.Opd × Sp.Opd × Unit := q22.2;
 let q26 : Sp.Opd := q25.1;
 let q27 : Int × Int × Unit := q24.2;
 let q28 : Int × Int × Unit := q26.2;
 let q29 : Sp.Opd × Sp.Opd × Sp.Opd × Unit := q23.2;
 let q30 : Sp.Opd := q29.1;
 let q31 : Sp.Opd × Sp.Opd × Sp.Opd × Unit := q25.2;
 let q32 : Sp.Opd := q31.1;
 let q33 : Int × Int × Unit := q30.2;
 let q34 : Int × Int × Unit := q32.2;
 let q35 : Sp.Opd × Sp.Opd × Unit := q29.2;
 let q36 : Sp.Opd := q35.1;
 let q37 : Sp.Opd × Sp.Opd × Unit := q31.2;
 let q38 : Sp.Opd := q37.1;
 let q39 : Int × Int × Unit := q36.2;
 let q40 : Int × Int × Unit := q38.2;
 let q41 : Sp.Opd := q35.2.1;
 let q42 : Sp.Opd := q37.2.1;
 let q43 : Int × Int × Unit := q41.2;
 let q44 : Int × Int × Unit := q42.2;
 let q45 : Bool := !(decide (q17.1 = q18.1) && (decide (q19.1 = q20.1) && (decide (q21.1 = q22.1) && (decide (q24.1 = q26.1) && (decide (q27.1 = q28.1) && (decide (q27.2.1 = q28.2.1) && true)) && (decide (q30.1 = q32.1) && (decide (q33.1 = q34.1) && (decide (q33.2.1 = q34.2.1) && true)) && (decide (q36.1 = q38.1) && (decide (q39.1 = q40.1) && (decide (q39.2.1 = q40.2.1) && true)) && (decide (q41.1 = q42.1) && (decide (q43.1 = q44.1) && (decide (q43.2.1 = q44.2.1) && true)) && true)))))));
 let q46 : Int := (↑x_1 : Int) + q6;
 x_1 <= x.1.length /\ x.1.length = x.2.1.length /\ List.take x_1 x.1 = List.take x_1 x.2.1 -> dFact tI (↑x_1 : Int) /\ dFact tI q13 /\ True -> q0 /\ (q15 = true -> (q1 /\ True) /\ ((True /\ True /\ inN (↑x_1 : Int) q7 /\ True /\ True /\ True /\ inN (↑x_1 : Int) q9 /\ q1) /\ True) /\ (q45 = true -> q12) /\ (q45 = false -> ((inK IntKind.i64 q46 /\ True /\ True) /\ True) /\ ∃ (y : Nat), (y <= x.1.length /\ x.1.length = x.2.1.length /\ List.take y x.1 = List.take y x.2.1) /\ x.1.length - y < x.1.length - x_1 /\ q46 = (↑y : Int) /\ q13 = q13 /\ q14)) /\ (q15 = false -> q0 /\ true = q11))) := by kernel_rfl
theorem vc56 : (funI C56 (stpS C56) S56 L56 Try.f56) = (
let q0 : Prop := (True /\ True) /\ True;
∀ (x : List Sp.Arr × Unit),
 let q1 : Nat := x.1.length;
 q1 <= (5000 : Nat) -> dFact tArr.slice x.1 /\ True -> q0 /\ ((True /\ True /\ True) /\ True) /\ (x.1 = ([] : List tArr.den) -> q0 /\ ([] : List tArr.den) = x.1) /\ (True -> ((True /\ True /\ (↑((0 : Nat) + q1) : Int) <= maxNew /\ True) /\ True /\ True) /\ x.1 = x.1)) := by kernel_rfl
theorem vc57 : (funI C57 (stpS C57) S57 L57 Try.f57) = (
let q0 : Prop := (True /\ True) /\ True;
∀ (x : List Sp.Opd × Unit),
 let q1 : Nat := x.1.length;
 q1 <= (5000 : Nat) -> dFact tLoop.slice x.1 /\ True -> q0 /\ ((True /\ True /\ True) /\ True) /\ (x.1 = ([] : List tLoop.den) -> q0 /\ ([] : List tLoop.den) = x.1) /\ (True -> ((True /\ True /\ (↑((0 : Nat) + q1) : Int) <= maxNew /\ True) /\ True /\ True) /\ x.1 = x.1)) := by kernel_rfl
theorem vc58 : (funI C58 (stpS C58) S58 L58 Try.f58) = (
let q0 : Prop := (True /\ True) /\ True;
∀ (x : List Sp.Block × Unit),
 let q1 : Nat := x.1.length;
 q1 <= (5000 : Nat) -> dFact tBlk.slice x.1 /\ True -> q0 /\ ((True /\ True /\ True) /\ True) /\ (x.1 = ([] : List tBlk.den) -> q0 /\ ([] : List tBlk.den) = x.1) /\ (True -> ((True /\ True /\ (↑((0 : Nat) + q1) : Int) <= maxNew /\ True) /\ True /\ True) /\ x.1 = x.1)) := by kernel_rfl
theorem vc68 : (funI C68 (stpS C68) S68 L68 Try.f68) = (
let q0 : Prop := True /\ True /\ True;
let q1 : Prop := (True /\ q0) /\ True;
∀ (x : Sp.Opd × Unit),
 let q2 : Bool := x.1.1 != (2 : Int);
 True -> dFact tOpd x.1 /\ True -> (q0 /\ True) /\ q1 /\ (q2 = true -> ((True /\ True) /\ True) /\ (-1 : Int) = Sp.def0 x.1) /\ (q2 = false -> q1 /\ x.1.2.1 = Sp.def0 x.1)) := by kernel_rfl
theorem vc60 : (funI C60 (stpS C60) S60 L60 Try.f60) = (
let q0 : Prop := True /\ True /\ True;
∀ (x : Sp.Inst × Unit), True -> dFact tInst x.1 /\ True -> (q0 /\ True) /\ ((True /\ True /\ q0) /\ True) /\ Sp.def0 x.1.2.2.2.1 = Sp.defI x.1) := by kernel_rfl
theorem vc62 : (funI C62 (stpS C62) S62 L62 Try.f62) = (
∀ (x : Sp.Inst × Unit),
 let q0 : Sp.Opd × Sp.Opd × Sp.Opd × Unit := x.1.2.2.2.2;
 let q1 : Sp.Opd × Sp.Opd × Unit := q0.2;
 let q2 : List Sp.Opd := q0.1 :: q1.1 :: q1.2.1 :: ([] : List tOpd.den);
 True -> dFact tInst x.1 /\ True -> ((True /\ True /\ True) /\ True) /\ ((True /\ True /\ True /\ True /\ True /\ True /\ True /\ q2.length <= (3 : Nat) /\ True /\ True) /\ True) /\ Sp.regL q2 (([] : List Int)) = Sp.useI x.1) := by kernel_rfl
theorem vc32 : (funI C32 (stpS C32) S32 L32 Try.f32) = (
let q0 : Prop := True /\ True /\ True;
let q1 : Prop := (True /\ q0) /\ True;
∀ (x : Sp.Inst × Sp.Inst × Unit),
 let q2 : Bool := decide (Sp.defI x.1 ≥ (0 : Int));
 let q3 : Bool := true && bif q2 then true else false;
 let q4 : Prop := q3 = true -> True;
 let q5 : Bool := Sp.defI x.2.1 == Sp.defI x.1;
 let q6 : Prop := (q3 && bif q5 then false else true) = true -> True;
 True -> dFact tInst x.1 /\ dFact tInst x.2.1 /\ True -> q1 /\ q1 /\ ((True /\ True /\ True /\ q4 /\ q4 /\ q4 /\ q4 /\ q4 /\ q6 /\ q6 /\ q6 /\ q6 /\ q4 /\ q0) /\ True) /\ (bif q2 then bif q5 then true else Sp.mem (Sp.useI x.2.1) (Sp.defI x.1) else false) = Sp.hitB x.1 x.2.1) := by kernel_rfl
theorem vc31 : (funI C31 (stpS C31) S31 L31 Try.f31) = (
let q0 : Int := (7 : Int);
let q1 : Int := (8 : Int);
let q2 : Int := (9 : Int);
let q3 : Int := (0 : Int);
let q4 : Prop := True /\ True /\ True;
let q5 : Prop := True /\ q4;
let q6 : Prop := q4 /\ True;
let q7 : Prop := True /\ q5;
let q8 : Prop := True /\ True /\ q7;
let q9 : Prop := True /\ True /\ True /\ q8;
let q10 : Nat := (3 : Nat);
let q11 : Prop := q10 = q10;
let q12 : List Step := Step.fst :: ([] : List Step);
let q13 : List Step := Step.snd :: q12;
let q14 : List Step := Step.snd :: q13;
let q15 : Prop := q14 = q14;
let q16 : Prop := q11 /\ q15;
let q17 : Prop := True /\ q16;
let q18 : Prop := q12 = q12;
let q19 : Prop := q11 /\ q18;
let q20 : Prop := True /\ q19;
let q21 : Nat := (5 : Nat);
let q22 : Prop := q21 = q21;
let q23 : Prop := (True /\ q22 /\ q18) /\ True;
let q24 : Prop := (True /\ q22 /\ q15) /\ True;
let q25 : List Step := Step.snd :: q14;
let q26 : Prop := (True /\ q22 /\ q25 = q25) /\ True;
let q27 : Prop := (True /\ True) /\ True /\ True;
let q28 : Int := (-1 : Int);
let q29 : Sp.Arr := (([] : List UInt8), q3, q3, q3, ());
let q30 : Int := (3 : Int);
let q31 : Int := (11 : Int);
let q32 : Prop := (q22 /\ q13 = q13) /\ True;
let q33 : Bool × Bool × Unit := (false, false, ());
let q34 : Int := (10 : Int);
let q35 : Prop := (True /\ True) /\ q5;
let q36 : Int × Int × Bool × Bool × Bool × Unit := (q28, q28, false, true, true, ());
let q37 : Int × Int × Bool × Bool × Bool × Unit := (q28, q28, false, q33);
let q38 : Int := (12 : Int);
∀ (x : Sp.Code × Sp.Inst × Unit),
 let q39 : Bool := x.2.1.1 == q0;
 let q40 : Prop := q39 = true;
 let q41 : Int := x.2.1.2.2.1;
 let q42 : Prop := q41 = q41;
 let q43 : Prop := x.2.1.1 = x.2.1.1;
 let q44 : Prop := True /\ q43;
 let q45 : Prop := True /\ q39 = q39;
 let q46 : Bool := x.2.1.1 == q2;
 let q47 : Prop := True /\ q46 = q46;
 let q48 : List Sp.Arr := x.1.2.2.2.2.2.1;
 let q49 : Int × Int × Bool × Bool × Bool × Unit := Sp.accI x.1 x.2.1;
 let q50 : Prop := q9 /\ (q17 /\ (True /\ q42) /\ q20 /\ q44 /\ q45 /\ q20 /\ q44 /\ q47 /\ q23) /\ (True /\ (True /\ True) /\ (q20 /\ q44 /\ q45 /\ q20 /\ q44 /\ q47 /\ q24) /\ (True /\ (True /\ True) /\ (q20 /\ q44 /\ q47 /\ q26) /\ (True /\ True /\ True /\ ((True /\ True /\ True /\ True /\ inN q41 q48.length /\ q7) /\ True /\ True) /\ q27 /\ (q41, q28, q39, q46, (q48.getD q41.toNat q29).2.1 != q30, ()) = q49) /\ True) /\ True /\ True) /\ q4;
 let q51 : Prop := q39 = false;
 let q52 : Bool := x.2.1.1 == q31;
 let q53 : Prop := q52 = true;
 let q54 : Prop := ((q8 /\ q8 /\ q16 /\ q42 /\ q19 /\ q43 /\ q52 = q52 /\ q32) /\ q4) /\ q27 /\ (q28, q41, q52, q33) = q49;
 let q55 : Prop := q52 = false;
 let q56 : Bool := x.2.1.1 == q34;
 let q57 : Prop := q6 /\ (q56 = true -> q35 /\ q27 /\ q36 = q49) /\ (q56 = false -> q27 /\ q37 = q49);
 let q58 : Bool := x.2.1.1 == q38;
 let q59 : Prop := q6 /\ (q53 -> (q53 -> q54) /\ (q55 -> q57)) /\ (q55 -> q6 /\ (q58 = true -> q54) /\ (q58 = false -> q57));
 let q60 : Bool := x.2.1.1 == q1;
 let q61 : Prop := q60 = true;
 let q62 : Prop := q60 = false;
 (Sp.opI x.2.1 = q0 ∨ Sp.opI x.2.1 = q1 ∨ Sp.opI x.2.1 = q2 -> q3 <= Sp.nI x.2.1 /\ Sp.nI x.2.1 < (↑(Sp.cA x.1).length : Int)) -> dFact tCode x.1 /\ dFact tInst x.2.1 /\ True -> (q5 /\ True) /\ (q4 /\ True /\ True) /\ q6 /\ q6 /\ (q40 -> (q40 -> q50) /\ (q51 -> q59)) /\ (q51 -> q6 /\ (q61 -> (q61 -> q50) /\ (q62 -> q59)) /\ (q62 -> q6 /\ (q46 = true -> q50) /\ (q46 = false -> q59)))) := by kernel_rfl
theorem vc14 : (funI C14 (stpS C14) S14 L14 Try.f14) = (
let q0 : Int := (7 : Int);
let q1 : Int := (8 : Int);
let q2 : Int := (9 : Int);
let q3 : Int := (0 : Int);
let q4 : Prop := True /\ True /\ True;
∀ (x : Sp.Code × Sp.Inst × Sp.Inst × Unit),
 let q5 : Int := (↑(Sp.cA x.1).length : Int);
 let q6 : Prop := Sp.opI x.2.1 = q0 ∨ Sp.opI x.2.1 = q1 ∨ Sp.opI x.2.1 = q2 -> q3 <= Sp.nI x.2.1 /\ Sp.nI x.2.1 < q5;
 let q7 : Int := Sp.opI x.2.2.1;
 let q8 : Int := Sp.nI x.2.2.1;
 let q9 : Prop := q7 = q0 ∨ q7 = q1 ∨ q7 = q2 -> q3 <= q8 /\ q8 < q5;
 let q10 : Int × Int × Bool × Bool × Bool × Unit := Sp.accI x.1 x.2.1;
 let q11 : Int := q10.1;
 let q12 : Bool := decide (q11 ≥ q3);
 let q13 : Prop := (true && bif q12 then true else false) = true -> True;
 let q14 : Int × Int × Bool × Bool × Bool × Unit := Sp.accI x.1 x.2.2.1;
 let q15 : Bool := bif q12 then q11 == q14.1 else false;
 let q16 : Bool := true && bif q15 then false else true;
 let q17 : Prop := q16 = true -> True;
 let q18 : Int × Bool × Bool × Bool × Unit := q10.2;
 let q19 : Int := q18.1;
 let q20 : Bool := decide (q19 ≥ q3);
 let q21 : Prop := (q16 && bif q20 then true else false) = true -> True;
 let q22 : Bool := Sp.hitB x.2.1 x.2.2.1;
 let q23 : Prop := (true && bif q22 then false else true) = true -> True;
 let q24 : Bool := bif q22 then true else Sp.hitB x.2.2.1 x.2.1;
 let q25 : Bool := true && bif q24 then false else true;
 let q26 : Prop := q25 = true -> True;
 let q27 : Int × Bool × Bool × Bool × Unit := q14.2;
 let q28 : Bool := bif q15 then true else bif q20 then q19 == q27.1 else false;
 let q29 : Bool := q25 && bif q28 then true else false;
 let q30 : Prop := q29 = true -> True;
 let q31 : Bool × Bool × Bool × Unit := q18.2;
 let q32 : Bool × Bool × Unit := q31.2;
 let q33 : Bool := q32.2.1;
 let q34 : Prop := (q29 && bif q33 then false else true) = true -> True;
 let q35 : Bool := bif q33 then true else !q31.1;
 let q36 : Prop := (q29 && bif q35 then false else true) = true -> True;
 let q37 : Bool × Bool × Bool × Unit := q27.2;
 let q38 : Bool := bif q24 then true else bif q28 then bif q35 then true else !q37.1 else false;
 let q39 : Bool := true && bif q38 then false else true;
 let q40 : Prop := q39 = true -> True;
 let q41 : Bool := q32.1;
 let q42 : Prop := (q39 && bif q41 then true else false) = true -> True;
 let q43 : Bool × Bool × Unit := q37.2;
 let q44 : Bool := bif q38 then true else bif q41 then q43.2.1 else false;
 let q45 : Bool := true && bif q44 then false else true;
 let q46 : Prop := q45 = true -> True;
 let q47 : Bool := q43.1;
 let q48 : Prop := (q45 && bif q47 then true else false) = true -> True;
 q6 /\ q9 -> dFact tCode x.1 /\ dFact tInst x.2.1 /\ dFact tInst x.2.2.1 /\ True -> ((True /\ True /\ q4) /\ True) /\ ((True /\ True /\ q6 /\ True /\ True /\ q9 /\ q4) /\ q4) /\ ((True /\ True /\ True /\ True /\ q13 /\ q13 /\ q13 /\ q13 /\ q13 /\ True /\ True /\ q17 /\ q17 /\ q17 /\ q17 /\ q21 /\ q21 /\ q21 /\ q21 /\ q21 /\ q17 /\ q4) /\ True) /\ ((True /\ True /\ True /\ True /\ q23 /\ q23 /\ q23 /\ True /\ True /\ q26 /\ q26 /\ q30 /\ q30 /\ q30 /\ q34 /\ q34 /\ q34 /\ q30 /\ q30 /\ q36 /\ q36 /\ q36 /\ q30 /\ q26 /\ True /\ True /\ q40 /\ q40 /\ q40 /\ q42 /\ q42 /\ q40 /\ True /\ True /\ q46 /\ q46 /\ q46 /\ q48 /\ q48 /\ q46 /\ q4) /\ True) /\ (bif q44 then true else bif q47 then q33 else false) = Sp.depP x.1 x.2.1 x.2.2.1) := by kernel_rfl
end Go.User
