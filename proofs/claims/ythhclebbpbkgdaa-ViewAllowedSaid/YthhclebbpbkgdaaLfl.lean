/- Written by gen.py: what is left to show of each function. The reference's steps, its search; the program's steps; runs: what is computed. Written by gen.py: what is left to show of each function. The reference's state at first, a copy of a state, an outcome: as they should be. The reference's step: as it should be. The machine of views: what a step does, place by place; states in which all holds that the laws need: plain facts. The machine of views: what it comes to; all outcomes: plain facts. The machine of views: a machine that follows another one: plain facts. Written by gen.py: what is left to show of each function. Made: what it returns is its caller's own. The reference's valid tests are the program's: plain facts. The number of operations of a test: plain facts. The machine of views: fences, exchanged places, further cores: plain facts. ViewFences: what is computed. Tests out of bytes are valid; one more fence: plain facts. The low bits of a number: plain facts. Written by gen.py: what is left to show of each function. ViewFences answers true. The reference's outcome, step: as they should be. The reference's search, runs: plain facts. Written by gen.py: what is left to show of each function. The reference's search, the program's steps, runs: as they should be. What happens before what, in an order of execution: plain facts. Graphs of runs: what is computed. Events of a test, of a graph: plain facts. Written by gen.py: what is left to show of each function. -/
import Derived.Test.YthhclebbpbkgdaaLfk
set_option linter.unusedVariables false
set_option linter.unusedSimpArgs false
namespace Go.User
open Go.Proofs Go.Lf
set_option maxRecDepth 100000
theorem vc48 : (bV C48 (stpS C48) S48 L48 Try.f48) = (
let q0 : Nat := (1000 : Nat);
let q1 : Prop := True /\ True /\ True;
let q2 : Prop := q1 /\ True;
let q3 : Int := (0 : tI.den);
let q4 : Prop := (True /\ True) /\ True;
let q5 : Nat := (3 : Nat);
let q6 : Int := (0 : Int);
let q7 : List (List Sp.Msg) := ([] : List tMsg.slice.den);
let q8 : List (List Int) := ([] : List tI.slice.den);
let q9 : Int := (1 : Int);
let q10 : Int := -q9;
let q11 : List Int := q10 :: ([] : List tI.den);
let q12 : List Int := q10 :: q10 :: q11;
let q13 : Sp.Out := (([] : List tI.den), ([] : List tI.den), ());
let q14 : Nat := (0 : Nat);
let q15 : Sp.VSt := ((([] : List a9.slice.den), ()), ([] : List tI.den), q7, q8, ([] : List tI.den), ([] : List tI.den), q13);
let q16 : Prop := q15 = q15 /\ True;
let q17 : Prop := True /\ q1;
let q18 : Prop := True /\ q17;
let q19 : Prop := True /\ q18;
let q20 : List (List Sp.Msg) := ((q10, q6, false, ()) :: ([] : List tMsg.den)) :: q7;
let q21 : List Step := Step.snd :: Step.snd :: Step.fst :: ([] : List Step);
let q22 : List Step := List.append._f (([] : List Step)) PUnit.unit q21;
let q23 : List Int × Unit := (([] : List Int), ());
let q24 : Sp.Out := (Sp.froms q14, q23);
let q25 : Prop := q19 /\ True;
let q26 : List (List Int) := q12 :: q8;
let q27 : List Step := Step.snd :: q21;
let q28 : List Step := List.append._f (([] : List Step)) PUnit.unit q27;
let q29 : List (List Sp.Msg) := Sp.memR q5;
let q30 : List Step := List.append._f (([] : List Step)) PUnit.unit (Step.snd :: Step.snd :: Step.snd :: q27);
∀ (x : Sp.Lit × Unit),
 let q31 : Nat := x.1.1.length;
 let q32 : Int := (↑q31 : Int);
 let q33 : Int := (↑(Sp.aB x.1.1) : Int);
 let q34 : Prop := x.1 = x.1 /\ q16;
 let q35 : List Int := Sp.zeros x.1.1.length;
 let q36 : List Int := Sp.zeros (Sp.aB x.1.1);
 let q37 : List Int × List Int × Sp.Out := (Sp.v0, q36, q24);
 Sp.aB x.1.1 <= q0 /\ q31 <= q0 ->
 aD tLit x.1 /\ True ->
 q2 /\
 ((True /\ True /\ True /\ True /\ (q3 <= q32 /\ q32 <= q32 /\ q32 <= aN) /\ True /\ True /\ Sp.aB x.1.1 <= (1000000 : Nat) /\ (q3 <= q33 /\ q33 <= q33 /\ q33 <= aN) /\ q1) /\ True /\ True) /\
 q4 /\
 (∃ (x_1 : Nat), x_1 <= q5 /\ q6 = (↑x_1 : Int) /\ (x.1, List.replicate q32.toNat q6, q7, q8, q12, List.replicate q33.toNat q6, q13) = Sp.stR x.1 x_1 q14 q14 /\ q34) /\
 ∀ (x_1 : Nat),
 let q38 : Sp.VSt := Sp.stR x.1 x_1 q14 q14;
 let q39 : Bool := decide ((↑x_1 : Int) < (3 : Int));
 let q40 : Int := (↑x_1 : Int) + q9;
 x_1 <= q5 ->
 aD tI (↑x_1 : Int) /\ aD tRSt q38 /\ True ->
 q2 /\
 (q39 = true -> (q19 /\ (↑((Sp.memR x_1).length + q20.length) : Int) <= aN /\ True /\ q22 = q22 /\ True) /\ ((True /\ inK IntKind.i64 q40 /\ True /\ True) /\ True) /\ ∃ (y : Nat), y <= q5 /\ q5 - y < q5 - x_1 /\ q40 = (↑y : Int) /\ (x.1, q35, Sp.memR x_1 ++ q20, Sp.views q14, q37) = Sp.stR x.1 y q14 q14 /\ q34) /\
 (q39 = false ->
 q4 /\
 (∃ (x_2 : Nat), x_2 <= q31 /\ q6 = (↑x_2 : Int) /\ q38 = Sp.stR x.1 q5 x_2 q14 /\ q34) /\
 ∀ (x_2 : Nat),
 let q41 : Sp.VSt := Sp.stR x.1 q5 x_2 q14;
 let q42 : Bool := decide ((↑x_2 : Int) < q32);
 let q43 : Int := (↑x_2 : Int) + q9;
 x_2 <= q31 ->
 aD tI (↑x_2 : Int) /\ aD tRSt q41 /\ True ->
 q25 /\
 (q42 = true -> (q18 /\ (↑((Sp.views x_2).length + q26.length) : Int) <= aN /\ True /\ q28 = q28 /\ True) /\ ((True /\ inK IntKind.i64 q43 /\ True /\ True) /\ True) /\ ∃ (y : Nat), y <= q31 /\ q31 - y < q31 - x_2 /\ q43 = (↑y : Int) /\ (x.1, q35, q29, Sp.views x_2 ++ q26, q37) = Sp.stR x.1 q5 y q14 /\ q34) /\
 (q42 = false ->
 q4 /\
 (∃ (x_3 : Nat), x_3 <= Sp.aB x.1.1 /\ q6 = (↑x_3 : Int) /\ q41 = Sp.stR x.1 q5 q31 x_3 /\ q34) /\
 ∀ (x_3 : Nat),
 let q44 : Sp.VSt := Sp.stR x.1 q5 q31 x_3;
 let q45 : Bool := decide ((↑x_3 : Int) < (↑q36.length : Int));
 let q46 : Int := (↑x_3 : Int) + q9;
 x_3 <= Sp.aB x.1.1 -> aD tI (↑x_3 : Int) /\ aD tRSt q44 /\ True -> q25 /\ (q45 = true -> (q17 /\ (↑((Sp.froms x_3).length + q11.length) : Int) <= aN /\ True /\ q30 = q30 /\ True) /\ ((True /\ inK IntKind.i64 q46 /\ True /\ True) /\ True) /\ ∃ (y : Nat), y <= Sp.aB x.1.1 /\ Sp.aB x.1.1 - y < Sp.aB x.1.1 - x_3 /\ q46 = (↑y : Int) /\ (x.1, q35, q29, Sp.views q31, Sp.v0, q36, Sp.froms x_3 ++ q11, q23) = Sp.stR x.1 q5 q31 y /\ q34) /\ (q45 = false -> ((True /\ True) /\ True /\ True) /\ q44 = Sp.stR x.1 q5 q31 (Sp.aB x.1.1))))) := by kernel_rfl
end Go.User
namespace Sp
def feN (s : VSt) (c n : Nat) : List Int := (List.range 3).map fun (j : Nat) => if j < n then later s c j else fnc s j
def okA (n : Nat) (l : List Out) (s : VSt) : Prop := Good s /\ aB s.1.1 <= 6 /\ left s = n /\ l.length + 28 ^ n <= 490000000
def cho0 : Cho := (0, 0, ())
def stpB (s : VSt) (k : Int) : Bool := decide (0 <= k) && decide (k < ((aE s).length : Int))
def stpV (s : VSt) (k : Int) : VSt := if stpB s k = true then next s ((aE s).getD k.toNat cho0) else s
def stpE (s : VSt) (k : Int) : Int := if stpB s k = true then 0 else 1
def pick (l : List Int) (i n : Nat) : Int := if l.length = 0 then 0 else (l.getD (i % l.length) 0).tmod (n : Int)
def runS (s : VSt) (l : List Int) : Nat -> VSt
 | 0 => s
 | i + 1 => if aE (runS s l i) = [] then runS s l i else next (runS s l i) ((aE (runS s l i)).getD (pick l i (aE (runS s l i)).length).toNat cho0)
end Sp
namespace Go.User
open Go.Lf
abbrev mRo : Md := .pair .shr (.pair (.own .shr) (.pair (.own .shr) (.pair (.own (.own .shr)) (.pair (.own .shr) (.pair (.own .shr) (.pair (.own .shr) (.pair (.own .shr) .shr)))))))
abbrev mR2 : Md := .pair .shr (.pair (.own .shr) (.pair (.own .shr) .shr))
def S81 : aU := { args := [.val tRSt], multi := false, res := tRSt, mode := mRo, pre := fun x => Sp.OkS x.1, fn := fun x => x.1 }
def C81 : Ctx := { mkS 56 [] with mds := [(1, mV0), (2, mRo), (15, .own (.own .shr)), (31, .own (.own .shr)), (3, .own (.own .shr))] }
def L81 (x : aO S81.args) : List aS := [
 {ι := Nat, inv := fun c => c <= List.length x.1.2.2.2.1, dec := fun c => List.length x.1.2.2.2.1 - c, ovr := fun c => [(4, .shr tI (c : Int)), (3, .own (.slice (.slice tI)) (.own (.own .shr)) (List.take c x.1.2.2.2.1)), (1, .box tRSt mR2 x.1)], keep := [2] }]
def S51 : aU := { args := [.val tRSt, .val tCho], multi := false, res := tRSt, mode := .shr, pre := fun x => Sp.okX x.1 x.2.1, fn := fun x => (x.1.1, Sp.nPc x.1 x.2.1, Sp.nMem x.1 x.2.1, Sp.nVw x.1 x.2.1, Sp.nFe x.1 x.2.1, Sp.nR x.1 x.2.1, Sp.nFr x.1 x.2.1, Sp.nFo x.1 x.2.1, ()) }
def C51 : Ctx := { mkS 189 [(81, S81), (82, S82), (80, S80)] with wrp := [156], mds := [(2, mV0), (4, mV0), (5, mRo), (15, mRo)], frz := [177], fzs := [5] }
def L51 (x : aO S51.args) : List aS := [
 {ι := Nat, inv := fun k => k <= 3, dec := fun k => 3 - k, ovr := fun k => [(9, .shr tI (k : Int)), (5, .box tRSt mRo (x.1.1, Sp.nPc x.1 x.2.1, x.1.2.2.1, Sp.vwN x.1 (Sp.ofC x.2.1) k, Sp.feN x.1 (Sp.ofC x.2.1) k, x.1.2.2.2.2.2.1, x.1.2.2.2.2.2.2.1, x.1.2.2.2.2.2.2.2.1, ()))], keep := [2, 3, 4, 6, 7, 8] }]
def S28 : aU := { args := [.val tVSt, .val tI], multi := true, res := .prod tVSt (.prod tI .unit), mode := .shr, pre := fun x => Sp.OkS x.1, fn := fun x => (Sp.stpV x.1 x.2.1, Sp.stpE x.1 x.2.1, ()) }
def C28 : Ctx := { mkS 24 [(53, S53), (54, S54)] with mds := [(2, mV0), (4, mV0)] }
def L28 (x : aO S28.args) : List aS := []
abbrev mRn : Md := .pair mV0 (.pair mV0 (.pair .shr .shr))
def S23 : aU := { args := [.val tLit, .val (.slice (.int .u8))], multi := false, res := tRun, mode := .shr, pre := fun x => Sp.valid x.1 = true, fn := fun x => (Sp.runS (Sp.start x.1) x.2.1 6, Sp.runS (Sp.start x.1) x.2.1 6, true, ()) }
def C23 : Ctx := { mkS 90 [(19, S19), (48, S48), (50, S50), (31, S31), (26, S26), (28, S28), (51, S51)] with mds := [(2, .pair .shr .shr), (24, mRn), (7, mRn), (4, mRn), (5, mV0), (12, mV0)] }
def L23 (x : aO S23.args) : List aS := [
 {ι := Nat, inv := fun i => i <= 6, dec := fun i => 6 - i, ovr := fun i => [(8, .shr tI (i : Int)), (7, .box tRun .shr (Sp.runS (Sp.start x.1) x.2.1 i, Sp.runS (Sp.start x.1) x.2.1 i, true, ()))], keep := [1, 4] }]
end Go.User
namespace Go.User
open Go.Proofs Go.Lf
set_option maxRecDepth 100000
theorem vc81 : (bV C81 (stpS C81) S81 L81 Try.f81) = (
let q0 : Prop := True /\ True /\ True;
let q1 : Nat := (0 : Nat);
let q2 : Prop := (True /\ True) /\ True /\ True;
let q3 : List (List Int) := ([] : List tI.slice.den);
let q4 : Sp.VSt := ((([] : List a9.slice.den), ()), ([] : List tI.den), ([] : List tMsg.slice.den), q3, ([] : List tI.den), ([] : List tI.den), ([] : List tI.den), ([] : List tI.den), ());
let q5 : Prop := q4 = q4 /\ True;
let q6 : Int := (1 : Int);
∀ (x : Sp.VSt × Unit),
 let q7 : Prop := aD tRSt x.1 /\ True;
 let q8 : List (List Int) := x.1.2.2.2.1;
 let q9 : Nat := q8.length;
 let q10 : List Int × List Int × Sp.Out := x.1.2.2.2.2;
 let q11 : List Int := q10.1;
 let q12 : List Int × Sp.Out := q10.2;
 let q13 : List Int := q12.1;
 let q14 : Sp.Out := q12.2;
 let q15 : List Int := q14.1;
 let q16 : List Int × Unit := q14.2;
 let q17 : List Int := q16.1;
 Sp.OkS x.1 ->
 q7 ->
 (q0 /\ True) /\
 ((True /\ True /\ True /\ (↑(q1 + x.1.2.1.length) : Int) <= aN /\ True /\ True) /\ True /\ True) /\
 ((True /\ True /\ True /\ (↑(q1 + x.1.2.2.1.length) : Int) <= aN /\ True /\ True) /\ True /\ True) /\
 q2 /\
 ((True /\ True) /\ True) /\
 (∃ (x_1 : Nat), x_1 <= q9 /\ (0 : Int) = (↑x_1 : Int) /\ q3 = List.take x_1 q8 /\ (x.1.1, x.1.2.1, x.1.2.2.1, x.1.2.2.2) = x.1 /\ q5) /\
 ∀ (x_1 : Nat),
 let q18 : List (List Int) := List.take x_1 q8;
 let q19 : Bool := decide ((↑x_1 : Int) < (↑q9 : Int));
 let q20 : List Int := q8.getD (↑x_1 : Int).toNat (([] : List tI.den));
 let q21 : List (List Int) := q20 :: q3;
 let q22 : Int := (↑x_1 : Int) + q6;
 x_1 <= q9 -> aD tI (↑x_1 : Int) /\ aD tI.slice.slice q18 /\ q7 -> ((True /\ True /\ True /\ q0) /\ True) /\ (q19 = true -> ((True /\ True /\ True /\ True /\ True /\ inN (↑x_1 : Int) q9 /\ True /\ (↑(q1 + q20.length) : Int) <= aN /\ True /\ True) /\ (↑(q18.length + q21.length) : Int) <= aN /\ True /\ True) /\ ((True /\ inK IntKind.i64 q22 /\ True /\ True) /\ True) /\ ∃ (y : Nat), y <= q9 /\ q9 - y < q9 - x_1 /\ q22 = (↑y : Int) /\ q18 ++ q21 = List.take y q8 /\ x.1 = x.1 /\ q5) /\ (q19 = false -> (q0 /\ True /\ True) /\ ((True /\ True /\ True /\ (↑(q1 + q11.length) : Int) <= aN /\ True /\ True) /\ True /\ True) /\ ((True /\ True /\ True /\ (↑(q1 + q13.length) : Int) <= aN /\ True /\ True) /\ True /\ True) /\ ((True /\ True /\ True /\ (↑(q1 + q15.length) : Int) <= aN /\ True /\ True) /\ True /\ True) /\ ((True /\ True /\ True /\ (↑(q1 + q17.length) : Int) <= aN /\ True /\ True) /\ True /\ True) /\ q2 /\ (x.1.1, x.1.2.1, x.1.2.2.1, q18, q11, q13, q15, q17, q16.2) = x.1)) := by kernel_rfl
theorem vc51 : (bV C51 (stpS C51) S51 L51 Try.f51) = (
let q0 : Prop := True /\ True /\ True;
let q1 : Prop := True /\ q0;
let q2 : Prop := q1 /\ True;
let q3 : Int := (0 : Int);
let q4 : Prop := True /\ q1;
let q5 : Prop := True /\ q4;
let q6 : Int := (1 : Int);
let q7 : Sp.LOp := (q3, q3, q3, ());
let q8 : Nat := (3 : Nat);
let q9 : Sp.VSt := ((([] : List a9.slice.den), ()), ([] : List tI.den), ([] : List tMsg.slice.den), ([] : List tI.slice.den), ([] : List tI.den), ([] : List tI.den), ([] : List tI.den), ([] : List tI.den), ());
let q10 : Prop := q9 = q9;
let q11 : Prop := q0 /\ True;
let q12 : Int := (3 : Int);
let q13 : List Step := List.append._f (([] : List Step)) PUnit.unit (Step.snd :: Step.snd :: Step.snd :: Step.snd :: Step.snd :: Step.snd :: Step.snd :: Step.fst :: ([] : List Step));
let q14 : Prop := (True /\ True) /\ True /\ True;
let q15 : Sp.Msg := (q3, q3, false, ());
let q16 : Prop := True /\ q5;
let q17 : Prop := (True /\ True /\ q16) /\ True /\ True;
let q18 : Prop := q16 /\ True /\ True;
∀ (x : Sp.VSt × (Int × Int × Unit) × Unit),
 let q19 : Nat := x.1.1.1.length;
 let q20 : Nat := x.1.2.1.length;
 let q21 : Prop := inN x.2.1.1 q20;
 let q22 : Nat := x.2.1.1.toNat;
 let q23 : Int := x.1.2.1.getD q22 q3;
 let q24 : List Sp.LOp := x.1.1.1.getD q22 (([] : List a9.den));
 let q25 : Int := Sp.bA x.1 q22;
 let q26 : Int := q23 + q6;
 let q27 : Sp.LOp := q24.getD q23.toNat q7;
 let q28 : Int := q27.1;
 let q29 : Bool := q28 == (4 : Int);
 let q30 : List Int := x.1.2.1.set q22 q26;
 let q31 : List Int := Sp.nPc x.1 x.2.1;
 let q32 : List Int × List Int × Sp.Out := x.1.2.2.2.2;
 let q33 : List Int × Sp.Out := q32.2;
 let q34 : List Int := q33.1;
 let q35 : Sp.Out := q33.2;
 let q36 : List Int := q35.1;
 let q37 : List Int × Unit := q35.2;
 let q38 : List Int := q37.1;
 let q39 : List Int × Sp.Out := (q34, q36, q38, ());
 let q40 : Int := Sp.evt x.1 x.2.1.1;
 let q41 : Prop := x.1 = x.1 /\ x.2.1 = x.2.1 /\ q10 /\ q27 = q27 /\ q40 = q40 /\ x.2.1.1 = x.2.1.1 /\ True;
 let q42 : List (List Int) := x.1.2.2.2.1;
 let q43 : Prop := inN x.2.1.1 q42.length;
 let q44 : List Int := q42.getD q22 (([] : List tI.den));
 let q45 : Nat := q44.length;
 let q46 : Nat := x.1.2.2.1.length;
 let q47 : List Int := q32.1;
 let q48 : Nat := q47.length;
 let q49 : List Int := q40 :: ([] : List tI.den);
 let q50 : Sp.VSt := (x.1.1, q31, Sp.nMem x.1 x.2.1, Sp.nVw x.1 x.2.1, Sp.nFe x.1 x.2.1, Sp.nR x.1 x.2.1, Sp.nFr x.1 x.2.1, Sp.nFo x.1 x.2.1, ());
 let q51 : Int × Int × Unit := q27.2;
 let q52 : Int := q51.1;
 let q53 : Prop := inN q52 q46;
 let q54 : Nat := q52.toNat;
 let q55 : List Sp.Msg := x.1.2.2.1.getD q54 (([] : List tMsg.den));
 let q56 : Nat := q55.length;
 let q57 : Bool := q28 != (2 : Int);
 let q58 : Bool := q28 == q6;
 let q59 : Prop := q58 = true;
 let q60 : Prop := True /\ True /\ True /\ True /\ inN q52 q45 /\ True;
 let q61 : Prop := (True /\ True /\ True /\ q43 /\ True /\ q60) /\ True /\ True;
 let q62 : Sp.Msg := q55.getD x.2.1.2.1.toNat q15;
 let q63 : Int := q62.1;
 let q64 : List (List Int) := q42.set q22 (q44.set q54 q63);
 let q65 : Nat := q40.toNat;
 let q66 : Int := q62.2.1;
 let q67 : List Int × List Int × Sp.Out := (q47, q34.set q65 q66, q36.set q65 q63, q37);
 let q68 : Prop := q58 = false;
 let q69 : Bool := q28 == q12;
 let q70 : Prop := q69 = true;
 let q71 : Int := x.2.1.2.1 + q6;
 let q72 : Prop := inK IntKind.i64 q71;
 let q73 : Prop := winI q3 q71 q56;
 let q74 : List Sp.Msg := win q3 q71 q55;
 let q75 : Nat := q74.length;
 let q76 : Prop := (↑((0 : Nat) + q75) : Int) <= aN;
 let q77 : Int := q51.2.1;
 let q78 : Bool × Unit := (q69, ());
 let q79 : List Sp.Msg := (q40, IntKind.i64.wrap (q66 + q77), q78) :: ([] : List tMsg.den);
 let q80 : Int := (↑q56 : Int);
 let q81 : Prop := winI q71 q80 q56;
 let q82 : List Sp.Msg := q74 ++ q79;
 let q83 : List Sp.Msg := win q71 q80 q55;
 let q84 : Nat := q83.length;
 let q85 : Prop := q53 /\ True;
 let q86 : Prop := (True /\ True /\ True /\ True /\ True /\ True /\ True /\ True /\ q72 /\ q73 /\ q76 /\ True /\ True /\ (↑(q75 + q79.length) : Int) <= aN /\ True /\ True /\ True /\ q72 /\ q81 /\ (↑(q82.length + q84) : Int) <= aN /\ q85) /\ True /\ True;
 let q87 : Prop := (True /\ True /\ True /\ q43 /\ q60) /\ True /\ True;
 let q88 : List (List Sp.Msg) := x.1.2.2.1.set q54 (q82 ++ q83);
 let q89 : List (List Int) := q42.set q22 (q44.set q54 q40);
 let q90 : List (List Int) × List Int × List Int × Sp.Out := (q89, q67);
 let q91 : Prop := q69 = false;
 let q92 : List Sp.Msg := (q40, q77, q78) :: ([] : List tMsg.den);
 let q93 : List Sp.Msg := q74 ++ q92;
 let q94 : Prop := (True /\ True /\ True /\ True /\ True /\ True /\ True /\ True /\ q72 /\ q73 /\ q76 /\ True /\ True /\ (↑(q75 + q92.length) : Int) <= aN /\ True /\ True /\ True /\ q72 /\ q81 /\ (↑(q93.length + q84) : Int) <= aN /\ q85) /\ True /\ True;
 let q95 : List (List Sp.Msg) := x.1.2.2.1.set q54 (q93 ++ q83);
 let q96 : List (List Int) × List Int × List Int × Sp.Out := (q89, q32);
 Sp.okX x.1 x.2.1 ->
 aD tRSt x.1 /\ aD (tI.prod (tI.prod Ty.unit)) x.2.1 /\ True ->
 q2 /\
 ((True /\ Sp.OkS x.1 /\ True /\ True) /\ True /\ True) /\
 (True /\ True /\ True /\ True /\ True /\ inN x.2.1.1 q19 /\ True /\ True /\ True /\ True /\ True /\ q21 /\ True /\ inN q23 q24.length /\ True /\ True /\ True /\ True /\ (Sp.aB x.1.1.1 <= (1000 : Nat) /\ (0 : (AK.val tI).den) <= x.2.1.1 /\ x.2.1.1 < (↑q19 : Int) /\ q20 = q19 /\ q3 <= q25 /\ q25 <= (1000 : Int)) /\ q5) /\
 ((True /\ True /\ True /\ q21 /\ True /\ inK IntKind.i64 q26 /\ q21 /\ True) /\ True /\ True) /\
 q2 /\
 (q29 = true ->
 ((True /\ True) /\ True) /\
 (∃ (x_1 : Nat), x_1 <= q8 /\ q3 = (↑x_1 : Int) /\ (x.1.1, q30, x.1.2.2) = (x.1.1, q31, x.1.2.2.1, Sp.vwN x.1 (Sp.ofC x.2.1) x_1, Sp.feN x.1 (Sp.ofC x.2.1) x_1, q39) /\ q41) /\
 ∀ (x_1 : Nat),
 let q97 : List (List Int) := Sp.vwN x.1 (Sp.ofC x.2.1) x_1;
 let q98 : List Int := Sp.feN x.1 (Sp.ofC x.2.1) x_1;
 let q99 : Bool := decide ((↑x_1 : Int) < q12);
 let q100 : Prop := inN (↑x_1 : Int) q46;
 let q101 : Prop := inN (↑x_1 : Int) q48;
 let q102 : Nat := (↑x_1 : Int).toNat;
 let q103 : List Sp.Msg := x.1.2.2.1.getD q102 (([] : List tMsg.den));
 let q104 : Int := q47.getD q102 q3;
 let q105 : Int := q44.getD q102 q3;
 let q106 : Bool := decide (Sp.plc q103 q104 > Sp.plc q103 q105);
 let q107 : List Int := q97.getD q22 (([] : List tI.den));
 let q108 : Prop := (True /\ True /\ True /\ inN x.2.1.1 q97.length /\ True /\ True /\ True /\ inN (↑x_1 : Int) q107.length /\ True) /\ True /\ True;
 let q109 : Prop := (True /\ True /\ True /\ True /\ inN (↑x_1 : Int) q98.length /\ True) /\ True /\ True;
 let q110 : Int := (↑x_1 : Int) + q6;
 let q111 : Prop := (True /\ inK IntKind.i64 q110 /\ True /\ True) /\ True;
 x_1 <= q8 -> aD tI (↑x_1 : Int) /\ aD tRSt (x.1.1, q31, x.1.2.2.1, q97, q98, q39) /\ True -> q11 /\ (q99 = true -> ((True /\ True /\ True /\ q43 /\ True /\ True /\ inN (↑x_1 : Int) q45 /\ q0) /\ True) /\ ((True /\ True /\ True /\ q100 /\ True /\ True /\ True /\ True /\ q101 /\ True /\ True /\ True /\ True /\ True /\ q100 /\ q4) /\ True) /\ (q106 = true -> ((True /\ True /\ True /\ q101 /\ q0) /\ True) /\ q108 /\ q109 /\ q111 /\ ∃ (y : Nat), y <= q8 /\ q8 - y < q8 - x_1 /\ q110 = (↑y : Int) /\ (x.1.1, q31, x.1.2.2.1, q97.set q22 (q107.set q102 q104), q98.set q102 q104, q39) = (x.1.1, q31, x.1.2.2.1, Sp.vwN x.1 (Sp.ofC x.2.1) y, Sp.feN x.1 (Sp.ofC x.2.1) y, q39) /\ q41) /\ (q106 = false -> q108 /\ q109 /\ q111 /\ ∃ (y : Nat), y <= q8 /\ q8 - y < q8 - x_1 /\ q110 = (↑y : Int) /\ (x.1.1, q31, x.1.2.2.1, q97.set q22 (q107.set q102 q105), q98.set q102 q105, q39) = (x.1.1, q31, x.1.2.2.1, Sp.vwN x.1 (Sp.ofC x.2.1) y, Sp.feN x.1 (Sp.ofC x.2.1) y, q39) /\ q41)) /\ (q99 = false -> (q4 /\ (↑(q38.length + q49.length) : Int) <= aN /\ True /\ q13 = q13 /\ True) /\ q14 /\ (x.1.1, q31, x.1.2.2.1, q97, q98, q34, q36, q38 ++ q49, ()) = q50)) /\
 (q29 = false -> ((True /\ True /\ True /\ True /\ q53 /\ q0) /\ True) /\ ((True /\ True /\ True /\ inN x.2.1.2.1 q56 /\ q0) /\ True /\ True) /\ q2 /\ (q57 = true -> ((True /\ True /\ True /\ True /\ True /\ inN q40 q34.length /\ True) /\ True /\ True) /\ ((True /\ True /\ True /\ True /\ True /\ inN q40 q36.length /\ True) /\ True /\ True) /\ q2 /\ (q59 -> q61 /\ q14 /\ (x.1.1, q30, x.1.2.2.1, q64, q67) = q50) /\ (q68 -> q17 /\ q11 /\ (q70 -> q18 /\ q86 /\ q87 /\ q14 /\ (x.1.1, q30, q88, q90) = q50) /\ (q91 -> q94 /\ q87 /\ q14 /\ (x.1.1, q30, q95, q90) = q50))) /\ (q57 = false -> q2 /\ (q59 -> q61 /\ q14 /\ (x.1.1, q30, x.1.2.2.1, q64, q32) = q50) /\ (q68 -> q17 /\ q11 /\ (q70 -> q18 /\ q86 /\ q87 /\ q14 /\ (x.1.1, q30, q88, q96) = q50) /\ (q91 -> q94 /\ q87 /\ q14 /\ (x.1.1, q30, q95, q96) = q50))))) := by kernel_rfl
end Go.User
namespace Sp
theorem memR_succ (n : Nat) : memR n ++ [m0] :: [] = memR (n + 1) := by
 unfold memR
 rw [List.replicate_succ']
theorem views_succ (n : Nat) : views n ++ v0 :: [] = views (n + 1) := by
 unfold views
 rw [List.replicate_succ']
theorem froms_succ (n : Nat) : froms n ++ (-1) :: [] = froms (n + 1) := by
 unfold froms
 rw [List.replicate_succ']
end Sp
namespace Go.User
open Go.Lf Go.Proofs
theorem ok48 : FOk Try.prog 48 S48 := by
 have hC : aJ Try.prog C48 := okC (aG ok18 fns_nil) rfl rfl rfl rfl rfl rfl rfl
 refine FOk.intro hC (aW hC) Try.call48 Try.func48 (by kernel_rfl) (by kernel_rfl) L48 (vc48.mpr ?_)
 simp only [zz, zy]
 rintro ⟨t, u⟩ ⟨h1, h2⟩ hx
 have h1 : Sp.aB t.1 <= 1000 := h1
 have h2 : t.1.length <= 1000 := h2
 have hmx : aN = 2147483648 := rfl
 have hz : (Sp.zeros (Sp.aB t.1)).length = Sp.aB t.1 := by simp [Sp.zeros]
 refine ⟨⟨⟨Int.natCast_nonneg _, Int.le_refl _, ?_⟩, ?_, Int.natCast_nonneg _, Int.le_refl _, ?_⟩, ⟨0, by omega, rfl, rfl⟩, fun n hn _ => ⟨fun hlt => ?_, fun hge => ?_⟩⟩
 ·show (t.1.length : Int) <= aN; omega
 ·show Sp.aB t.1 <= 1000000; omega
 ·show (Sp.aB t.1 : Int) <= aN; omega
 ·have hlt : (n : Int) < 3 := hlt
  refine ⟨?_, bE (by omega) (by omega), n + 1, by omega, by omega, by omega, ?_⟩
  ·show (((Sp.memR n).length + 1 : Nat) : Int) <= aN
   have : (Sp.memR n).length = n := by simp [Sp.memR]
   omega
  ·show (t, Sp.zeros t.1.length, Sp.memR n ++ [Sp.m0] :: [], Sp.views 0, Sp.v0, Sp.zeros (Sp.aB t.1), Sp.froms 0, ([] : List Int), ()) = Sp.stR t (n + 1) 0 0
   rw [Sp.memR_succ]; rfl
 ·have hn : n <= 3 := hn
  have hge : (3 : Int) <= (n : Int) := hge
  have hn : n = 3 := by omega
  subst hn;refine ⟨⟨0, Nat.zero_le _, rfl, rfl⟩, fun c hc _ => ⟨fun hlt => ?_, fun hge => ?_⟩⟩
  ·have hlt : (c : Int) < (t.1.length : Int) := hlt
   refine ⟨?_, bE (by omega) (by omega), c + 1, ?_, ?_, by omega, ?_⟩
   ·show (((Sp.views c).length + 1 : Nat) : Int) <= aN
    have : (Sp.views c).length = c := by simp [Sp.views]
    omega
   ·show c + 1 <= t.1.length; omega
   ·show t.1.length - (c + 1) < t.1.length - c; omega
   ·show (t, Sp.zeros t.1.length, Sp.memR 3, Sp.views c ++ Sp.v0 :: [], Sp.v0, Sp.zeros (Sp.aB t.1), Sp.froms 0, ([] : List Int), ()) = Sp.stR t 3 (c + 1) 0
    rw [Sp.views_succ]; rfl
  ·have hc : c <= t.1.length := hc
   have hge : (t.1.length : Int) <= (c : Int) := hge
   have hc : c = t.1.length := by omega
   subst hc;refine ⟨⟨0, Nat.zero_le _, rfl, rfl⟩, fun e he _ => ⟨fun hlt => ?_, fun hge => ?_⟩⟩
   ·have hlt : (e : Int) < ((Sp.zeros (Sp.aB t.1)).length : Int) := hlt
    rw [hz] at hlt;refine ⟨?_, bE (by omega) (by omega), e + 1, ?_, ?_, by omega, ?_⟩
    ·show (((Sp.froms e).length + 1 : Nat) : Int) <= aN
     have : (Sp.froms e).length = e := by simp [Sp.froms]
     omega
    ·show e + 1 <= Sp.aB t.1; omega
    ·show Sp.aB t.1 - (e + 1) < Sp.aB t.1 - e; omega
    ·show (t, Sp.zeros t.1.length, Sp.memR 3, Sp.views t.1.length, Sp.v0, Sp.zeros (Sp.aB t.1), Sp.froms e ++ (-1) :: [], ([] : List Int), ()) = Sp.stR t 3 t.1.length (e + 1)
     rw [Sp.froms_succ]; rfl
   ·have he : e <= Sp.aB t.1 := he
    have hge : ((Sp.zeros (Sp.aB t.1)).length : Int) <= (e : Int) := hge
    rw [hz] at hge;have he : e = Sp.aB t.1 := by omega
    subst he; rfl
theorem ok81 : FOk Try.prog 81 S81 := by
 have hC : aJ Try.prog C81 := okC fns_nil rfl rfl rfl rfl rfl rfl rfl
 refine FOk.intro hC (aW hC) Try.call81 Try.func81 (by kernel_rfl) (by kernel_rfl) L81 (vc81.mpr ?_)
 simp only [zz, zy]
 rintro ⟨s, u⟩ hs hx
 have hs : Sp.OkS s := hs
 have htot := hs.tot
 have hfew := hs.few
 have hpcl := hs.pcl
 have hvwl := hs.vwl
 have hmeml := hs.meml
 have hfel := hs.fel
 have hrl := hs.rl
 have hfrl := hs.frl
 have hfol := hs.fol
 have hmx : aN = 2147483648 := rfl
 refine ⟨?_, ?_, ⟨0, Nat.zero_le _, rfl, by rfl⟩, fun c hc _ => ⟨fun hlt => ?_, fun hge => ?_⟩⟩
 ·show ((0 + s.2.1.length : Nat) : Int) <= aN; omega
 ·show ((0 + s.2.2.1.length : Nat) : Int) <= aN; omega
 ·have hlt : (c : Int) < (s.2.2.2.1.length : Int) := hlt
  have hcl : c < s.2.2.2.1.length := by omega
  have hrow : (s.2.2.2.1.getD c []).length = 3 := hs.row c (by omega)
  refine ⟨⟨⟨⟨by omega, hlt⟩, ?_⟩, ?_⟩, bE (by omega) (by omega), c + 1, ?_, ?_, by omega, ?_⟩
  ·show ((0 + (s.2.2.2.1.getD c []).length : Nat) : Int) <= aN; omega
  ·show (((s.2.2.2.1.take c).length + 1 : Nat) : Int) <= aN
   rw [List.length_take]; omega
  ·show c + 1 <= s.2.2.2.1.length; omega
  ·show s.2.2.2.1.length - (c + 1) < s.2.2.2.1.length - c; omega
  ·show s.2.2.2.1.take c ++ [s.2.2.2.1.getD c []] = s.2.2.2.1.take (c + 1)
   exact (Pl.take_succ hcl []).symm
 ·have hc : c <= s.2.2.2.1.length := hc
  have hge : (s.2.2.2.1.length : Int) <= (c : Int) := hge
  refine ⟨?_, ?_, ?_, ?_, ?_⟩
  ·show ((0 + s.2.2.2.2.1.length : Nat) : Int) <= aN; omega
  ·show ((0 + s.2.2.2.2.2.1.length : Nat) : Int) <= aN; omega
  ·show ((0 + s.2.2.2.2.2.2.1.length : Nat) : Int) <= aN; omega
  ·show ((0 + s.2.2.2.2.2.2.2.1.length : Nat) : Int) <= aN; omega
  ·show (s.1, s.2.1, s.2.2.1, s.2.2.2.1.take c, s.2.2.2.2.1, s.2.2.2.2.2.1, s.2.2.2.2.2.2.1, s.2.2.2.2.2.2.2.1, s.2.2.2.2.2.2.2.2) = s
   rw [Pl.take_all hc hge]
end Go.User
namespace Sp
theorem feN_len (s : VSt) (c n : Nat) : (feN s c n).length = 3 := by simp [feN]
theorem feN_get (s : VSt) (c n : Nat) {j : Nat} (hj : j < 3) : (feN s c n).getD j 0 = if j < n then later s c j else fnc s j := by
 unfold feN
 rw [List.getD_eq_getElem?_getD, List.getElem?_map, List.getElem?_range hj]; rfl
theorem ext3 {a b : List Int} (ha : a.length = 3) (hb : b.length = 3) (h : ∀ i, i < 3 -> a.getD i 0 = b.getD i 0) : a = b := by
 apply List.ext_getElem (ha.trans hb.symm)
 intro i h1 h2
 have := h i (by omega)
 rw [Pl.b8 h1, Pl.b8 h2] at this
 exact this
theorem feN_succ (s : VSt) (c : Nat) {n : Nat} (hn : n < 3) : (feN s c n).set n (later s c n) = feN s c (n + 1) := by
 refine ext3 (by rw [List.length_set, feN_len]) (feN_len _ _ _) fun i hi => ?_
 rw [Pl.bY i (by rw [feN_len]; exact hn), feN_get s c _ hi, feN_get s c _ hi]
 by_cases h : i = n
 ·subst h; rw [if_pos rfl, if_pos (by omega)]
 ·rw [if_neg h]
  by_cases h3 : i < n
  ·rw [if_pos h3, if_pos (by omega)]
  ·rw [if_neg h3, if_neg (by omega)]
theorem feN_zero {s : VSt} (c : Nat) (h : s.2.2.2.2.1.length = 3) : feN s c 0 = s.2.2.2.2.1 := by
 refine ext3 (feN_len _ _ _) h fun i hi => ?_
 rw [feN_get s c _ hi, if_neg (by omega)]; rfl
theorem feN_three (s : VSt) (c : Nat) : feN s c 3 = rowN s c 3 := by
 refine ext3 (feN_len _ _ _) (rowN_len _ _ _) fun i hi => ?_
 rw [feN_get s c _ hi, rowN_get s c _ hi, if_pos hi, if_pos hi]
end Sp
namespace Go.User
open Go.Lf Go.Proofs
set_option maxRecDepth 100000 in
theorem ok51 : FOk Try.prog 51 S51 := by
 have hC : aJ Try.prog C51 := okC (aG ok81 (aG ok82 (aG ok80 fns_nil))) rfl rfl rfl rfl rfl rfl rfl
 refine FOk.intro hC (aW hC) Try.call51 Try.func51 (by kernel_rfl) (by kernel_rfl) L51 (vc51.mpr ?_)
 simp only [zz, zy]
 rintro ⟨s, x, u⟩ h hx
 obtain ⟨hs, hm⟩ : Sp.OkS s /\ x ∈ Sp.aE s := h
 have X := hs.xf hm
 have hcn : x.1.toNat < s.1.1.length := X.lt
 have hc0 : 0 <= x.1 := by rw [X.eq]; exact Int.natCast_nonneg _
 have hc1 : x.1 < (s.1.1.length : Int) := by omega
 have hfew := hs.few
 have htot := hs.tot
 have hpcl := hs.pcl
 have hvwl := hs.vwl
 have hmeml := hs.meml
 have hfel := hs.fel
 have hrl := hs.rl
 have hfrl := hs.frl
 have hfol := hs.fol
 have hmx : aN = 2147483648 := rfl
 have hp0 : 0 <= Sp.bA s x.1.toNat := X.pc0
 have hp1 : (Sp.bA s x.1.toNat).toNat < (Sp.bJ s x.1.toNat).length := X.pc1
 have hev := Sp.evt_lt hc0 hc1 hp0 (by omega)
 have hpm : Sp.bA s x.1.toNat <= 1000 := by
  have e1 := Sp.total_take_succ (p := s.1.1) (i := x.1.toNat) hcn
  have e2 := Sp.bR s.1.1 (x.1.toNat + 1)
  have e3 : (Sp.bJ s x.1.toNat).length = (s.1.1.getD x.1.toNat []).length := rfl
  omega
 have iN : inN x.1 s.1.1.length := ⟨hc0, hc1⟩
 have iP : inN x.1 s.2.1.length := ⟨hc0, by omega⟩
 have iV : inN x.1 s.2.2.2.1.length := ⟨hc0, by omega⟩
 have iV' : ∀ n, inN x.1 (Sp.vwN s (Sp.ofC x) n).length := fun n => ⟨hc0, by rw [Sp.vwN_len]; omega⟩
 have hvc : Sp.ofC x < s.2.2.2.1.length := by show x.1.toNat < _; omega
 have hrow3 := hs.row _ X.lt
 have hrow3' : (s.2.2.2.1.getD x.1.toNat []).length = 3 := hrow3
 have hrowE : s.2.2.2.1.getD x.1.toNat [] = Sp.rowOf s (Sp.ofC x) := rfl
 have iO : inN (Sp.opX s x).2.1 3 := ⟨X.pl0, X.pl1⟩
 have iOm : inN (Sp.opX s x).2.1 s.2.2.1.length := by rw [hmeml]; exact iO
 have iOr : inN (Sp.opX s x).2.1 (s.2.2.2.1.getD x.1.toNat []).length := by rw [hrow3']; exact iO
 refine ⟨hs, ⟨iN, iP, ⟨hp0, ?_⟩, htot, hc0, hc1, hpcl, hp0, hpm⟩, ⟨iP, bE ?_ ?_, iP⟩, fun hf => ⟨⟨0, Nat.zero_le _, rfl, ?_⟩, fun k hk _ => ⟨fun hl => ?_, fun hg => ?_⟩⟩, fun hf => ?_⟩
 ·show Sp.bA s x.1.toNat < ((Sp.bJ s x.1.toNat).length : Int); omega
 ·show (-1000000000 : Int) <= Sp.bA s x.1.toNat + 1; omega
 ·show Sp.bA s x.1.toNat + 1 <= (1000000000 : Int); omega
 ·exact Sp.st_eq rfl rfl (Sp.vwN_zero hvc hrow3).symm (Sp.feN_zero _ hfel).symm rfl rfl rfl
 ·have hl : (k : Int) < 3 := hl
  have ik : inN (k : Int) 3 := ⟨by omega, hl⟩
  have ikm : inN (k : Int) s.2.2.1.length := by rw [hmeml]; exact ik
  have ikf : inN (k : Int) s.2.2.2.2.1.length := by rw [hfel]; exact ik
  have ikr : inN (k : Int) (s.2.2.2.1.getD x.1.toNat []).length := by rw [hrow3']; exact ik
  have ikn : inN (k : Int) (Sp.feN s (Sp.ofC x) k).length := by rw [Sp.feN_len]; exact ik
  have hks : inK .i64 ((k : Int) + 1) := bE (by omega) (by omega)
  have hget : ((Sp.vwN s (Sp.ofC x) k).getD x.1.toNat []) = Sp.rowN s (Sp.ofC x) k := Sp.vwN_get k hvc _
  have ikv : inN (k : Int) ((Sp.vwN s (Sp.ofC x) k).getD x.1.toNat []).length := by rw [hget, Sp.rowN_len]; exact ik
  have hsu := Sp.rowN_succ s (Sp.ofC x) (n := k) (by omega)
  have hfu := Sp.feN_succ s (Sp.ofC x) (n := k) (by omega)
  have hgo : ∀ v, v = Sp.later s (Sp.ofC x) k -> (s.1, Sp.nPc s x, s.2.2.1, (Sp.vwN s (Sp.ofC x) k).set x.1.toNat (((Sp.vwN s (Sp.ofC x) k).getD x.1.toNat []).set k v), (Sp.feN s (Sp.ofC x) k).set k v, s.2.2.2.2.2.1, s.2.2.2.2.2.2.1, s.2.2.2.2.2.2.2.1, ()) = (s.1, Sp.nPc s x, s.2.2.1, Sp.vwN s (Sp.ofC x) (k + 1), Sp.feN s (Sp.ofC x) (k + 1), s.2.2.2.2.2.1, s.2.2.2.2.2.2.1, s.2.2.2.2.2.2.2.1, ()) := by
   rintro v rfl
   refine Sp.st_eq rfl rfl ?_ hfu rfl rfl rfl
   rw [hget, hsu];exact Sp.vwN_set k _
  refine ⟨⟨iV, ikr⟩, ⟨ikm, ikf, ikm⟩, fun hlt => ⟨ikf, ⟨iV' k, ikv⟩, ikn, hks, k + 1, by omega, by omega, by omega, hgo _ ?_⟩, fun hge => ⟨⟨iV' k, ikv⟩, ikn, hks, k + 1, by omega, by omega, by omega, hgo _ ?_⟩⟩
  ·have hlt : Sp.plV s (Sp.ofC x) k < Sp.plc (Sp.aC s k) (Sp.fnc s k) := hlt
   unfold Sp.later; rw [if_pos hlt]; rfl
  ·have hge : Sp.plc (Sp.aC s k) (Sp.fnc s k) <= Sp.plV s (Sp.ofC x) k := hge
   unfold Sp.later; rw [if_neg (by omega)]; rfl
 ·have hk3 : k = 3 := by have hk : k <= 3 := hk; have hg : (3 : Int) <= (k : Int) := hg; omega
  subst hk3;have hf : (Sp.opX s x).1 = 4 := hf;refine ⟨?_, Sp.st_eq rfl ?_ ?_ ?_ ?_ ?_ ?_⟩
  ·show ((s.2.2.2.2.2.2.2.1.length + 1 : Nat) : Int) <= aN; omega
  ·unfold Sp.nMem; rw [if_pos (.inl hf)]
  ·unfold Sp.nVw; rw [if_pos hf]
  ·unfold Sp.nFe; rw [if_pos hf]; exact Sp.feN_three _ _
  ·unfold Sp.nR; rw [if_pos (.inl hf)]
  ·unfold Sp.nFr; rw [if_pos (.inl hf)]
  ·unfold Sp.nFo; rw [if_pos hf]
 ·have hf : ¬ (Sp.opX s x).1 = 4 := hf
  obtain ⟨_, k0, k1, _⟩ := X.idx hf;obtain ⟨m1, m2⟩ := hs.mem (Sp.plX s x) (by have := X.pl0; have := X.pl1; unfold Sp.plX; omega);have iM : inN x.2.1 (Sp.aC s (Sp.plX s x)).length := ⟨k0, by omega⟩
  have iE : inN (Sp.evt s x.1) s.2.2.2.2.2.1.length := ⟨hev.1, by omega⟩
  have iF : inN (Sp.evt s x.1) s.2.2.2.2.2.2.1.length := ⟨hev.1, by omega⟩
  have iK : inK .i64 (x.2.1 + 1) := bE (by omega) (by omega)
  have hw0 : win 0 (x.2.1 + 1) (Sp.aC s (Sp.plX s x)) = (Sp.aC s (Sp.plX s x)).take (x.2.1.toNat + 1) := by
   rw [win_take' (by omega), show (x.2.1 + 1).toNat = x.2.1.toNat + 1 from by omega]
  have hw1 : win (x.2.1 + 1) ((Sp.aC s (Sp.plX s x)).length : Int) (Sp.aC s (Sp.plX s x)) = (Sp.aC s (Sp.plX s x)).drop (x.2.1.toNat + 1) := by
   rw [win_drop' (by omega), show (x.2.1 + 1).toNat = x.2.1.toNat + 1 from by omega]
  have hchk : ∀ mm : Sp.Msg, inK .i64 (x.2.1 + 1) /\ winI 0 (x.2.1 + 1) (Sp.aC s (Sp.plX s x)).length /\ ((0 + (win 0 (x.2.1 + 1) (Sp.aC s (Sp.plX s x))).length : Nat) : Int) <= aN /\
    (((win 0 (x.2.1 + 1) (Sp.aC s (Sp.plX s x))).length + 1 : Nat) : Int) <= aN /\ inK .i64 (x.2.1 + 1) /\ winI (x.2.1 + 1) ((Sp.aC s (Sp.plX s x)).length : Int) (Sp.aC s (Sp.plX s x)).length /\
    (((win 0 (x.2.1 + 1) (Sp.aC s (Sp.plX s x)) ++ [mm]).length + (win (x.2.1 + 1) ((Sp.aC s (Sp.plX s x)).length : Int) (Sp.aC s (Sp.plX s x))).length : Nat) : Int) <= aN /\ inN (Sp.opX s x).2.1 s.2.2.1.length := by
   intro mm;refine ⟨iK, ⟨by omega, by omega, by omega⟩, ?_, ?_, iK, ⟨by omega, by omega, by omega⟩, ?_, iOm⟩
   ·rw [hw0, List.length_take, hmx]; omega
   ·rw [hw0, List.length_take, hmx]; omega
   ·rw [hw0, hw1, List.length_append, List.length_take, List.length_drop, hmx]; simp only [List.length_singleton]; omega
  have hvw : ∀ v, s.2.2.2.1.set x.1.toNat ((s.2.2.2.1.getD x.1.toNat []).set (Sp.plX s x) v) = s.2.2.2.1.set (Sp.ofC x) ((Sp.rowOf s (Sp.ofC x)).set (Sp.plX s x) v) := fun v => rfl
  have hnM : ¬ (Sp.opX s x).1 = 1 -> ∀ mm, mm = Sp.newM s x -> s.2.2.1.set (Sp.plX s x) (win 0 (x.2.1 + 1) (Sp.aC s (Sp.plX s x)) ++ [mm] ++ win (x.2.1 + 1) ((Sp.aC s (Sp.plX s x)).length : Int) (Sp.aC s (Sp.plX s x))) = Sp.nMem s x := by
   rintro h1 mm rfl
   unfold Sp.nMem;rw [if_neg (fun h => h.elim hf h1), hw0, hw1]
  have hnF : Sp.nFe s x = s.2.2.2.2.1 := by unfold Sp.nFe; rw [if_neg hf]
  have hnO : Sp.nFo s x = s.2.2.2.2.2.2.2.1 := by unfold Sp.nFo; rw [if_neg hf]
  have hnV : ¬ (Sp.opX s x).1 = 1 -> s.2.2.2.1.set x.1.toNat ((s.2.2.2.1.getD x.1.toNat []).set (Sp.plX s x) (Sp.evt s x.1)) = Sp.nVw s x := by
   intro h1; unfold Sp.nVw; rw [if_neg hf, if_neg h1, hvw]
  have hmm3 : (Sp.opX s x).1 = 3 -> ((Sp.evt s x.1, IntKind.i64.wrap ((Sp.msgX s x).2.1 + (Sp.opX s x).2.2.1), ((Sp.opX s x).1 == 3), ()) : Sp.Msg) = Sp.newM s x := by
   intro h3; unfold Sp.newM; rw [if_pos h3, h3]; rfl
  have hmmn : ¬ (Sp.opX s x).1 = 3 -> ((Sp.evt s x.1, (Sp.opX s x).2.2.1, ((Sp.opX s x).1 == 3), ()) : Sp.Msg) = Sp.newM s x := by
   intro h3; unfold Sp.newM; rw [if_neg h3, show ((Sp.opX s x).1 == 3) = false from by simpa using h3]
  refine ⟨iOm, iM, fun h2 => ?_, fun h2 => ?_⟩
  ·have h2 : ¬ (Sp.opX s x).1 = 2 := h2
   have hnR : Sp.nR s x = s.2.2.2.2.2.1.set (Sp.evt s x.1).toNat (Sp.msgX s x).2.1 := by unfold Sp.nR; rw [if_neg (fun h => h.elim hf h2)]
   have hnFr : Sp.nFr s x = s.2.2.2.2.2.2.1.set (Sp.evt s x.1).toNat (Sp.msgX s x).1 := by unfold Sp.nFr; rw [if_neg (fun h => h.elim hf h2)]
   refine ⟨iE, iF, fun h1 => ⟨⟨iV, iOr⟩, Sp.st_eq rfl ?_ ?_ hnF.symm hnR.symm hnFr.symm hnO.symm⟩, fun h1 => ⟨fun h3 => ⟨hchk _, ⟨iV, iOr⟩, Sp.st_eq rfl (hnM h1 _ (hmm3 h3)) (hnV h1) hnF.symm hnR.symm hnFr.symm hnO.symm⟩, fun h3 => ⟨hchk _, ⟨iV, iOr⟩, Sp.st_eq rfl (hnM h1 _ (hmmn h3)) (hnV h1) hnF.symm hnR.symm hnFr.symm hnO.symm⟩⟩⟩
   ·have h1 : (Sp.opX s x).1 = 1 := h1
    unfold Sp.nMem; rw [if_pos (.inr h1)]
   ·have h1 : (Sp.opX s x).1 = 1 := h1
    unfold Sp.nVw; rw [if_neg hf, if_pos h1];exact hvw _
  ·have h2 : (Sp.opX s x).1 = 2 := h2
   have hn1 : ¬ (Sp.opX s x).1 = 1 := by omega
   have hn3 : ¬ (Sp.opX s x).1 = 3 := by omega
   have hnR : Sp.nR s x = s.2.2.2.2.2.1 := by unfold Sp.nR; rw [if_pos (.inr h2)]
   have hnFr : Sp.nFr s x = s.2.2.2.2.2.2.1 := by unfold Sp.nFr; rw [if_pos (.inr h2)]
   refine ⟨fun h1 => absurd h1 hn1, fun h1 => ⟨fun h3 => absurd h3 hn3, fun h3 => ⟨hchk _, ⟨iV, iOr⟩, Sp.st_eq rfl (hnM hn1 _ (hmmn hn3)) (hnV hn1) hnF.symm hnR.symm hnFr.symm hnO.symm⟩⟩⟩
end Go.User
namespace Sp
open Go.Lf
def insM {α : Type} (l : List α) (a : Nat) (w : α) : List α := l.take (a + 1) ++ [w] ++ l.drop (a + 1)
theorem insM_len {α : Type} {l : List α} {a : Nat} (h : a < l.length) (w : α) : (insM l a w).length = l.length + 1 := by
 unfold insM
 rw [List.length_append, List.length_append, List.length_take, List.length_drop]; simp only [List.length_singleton]; omega
theorem insM_get {α : Type} {l : List α} {a : Nat} (h : a < l.length) (w d : α) (i : Nat) : (insM l a w).getD i d = if i <= a then l.getD i d else if i = a + 1 then w else l.getD (i - 1) d := by
 unfold insM
 have hl : (l.take (a + 1)).length = a + 1 := by rw [List.length_take]; omega
 rw [List.getD_eq_getElem?_getD, List.append_assoc]
 by_cases h1 : i <= a
 ·rw [if_pos h1, List.getElem?_append_left (by omega), List.getElem?_take, if_pos (by omega), List.getD_eq_getElem?_getD]
 ·rw [if_neg h1, List.getElem?_append_right (by omega), hl]
  by_cases h2 : i = a + 1
  ·rw [if_pos h2, h2, Nat.sub_self]; rfl
  ·rw [if_neg h2]
   obtain ⟨j, hj⟩ : ∃ j, i - (a + 1) = j + 1 := ⟨i - (a + 1) - 1, by omega⟩
   rw [hj, List.singleton_append, List.getElem?_cons_succ, List.getElem?_drop, List.getD_eq_getElem?_getD]
   congr 2; omega
theorem mem_insM {α : Type} {l : List α} {a : Nat} {w x : α} : x ∈ insM l a w ↔ x ∈ l ∨ x = w := by
 unfold insM
 rw [List.mem_append, List.mem_append, List.mem_singleton]
 conv => rhs; rw [<- List.take_append_drop (a + 1) l]
 rw [List.mem_append]
 constructor
 ·rintro ((h | h) | h)
  ·exact .inl (.inl h)
  ·exact .inr h
  ·exact .inl (.inr h)
 ·rintro ((h | h) | h)
  ·exact .inl (.inl h)
  ·exact .inr h
  ·exact .inl (.inr h)
theorem insM_map {α β : Type} (f : α -> β) (l : List α) (a : Nat) (w : α) : (insM l a w).map f = insM (l.map f) a (f w) := by
 unfold insM; simp [List.map_take, List.map_drop]
theorem insM_nodup {α : Type} {l : List α} (a : Nat) {w : α} (h : l.Nodup) (hw : w ∉ l) : (insM l a w).Nodup := by
 unfold insM
 have hp : (l.take (a + 1) ++ [w] ++ l.drop (a + 1)).Perm (w :: l) := by
  rw [List.append_assoc];refine List.Perm.trans List.perm_append_comm ?_;rw [List.cons_append];refine List.Perm.trans (List.Perm.cons w ?_) (List.Perm.refl _);refine List.Perm.trans List.perm_append_comm ?_;rw [List.nil_append, List.take_append_drop]
 exact hp.nodup_iff.2 (List.nodup_cons.2 ⟨hw, h⟩)
def evs (m : List Msg) : List Int := m.map (·.1)
theorem plc_none {m : List Msg} {e : Int} (h : e ∉ evs m) : plc m e = -1 := by
 rcases plc_le m e with h1 | h1
 ·refine Classical.byContradiction fun hn => h ?_
  have h2 : 0 <= plc m e := by
   unfold plc findM at hn ⊢;split at hn
   ·rename_i i hi; exact Int.natCast_nonneg _
   ·exact absurd rfl hn
  obtain ⟨x, hx, he⟩ := plc_nn.1 h2;exact List.mem_map.2 ⟨x, hx, he⟩
 ·exact h1
theorem plc_at {m : List Msg} (hn : (evs m).Nodup) {i : Nat} (h : i < m.length) {e : Int} (he : (m.getD i msg0).1 = e) : plc m e = (i : Int) := by
 unfold plc findM
 have : m.findIdx? (fun m => decide (m.1 = e)) = some i := by
  rw [List.findIdx?_eq_some_iff_getElem];rw [Pl.b8 h] at he;refine ⟨h, decide_eq_true he, fun j hj => ?_⟩
  intro hd;have hd := of_decide_eq_true hd;have h1 : (evs m)[j]'(by unfold evs; rw [List.length_map]; omega) = (evs m)[i]'(by unfold evs; rw [List.length_map]; omega) := by
   simp only [evs, List.getElem_map]; rw [hd, he]
  have := (List.getElem_inj hn).1 h1
  omega
 rw [this]
theorem plc_get {m : List Msg} {e : Int} (h : 0 <= plc m e) : (plc m e).toNat < m.length /\ (m.getD (plc m e).toNat msg0).1 = e := by
 unfold plc findM at h ⊢
 cases hf : m.findIdx? (fun m => decide (m.1 = e)) with
 | none => rw [hf] at h; exact absurd h (by decide)
 | some i =>
  obtain ⟨h1, h2, _⟩ := List.findIdx?_eq_some_iff_getElem.1 hf;simp only [Int.toNat_natCast];refine ⟨h1, ?_⟩;rw [Pl.b8 h1];exact of_decide_eq_true h2
def sh (a : Nat) (q : Int) : Int := if q <= (a : Int) then q else q + 1
theorem sh_mono {a : Nat} {q r : Int} (h : q <= r) : sh a q <= sh a r := by
 unfold sh; split <;> split <;> omega
theorem sh_lt {a : Nat} {q r : Int} (h : q < r) : sh a q < sh a r := by
 unfold sh; split <;> split <;> omega
theorem plc_ins {m : List Msg} (hn : (evs m).Nodup) {a : Nat} (ha : a < m.length) {w : Msg} (hw : w.1 ∉ evs m) (e : Int) : plc (insM m a w) e = if e = w.1 then (a : Int) + 1 else sh a (plc m e) := by
 have hn' : (evs (insM m a w)).Nodup := by
  unfold evs;rw [insM_map];exact insM_nodup a hn hw
 have hl := insM_len ha w
 by_cases he : e = w.1
 ·rw [if_pos he]
  have := plc_at hn' (i := a + 1) (e := e) (by omega) (by rw [insM_get ha, if_neg (by omega), if_pos rfl, he])
  rw [this]; rfl
 ·rw [if_neg he]
  by_cases h0 : 0 <= plc m e
  ·obtain ⟨g1, g2⟩ := plc_get h0
   unfold sh;by_cases h1 : plc m e <= (a : Int)
   ·rw [if_pos h1]
    have := plc_at hn' (i := (plc m e).toNat) (e := e) (by omega) (by rw [insM_get ha, if_pos (by omega), g2])
    omega
   ·rw [if_neg h1]
    have := plc_at hn' (i := (plc m e).toNat + 1) (e := e) (by omega) (by rw [insM_get ha, if_neg (by omega), if_neg (by omega)]; exact g2)
    omega
  ·have h1 : e ∉ evs m := by
    intro h;obtain ⟨x, hx, he⟩ := List.mem_map.1 h;exact h0 (plc_nn.2 ⟨x, hx, he⟩)
   rw [plc_none h1];have : e ∉ evs (insM m a w) := by
    unfold evs;rw [insM_map, mem_insM];rintro (h | h)
    ·exact h1 h
    ·exact he h
   rw [plc_none this];unfold sh; rw [if_pos (by omega)]
def bas (t : Lit) (c : Nat) : Int := (aB (t.1.take c) : Int)
theorem total_takeS {P : List (List LOp)} {c : Nat} (h : c < P.length) : aB (P.take (c + 1)) = aB (P.take c) + (P.getD c []).length := by
 rw [Pl.take_succ h []]
 unfold aB
 rw [List.map_append, List.sum_append]; simp
theorem bas_succ {t : Lit} {c : Nat} (h : c < t.1.length) : bas t (c + 1) = bas t c + (t.1.getD c []).length := by
 unfold bas; rw [total_takeS h]; omega
theorem bas_mono {t : Lit} {c d : Nat} (h : c <= d) (hd : d <= t.1.length) : bas t c <= bas t d := by
 induction d with
 | zero => rw [Nat.le_zero.1 h]; exact Int.le_refl _
 | succ d ih =>
  rcases Nat.eq_or_lt_of_le h with h1 | h1
  ·rw [h1]; exact Int.le_refl _
  ·have := ih (by omega) (by omega)
   have := bas_succ (t := t) (c := d) (by omega)
   omega
theorem bas_nn (t : Lit) (c : Nat) : 0 <= bas t c := Int.natCast_nonneg _
theorem bas_inj {t : Lit} {c d : Nat} {i j : Int} (hc : c < t.1.length) (hd : d < t.1.length) (i0 : 0 <= i) (j0 : 0 <= j) (hi : i < ((t.1.getD c []).length : Int)) (hj : j < ((t.1.getD d []).length : Int)) (h : bas t c + i = bas t d + j) : c = d /\ i = j := by
 rcases Nat.lt_trichotomy c d with h1 | h1 | h1
 ·have := bas_succ hc
  have := bas_mono (t := t) (c := c + 1) (d := d) (by omega) (by omega)
  omega
 ·subst h1; exact ⟨rfl, by omega⟩
 ·have := bas_succ hd
  have := bas_mono (t := t) (c := d + 1) (d := c) (by omega) (by omega)
  omega
theorem bas_lt {t : Lit} {c : Nat} {i : Int} (hc : c < t.1.length) (hi : i < ((t.1.getD c []).length : Int)) : bas t c + i < (aB t.1 : Int) := by
 have h1 := bas_succ hc
 have h2 := bas_mono (t := t) (c := c + 1) (d := t.1.length) (by omega) (Nat.le_refl _)
 have h3 : bas t t.1.length = (aB t.1 : Int) := by unfold bas; rw [List.take_length]
 omega
def plF (s : VSt) (p : Nat) : Int := plc (aC s p) (fnc s p)
def rOf (s : VSt) (e : Int) : Int := s.2.2.2.2.2.1.getD e.toNat 0
structure Fine (s : VSt) : Prop where
 good : Good s
 us : ∀ l ∈ s.1.1, ∀ o ∈ l, usual o = true
 ev : ∀ p, p < 3 -> ∀ m ∈ aC s p, m.1 = -1 ∨ ∃ c j : Nat, c < s.1.1.length /\ (j : Int) < bA s c /\ m.1 = bas s.1 c + j
 nd : ∀ p, p < 3 -> (evs (aC s p)).Nodup
 bd : ∀ p, p < 3 -> ∀ m ∈ aC s p, -(100 * ((aB s.1.1 : Int) - left s)) <= m.2.1 /\ m.2.1 <= 100 * ((aB s.1.1 : Int) - left s)
 hd : ∀ p, p < 3 -> (aC s p).getD 0 msg0 = m0
 rb : ∀ v ∈ s.2.2.2.2.2.1, -800 <= v /\ v <= 800
structure NX (s : VSt) (x : Cho) : Prop where
 xf : XF s x
 evt : evt s x.1 = bas s.1 (ofC x) + bA s (ofC x)
 us : usual (opX s x) = true
 p3 : plX s x < 3
 pc : ∀ c, bA (next s x) c = if c = ofC x then bA s (ofC x) + 1 else bA s c
 fen : (opX s x).1 = 4 -> (∀ p, p < 3 -> aC (next s x) p = aC s p) /\ (∀ c p, c < s.1.1.length -> p < 3 -> plV (next s x) c p = if c = ofC x then max (plV s c p) (plF s p) else plV s c p) /\
  (∀ p, p < 3 -> plF (next s x) p = max (plV s (ofC x) p) (plF s p)) /\ nR s x = s.2.2.2.2.2.1
 lod : (opX s x).1 = 1 -> (∀ p, p < 3 -> aC (next s x) p = aC s p) /\ (∀ c p, c < s.1.1.length -> p < 3 -> plV (next s x) c p = if c = ofC x /\ p = plX s x then x.2.1 else plV s c p) /\
  (∀ p, p < 3 -> plF (next s x) p = plF s p) /\ nR s x = s.2.2.2.2.2.1.set (Sp.evt s x.1).toNat (msgX s x).2.1
 wri : (opX s x).1 = 2 ∨ (opX s x).1 = 3 -> (∀ p, p < 3 -> aC (next s x) p = if p = plX s x then insM (aC s p) x.2.1.toNat (newM s x) else aC s p) /\
  (∀ c p, c < s.1.1.length -> p < 3 -> plV (next s x) c p = if p = plX s x then (if c = ofC x then x.2.1 + 1 else sh x.2.1.toNat (plV s c p)) else plV s c p) /\
  (∀ p, p < 3 -> plF (next s x) p = if p = plX s x then sh x.2.1.toNat (plF s p) else plF s p) /\
  nR s x = if (opX s x).1 = 2 then s.2.2.2.2.2.1 else s.2.2.2.2.2.1.set (Sp.evt s x.1).toNat (msgX s x).2.1
 wlt : (opX s x).1 ≠ 4 -> x.2.1.toNat < (aC s (plX s x)).length /\ 0 <= x.2.1 /\ plV s (ofC x) (plX s x) <= x.2.1
 new : (newM s x).1 ∉ evs (aC s (plX s x))
 newV : (newM s x).2.1 = if (opX s x).1 = 3 then (msgX s x).2.1 + (opX s x).2.2.1 else (opX s x).2.2.1
 newA : (newM s x).2.2.1 = decide ((opX s x).1 = 3)
 kind : (opX s x).1 = 1 ∨ (opX s x).1 = 2 ∨ (opX s x).1 = 3 ∨ (opX s x).1 = 4
theorem usual_kind {o : LOp} (h : usual o = true) : o.1 = 1 ∨ o.1 = 2 ∨ o.1 = 3 ∨ o.1 = 4 := by
 unfold usual at h
 by_cases h1 : o.1 = 1
 ·exact .inl h1
 ·rw [if_neg h1] at h
  by_cases h2 : o.1 = 2 ∨ o.1 = 3
  ·rcases h2 with h2 | h2
   ·exact .inr (.inl h2)
   ·exact .inr (.inr (.inl h2))
  ·rw [if_neg h2] at h
   simp only [Bool.and_eq_true, decide_eq_true_eq] at h;exact .inr (.inr (.inr h.1.1))
theorem usual_val {o : LOp} (h : usual o = true) : -100 <= o.2.2.1 /\ o.2.2.1 <= 100 := by
 unfold usual at h
 split at h
 ·simp only [Bool.and_eq_true, decide_eq_true_eq] at h; omega
 ·split at h
  ·simp only [Bool.and_eq_true, decide_eq_true_eq] at h; omega
  ·simp only [Bool.and_eq_true, decide_eq_true_eq] at h; omega
theorem Fine.nx {s : VSt} (f : Fine s) {x : Cho} (hx : x ∈ aE s) : NX s x := by
 have g := f.good
 have h := g.ok
 have X := h.xf hx
 have hl : ofC x < s.2.1.length := by rw [h.pcl]; exact X.lt
 have hvc : ofC x < s.2.2.2.1.length := by rw [h.vwl]; exact X.lt
 have hr := h.row _ X.lt
 have p3 : plX s x < 3 := by have := X.pl0; have := X.pl1; unfold plX; omega
 have us : usual (opX s x) = true := f.us _ (Pl.bK X.lt _) _ X.mem
 have hev : evt s x.1 = bas s.1 (ofC x) + bA s (ofC x) := by
  unfold evt bas;rw [X.eq, Int.toNat_natCast]
 have htot := g.tot
 have hnew : (newM s x).1 ∉ evs (aC s (plX s x)) := by
  rw [newM_e, hev];intro hm;obtain ⟨m, hm, he⟩ := List.mem_map.1 hm;have he : m.1 = bas s.1 (ofC x) + bA s (ofC x) := he;rcases f.ev _ p3 m hm with h1 | ⟨c, j, h1, h2, h3⟩
  ·have := bas_nn s.1 (ofC x); have := X.pc0; omega
  ·have hpc := h.pc c h1
   have hpx := X.pc1
   have hp0 := X.pc0
   obtain ⟨e1, e2⟩ := bas_inj (t := s.1) (c := c) (d := ofC x) (i := (j : Int)) (j := bA s (ofC x)) h1 X.lt (by omega) X.pc0 (by unfold bJ at hpc; omega) (by unfold bJ at hpx; omega) (by omega);subst e1; omega
 have hvrow : ∀ c p, (∀ r, rowOf (next s x) c = r -> vw (next s x) c p = r.getD p 0) := fun c p r h => by unfold vw; rw [h]
 have hrow : ∀ c, rowOf (next s x) c = (nVw s x).getD c [] := fun c => rfl
 have hkind := usual_kind us
 have hval := usual_val us
 refine { xf := X, evt := hev, us := us, p3 := p3, pc := pc_next s hl, fen := ?_, lod := ?_, wri := ?_, wlt := fun h4 => ⟨(X.idx h4).2.2.1, (X.idx h4).2.1, (X.idx h4).1⟩, new := hnew, newV := ?_, newA := ?_, kind := hkind }
 ·intro h4
  have hmem : ∀ p, aC (next s x) p = aC s p := fun p => by
   show (nMem s x).getD p [] = _
   unfold nMem; rw [if_pos (.inl h4)]; rfl
  have hlat : ∀ p, p < 3 -> plc (aC s p) (later s (ofC x) p) = max (plV s (ofC x) p) (plF s p) := by
   intro p hp;unfold later plF;by_cases hlt : plV s (ofC x) p < plc (aC s p) (fnc s p)
   ·rw [if_pos hlt]; omega
   ·rw [if_neg hlt]; unfold plV at hlt ⊢; omega
  refine ⟨fun p _ => hmem p, ?_, ?_, ?_⟩
  ·intro c p hc hp
   unfold plV;rw [hmem p];have hrw : rowOf (next s x) c = if c = ofC x then rowN s (ofC x) 3 else rowOf s c := by
    rw [hrow]; unfold nVw; rw [if_pos h4]; unfold vwN;rw [Pl.bY c hvc]; rfl
   by_cases hcc : c = ofC x
   ·rw [if_pos hcc] at hrw ⊢
    rw [hvrow c p _ hrw, rowN_get _ _ _ hp, if_pos hp, hlat p hp, hcc]; rfl
   ·rw [if_neg hcc] at hrw ⊢
    rw [hvrow c p _ hrw]; rfl
  ·intro p hp
   show plc (aC (next s x) p) ((nFe s x).getD p 0) = _
   rw [hmem p];unfold nFe; rw [if_pos h4, rowN_get _ _ _ hp, if_pos hp, hlat p hp]
  ·unfold nR; rw [if_pos (.inl h4)]
 ·intro h1
  have h4 : ¬ (opX s x).1 = 4 := by omega
  have hmem : ∀ p, aC (next s x) p = aC s p := fun p => by
   show (nMem s x).getD p [] = _
   unfold nMem; rw [if_pos (.inr h1)]; rfl
  obtain ⟨i1, i2, i3, i4⟩ := X.idx h4;refine ⟨fun p _ => hmem p, ?_, ?_, ?_⟩
  ·intro c p hc hp
   unfold plV;rw [hmem p];have hrw : rowOf (next s x) c = if c = ofC x then (rowOf s (ofC x)).set (plX s x) (msgX s x).1 else rowOf s c := by
    rw [hrow]; unfold nVw; rw [if_neg h4, if_pos h1, Pl.bY c hvc]; rfl
   by_cases hcc : c = ofC x
   ·rw [if_pos hcc] at hrw
    rw [hvrow c p _ hrw, Pl.bY p (by rw [hr]; exact p3)];by_cases hpp : p = plX s x
    ·rw [if_pos hpp, if_pos ⟨hcc, hpp⟩, hpp]
     have := plc_at (f.nd _ p3) i3 rfl
     show plc _ (msgX s x).1 = _
     unfold msgX; rw [this]; omega
    ·rw [if_neg hpp, if_neg (fun h => hpp h.2), hcc]; rfl
   ·rw [if_neg hcc] at hrw
    rw [if_neg (fun h => hcc h.1), hvrow c p _ hrw]; rfl
  ·intro p hp
   show plc (aC (next s x) p) ((nFe s x).getD p 0) = _
   rw [hmem p];unfold nFe; rw [if_neg h4]; rfl
  ·unfold nR; rw [if_neg (by omega)]
 ·intro h23
  have h4 : ¬ (opX s x).1 = 4 := by omega
  have h1 : ¬ (opX s x).1 = 1 := by omega
  obtain ⟨i1, i2, i3, i4⟩ := X.idx h4;have hpm : plX s x < s.2.2.1.length := by rw [h.meml]; exact p3
  have hmem : ∀ p, aC (next s x) p = if p = plX s x then insM (aC s p) x.2.1.toNat (newM s x) else aC s p := fun p => by
   show (nMem s x).getD p [] = _
   unfold nMem; rw [if_neg (by omega), Pl.bY p hpm];by_cases hpp : p = plX s x
   ·rw [if_pos hpp, if_pos hpp, hpp]; rfl
   ·rw [if_neg hpp, if_neg hpp]; rfl
  have hold : ∀ e p, p = plX s x -> 0 <= plc (aC s p) e -> e ≠ (newM s x).1 := by
   rintro e p rfl h0 rfl
   obtain ⟨m, hm, he⟩ := plc_nn.1 h0;exact hnew (List.mem_map.2 ⟨m, hm, he⟩)
  refine ⟨fun p _ => hmem p, ?_, ?_, ?_⟩
  ·intro c p hc hp
   have hsee := h.see c hc p hp
   unfold plV at hsee ⊢;rw [hmem p];have hrw : rowOf (next s x) c = if c = ofC x then (rowOf s (ofC x)).set (plX s x) (evt s x.1) else rowOf s c := by
    rw [hrow]; unfold nVw; rw [if_neg h4, if_neg h1, Pl.bY c hvc]; rfl
   by_cases hcc : c = ofC x
   ·rw [if_pos hcc] at hrw
    rw [hvrow c p _ hrw, Pl.bY p (by rw [hr]; exact p3)];by_cases hpp : p = plX s x
    ·rw [if_pos hpp, if_pos hpp, if_pos hpp, if_pos hcc, hpp, plc_ins (f.nd _ p3) i3 hnew, newM_e, if_pos rfl]; omega
    ·rw [if_neg hpp, if_neg hpp, if_neg hpp, hcc]; rfl
   ·rw [if_neg hcc] at hrw
    rw [hvrow c p _ hrw];by_cases hpp : p = plX s x
    ·rw [if_pos hpp, if_pos hpp, if_neg hcc]
     have : vw s c p ≠ (newM s x).1 := hold _ p hpp hsee
     rw [hpp] at this ⊢;rw [plc_ins (f.nd _ p3) i3 hnew];exact if_neg this
    ·rw [if_neg hpp, if_neg hpp]; rfl
  ·intro p hp
   have hfes := h.fes p hp
   show plc (aC (next s x) p) ((nFe s x).getD p 0) = _
   rw [hmem p];unfold nFe; rw [if_neg h4];unfold plF;by_cases hpp : p = plX s x
   ·rw [if_pos hpp, if_pos hpp]
    have : fnc s p ≠ (newM s x).1 := hold _ p hpp hfes
    show plc _ (fnc s p) = _
    rw [hpp] at this ⊢;rw [plc_ins (f.nd _ p3) i3 hnew, if_neg this]
   ·rw [if_neg hpp, if_neg hpp]; rfl
  ·unfold nR
   by_cases h2 : (opX s x).1 = 2
   ·rw [if_pos (.inr h2), if_pos h2]
   ·rw [if_neg (by omega), if_neg h2]
 ·unfold newM
  by_cases h3 : (opX s x).1 = 3
  ·rw [if_pos h3, if_pos h3]
   obtain ⟨_, _, i3, _⟩ := X.idx (by omega);have hb := f.bd _ p3 (msgX s x) (Pl.bK i3 _);exact Pl.wrap_in (by omega) (by omega)
  ·rw [if_neg h3, if_neg h3]
 ·unfold newM
  by_cases h3 : (opX s x).1 = 3
  ·rw [if_pos h3, decide_eq_true h3]
  ·rw [if_neg h3, decide_eq_false h3]
end Sp
namespace Sp
open Go.Lf
theorem Fine.next {s : VSt} (f : Fine s) {x : Cho} (hx : x ∈ aE s) : Fine (next s x) := by
 have N := f.nx hx
 have h := f.good.ok
 have hln := left_next h hx
 have hpc0 := N.xf.pc0
 have hmemS : ∀ p, p < 3 -> ∀ m ∈ aC (Sp.next s x) p, m ∈ aC s p ∨ (m = newM s x /\ p = plX s x /\ ((opX s x).1 = 2 ∨ (opX s x).1 = 3)) := by
  intro p hp m hm;rcases N.kind with k | k | k | k
  ·rw [(N.lod k).1 p hp] at hm; exact .inl hm
  ·rw [(N.wri (.inl k)).1 p hp] at hm
   split at hm
   ·rcases mem_insM.1 hm with h1 | h1
    ·exact .inl h1
    ·exact .inr ⟨h1, by assumption, .inl k⟩
   ·exact .inl hm
  ·rw [(N.wri (.inr k)).1 p hp] at hm
   split at hm
   ·rcases mem_insM.1 hm with h1 | h1
    ·exact .inl h1
    ·exact .inr ⟨h1, by assumption, .inr k⟩
   ·exact .inl hm
  ·rw [(N.fen k).1 p hp] at hm; exact .inl hm
 have hv := usual_val N.us
 have hbd : ∀ p, p < 3 -> ∀ m ∈ aC s p, -800 <= m.2.1 /\ m.2.1 <= 800 := by
  intro p hp m hm;have := f.bd p hp m hm;have := f.good.tot;omega
 have hR : ∀ v ∈ s.2.2.2.2.2.1.set (evt s x.1).toNat (msgX s x).2.1, (opX s x).1 ≠ 4 -> -800 <= v /\ v <= 800 := by
  intro v hv h4;rcases List.mem_or_eq_of_mem_set hv with h1 | h1
  ·exact f.rb v h1
  ·rw [h1]; exact hbd _ N.p3 _ (Pl.bK (N.wlt h4).1 _)
 refine ⟨f.good.next hx, f.us, ?_, ?_, ?_, ?_, ?_⟩
 ·intro p hp m hm
  rcases hmemS p hp m hm with h1 | ⟨h1, h2, h3⟩
  ·rcases f.ev p hp m h1 with h4 | ⟨c, j, g1, g2, g3⟩
   ·exact .inl h4
   ·refine .inr ⟨c, j, g1, ?_, g3⟩
    rw [N.pc c];split
    ·rename_i hc; rw [hc] at g2; omega
    ·exact g2
  ·refine .inr ⟨ofC x, (bA s (ofC x)).toNat, N.xf.lt, ?_, ?_⟩
   ·rw [N.pc, if_pos rfl]; omega
   ·rw [h1, newM_e, N.evt]
    show _ = bas s.1 (ofC x) + _
    omega
 ·intro p hp
  rcases N.kind with k | k | k | k
  ·rw [(N.lod k).1 p hp]; exact f.nd p hp
  ·rw [(N.wri (.inl k)).1 p hp]
   split
   ·rename_i hpp
    unfold evs; rw [insM_map];rw [hpp];exact insM_nodup _ (f.nd _ N.p3) N.new
   ·exact f.nd p hp
  ·rw [(N.wri (.inr k)).1 p hp]
   split
   ·rename_i hpp
    unfold evs; rw [insM_map];rw [hpp];exact insM_nodup _ (f.nd _ N.p3) N.new
   ·exact f.nd p hp
  ·rw [(N.fen k).1 p hp]; exact f.nd p hp
 ·intro p hp m hm
  show -(100 * ((aB s.1.1 : Int) - left (Sp.next s x))) <= m.2.1 /\ m.2.1 <= 100 * ((aB s.1.1 : Int) - left (Sp.next s x))
  rcases hmemS p hp m hm with h1 | ⟨h1, h2, h3⟩
  ·have := f.bd p hp m h1; omega
  ·have hms := f.bd _ N.p3 (msgX s x) (Pl.bK (N.wlt (by omega)).1 _)
   have hle : (left s : Int) <= aB s.1.1 := by
    have := f.good.mem 0 (by omega)
    have := (h.mem 0 (by omega)).1
    omega
   rw [h1, N.newV];split <;> omega
 ·intro p hp
  have h0 := f.hd p hp
  rcases N.kind with k | k | k | k
  ·rw [(N.lod k).1 p hp]; exact h0
  ·rw [(N.wri (.inl k)).1 p hp]
   split
   ·rename_i hpp
    rw [insM_get (by rw [hpp]; exact (N.wlt (by omega)).1), if_pos (Nat.zero_le _)]; exact h0
   ·exact h0
  ·rw [(N.wri (.inr k)).1 p hp]
   split
   ·rename_i hpp
    rw [insM_get (by rw [hpp]; exact (N.wlt (by omega)).1), if_pos (Nat.zero_le _)]; exact h0
   ·exact h0
  ·rw [(N.fen k).1 p hp]; exact h0
 ·show ∀ v ∈ nR s x, _
  intro v hv;rcases N.kind with k | k | k | k
  ·rw [(N.lod k).2.2.2] at hv; exact hR v hv (by omega)
  ·rw [(N.wri (.inl k)).2.2.2, if_pos k] at hv; exact f.rb v hv
  ·rw [(N.wri (.inr k)).2.2.2, if_neg (by omega)] at hv; exact hR v hv (by omega)
  ·rw [(N.fen k).2.2.2] at hv; exact f.rb v hv
theorem start_fine {t : Lit} (h : valid t = true) : Fine (start t) := by
 obtain ⟨v1, v2, v3, v4, v5⟩ := valid_iff.1 h
 refine ⟨start_good h, fun l hl o ho => v5 o (List.mem_flatten.2 ⟨l, hl, ho⟩), ?_, ?_, ?_, ?_, ?_⟩
 ·intro p hp m hm
  rw [start_mem t hp] at hm;rw [List.mem_singleton.1 hm]; exact .inl rfl
 ·intro p hp
  rw [start_mem t hp];simp [evs]
 ·intro p hp m hm
  rw [start_mem t hp] at hm;rw [List.mem_singleton.1 hm, start_left];show -(100 * (((aB t.1 : Nat) : Int) - ((aB t.1 : Nat) : Int))) <= 0 /\ 0 <= 100 * (((aB t.1 : Nat) : Int) - ((aB t.1 : Nat) : Int));omega
 ·intro p hp; rw [start_mem t hp]; rfl
 ·intro v hv
  have : v = 0 := List.eq_of_mem_replicate (show v ∈ List.replicate (aB t.1) (0 : Int) from hv)
  omega
theorem ch_fence {s : VSt} {c : Nat} (hc : c < s.1.1.length) (hn : ¬ bA s c = (bJ s c).length) (h4 : (aI s c).1 = 4) : ((c : Int), 0, ()) ∈ aE s :=
 mem_choices.2 ⟨c, hc, by rw [chC_fence hn h4]; exact List.mem_singleton.2 rfl⟩
theorem ch_other {s : VSt} {c k : Nat} (hc : c < s.1.1.length) (hn : ¬ bA s c = (bJ s c).length) (h4 : ¬ (aI s c).1 = 4) (hk : k < (aC s (aI s c).2.1.toNat).length)
  (hv : plV s c (aI s c).2.1.toNat <= (k : Int)) (hm : may (aI s c) (aC s (aI s c).2.1.toNat) k = true) : ((c : Int), (k : Int), ()) ∈ aE s :=
 mem_choices.2 ⟨c, hc, by rw [chC_other hn h4]; exact mem_chI.2 ⟨k, hk, hv, hm, rfl⟩⟩
theorem may_last (o : LOp) (m : List Msg) {k : Nat} (h : k + 1 = m.length) : may o m k = true := by
 unfold may; rw [decide_eq_true h]; simp
theorem plV_lt (s : VSt) (c p : Nat) : plV s c p < ((aC s p).length : Int) := by
 rcases plc_le (aC s p) (vw s c p) with h | h
 ·exact h
 ·unfold plV; rw [h]; omega
theorem ch_last {s : VSt} (h : OkS s) {c : Nat} (hc : c < s.1.1.length) (hn : ¬ bA s c = (bJ s c).length) (h4 : ¬ (aI s c).1 = 4) : ((c : Int), (((aC s (aI s c).2.1.toNat).length - 1 : Nat) : Int), ()) ∈ aE s := by
 obtain ⟨_, _, g3, g4, _⟩ := h.op hc hn
 have hm := (h.mem (aI s c).2.1.toNat (by omega)).1
 have := plV_lt s c (aI s c).2.1.toNat
 exact ch_other hc hn h4 (by omega) (by omega) (may_last _ _ (by omega))
theorem done_iff {s : VSt} (h : OkS s) : aE s = [] ↔ ∀ c, c < s.1.1.length -> bA s c = (bJ s c).length := by
 constructor
 ·intro h0 c hc
  refine Classical.byContradiction fun hn => ?_
  by_cases h4 : (aI s c).1 = 4
  ·have := ch_fence hc hn h4; rw [h0] at this; cases this
  ·have := ch_last h hc hn h4; rw [h0] at this; cases this
 ·intro hd
  refine List.eq_nil_iff_forall_not_mem.2 fun x hx => ?_
  have X := h.xf hx
  exact X.pcn (hd _ X.lt)
theorem left_zero {s : VSt} (h : OkS s) (h0 : left s = 0) : aE s = [] := by
 refine List.eq_nil_iff_forall_not_mem.2 fun x hx => ?_
 have := left_next h hx
 omega
inductive Reach : VSt -> VSt -> Prop
 | refl (s : VSt) : Reach s s
 | step {s : VSt} {x : Cho} {s' : VSt} (hx : x ∈ aE s) (h : Reach (next s x) s') : Reach s s'
theorem Reach.trans {a b c : VSt} (h1 : Reach a b) (h2 : Reach b c) : Reach a c := by
 induction h1 with
 | refl s => exact h2
 | step hx h ih => exact .step hx (ih h2)
theorem Reach.one {s : VSt} {x : Cho} (hx : x ∈ aE s) : Reach s (next s x) := .step hx (.refl _)
theorem Reach.fine {a b : VSt} (h : Reach a b) : Fine a -> Fine b := by
 induction h with
 | refl s => exact id
 | step hx h ih => exact fun f => ih (f.next hx)
theorem Reach.lit {a b : VSt} (h : Reach a b) : b.1 = a.1 := by
 induction h with
 | refl s => rfl
 | step hx h ih => exact ih
theorem Reach.inv {P : VSt -> Prop} (hP : ∀ s x, Fine s -> P s -> x ∈ aE s -> P (next s x)) {a b : VSt} (h : Reach a b) : Fine a -> P a -> P b := by
 induction h with
 | refl s => exact fun _ h => h
 | step hx h ih => exact fun f p => ih (f.next hx) (hP _ _ f p hx)
theorem ends {s : VSt} (f : Fine s) : ∃ s', Reach s s' /\ aE s' = [] := by
 generalize hn : left s = n
 induction n generalizing s with
 | zero => exact ⟨s, .refl s, left_zero f.good.ok hn⟩
 | succ n ih =>
  cases h : aE s with
  | nil => exact ⟨s, .refl s, h⟩
  | cons x xs =>
   have hx : x ∈ aE s := by rw [h]; exact List.mem_cons_self
   have := left_next f.good.ok hx
   obtain ⟨s', h1, h2⟩ := ih (f.next hx) (by omega);exact ⟨s', .step hx h1, h2⟩
end Sp
namespace Sp
open Go.Lf
def lenAt (t : Lit) (c : Nat) : Nat := (t.1.getD c []).length
def isRd (o : LOp) : Prop := o.1 = 1 ∨ o.1 = 3
instance (o : LOp) : Decidable (isRd o) := by unfold isRd; infer_instance
def mv (π : Nat -> Nat) (o : LOp) : LOp := if o.1 = 4 then o else (o.1, (π o.2.1.toNat : Int), o.2.2)
end Sp
namespace Go.User
open Go.Proofs Go.Lf
set_option maxRecDepth 100000
end Go.User
namespace Go.User
open Go.Lf Go.Proofs
end Go.User
namespace Sp
end Sp
namespace Sp
theorem total_cons (l : List LOp) (P : List (List LOp)) : aB (l :: P) = l.length + aB P := by unfold aB; simp
theorem total_set : ∀ (P : List (List LOp)) (c : Nat) (l : List LOp), c < P.length -> aB (P.set c l) + (P.getD c []).length = aB P + l.length
 | p :: P, 0, l, _ => by
  rw [List.set_cons_zero, total_cons, total_cons];show _ + p.length = _;omega
 | p :: P, c + 1, l, h => by
  rw [List.set_cons_succ, total_cons, total_cons];have := total_set P c l (by simpa using h);show _ + (P.getD c []).length = _;omega
theorem total_app (P Q : List (List LOp)) : aB (P ++ Q) = aB P + aB Q := by unfold aB; rw [List.map_append, List.sum_append]
theorem total_gro (P : List (List LOp)) (c : Nat) : aB (gro P c) = aB P := by
 unfold gro
 rw [total_app]
 have : ∀ n, aB (List.replicate n ([] : List LOp)) = 0 := by
  intro n; unfold aB; rw [List.map_replicate]; simp
 rw [this]; rfl
theorem total_mN (x : List (List Int)) : ∀ i, aB (mN x i) = i
 | 0 => rfl
 | i + 1 => by
  show aB (mPut (mN x i) (mC x i) (mOp x i)) = i + 1
  unfold mPut;have h := total_set (gro (mN x i) (mC x i)) (mC x i) ((gro (mN x i) (mC x i)).getD (mC x i) [] ++ [mOp x i]) (by rw [gro_len]; omega);rw [total_gro, total_mN x i, List.length_append] at h;simp only [List.length_singleton] at h;omega
theorem total_made {x : List (List Int)} {n : Int} (h0 : 1 <= n) (h6 : n <= 6) : 1 <= aB (madeP x n) /\ aB (madeP x n) <= 6 /\ 1 <= (madeP x n).length /\ (madeP x n).length <= 4 := by
 unfold madeP
 split
 ·exact ⟨by decide, by decide, by decide, by decide⟩
 ·rename_i hn
  have ht := total_mN x (mT x n)
  have hl := mN_len x (mT x n)
  have hm : mT x n <= 6 := by unfold mT; omega
  have hp : 1 <= (mN x (mT x n)).length := by
   cases h : mN x (mT x n) with
   | nil => exact absurd h hn
   | cons a l => simp
  refine ⟨?_, by omega, hp, hl⟩
  rw [ht];refine Classical.byContradiction fun h => hn ?_
  have : mT x n = 0 := by omega
  rw [this]; rfl
end Sp
namespace Sp
open Go.Lf
section
variable {t : Lit} {k i : Nat}
variable (hk : k < t.1.length)
include hk
variable (hi : i <= lenAt t k)
include hi
end
end Sp
namespace Sp
end Sp
namespace Go.User
open Go.Lf
def S3 : aU := { args := [.val tRaw, .val (.int .u8), .val (.int .u8)], multi := false, res := .bool, mode := .shr, pre := fun _ => True, fn := fun _ => true }
end Go.User
namespace Sp
open Go.Lf
theorem mOp_usual (x : List (List Int)) (i : Nat) : usual (mOp x i) = true := by
 have hk : mK x i = 1 ∨ mK x i = 2 ∨ mK x i = 3 ∨ mK x i = 4 := by
  unfold mK;have : ∀ n : Nat, n < 6 -> kinds.getD n 0 = 1 ∨ kinds.getD n 0 = 2 ∨ kinds.getD n 0 = 3 ∨ kinds.getD n 0 = 4 := by decide
  exact this _ (by omega)
 have hX : 0 <= mX x i /\ mX x i < 3 /\ (mK x i = 4 -> mX x i = 0) := by unfold mX; split <;> omega
 have hV : -100 <= mV x i /\ mV x i <= 100 /\ (mK x i = 1 ∨ mK x i = 4 -> mV x i = 0) := by unfold mV; split <;> omega
 show usual (mK x i, mX x i, mV x i, ()) = true
 unfold usual
 rcases hk with h | h | h | h
 ·rw [if_pos h]; simp only [Bool.and_eq_true, decide_eq_true_eq]; exact ⟨⟨hX.1, hX.2.1⟩, hV.2.2 (.inl h)⟩
 ·rw [if_neg (by show ¬ mK x i = 1; omega), if_pos (.inl h)]; simp only [Bool.and_eq_true, decide_eq_true_eq]; exact ⟨⟨⟨hX.1, hX.2.1⟩, hV.1⟩, hV.2.1⟩
 ·rw [if_neg (by show ¬ mK x i = 1; omega), if_pos (.inr h)]; simp only [Bool.and_eq_true, decide_eq_true_eq]; exact ⟨⟨⟨hX.1, hX.2.1⟩, hV.1⟩, hV.2.1⟩
 ·rw [if_neg (by show ¬ mK x i = 1; omega), if_neg (by show ¬ (mK x i = 2 ∨ mK x i = 3); omega)]; simp only [Bool.and_eq_true, decide_eq_true_eq]; exact ⟨⟨h, hX.2.2 h⟩, hV.2.2 (.inr h)⟩
theorem mN_usual (x : List (List Int)) : ∀ i, ∀ l ∈ mN x i, ∀ o ∈ l, usual o = true
 | 0, l, hl => by cases hl
 | i + 1, l, hl => by
  have hl : l ∈ mPut (mN x i) (mC x i) (mOp x i) := hl
  have ih := mN_usual x i
  have hg : ∀ l ∈ gro (mN x i) (mC x i), ∀ o ∈ l, usual o = true := by
   intro l hl;unfold gro at hl;rcases List.mem_append.1 hl with hl | hl
   ·exact ih l hl
   ·rw [List.eq_of_mem_replicate hl]; intro o ho; cases ho
  unfold mPut at hl;rcases List.mem_or_eq_of_mem_set hl with hl | rfl
  ·exact hg l hl
  ·intro o ho
   rcases List.mem_append.1 ho with ho | ho
   ·by_cases hc : mC x i < (gro (mN x i) (mC x i)).length
    ·exact hg _ (Pl.bK hc _) o ho
    ·rw [Pl.getD_out (by omega)] at ho; cases ho
   ·rw [List.mem_singleton.1 ho]; exact mOp_usual x i
theorem made_valid {x : List (List Int)} {n : Int} (h1 : 1 <= n) (h6 : n <= 6) : valid (made x n) = true := by
 obtain ⟨a, b, c, d⟩ := total_made (x := x) h1 h6
 refine valid_iff.2 ⟨c, d, a, b, ?_⟩
 intro o ho
 obtain ⟨l, hl, ho⟩ := List.mem_flatten.1 ho
 have hl : l ∈ madeP x n := hl
 unfold madeP at hl
 split at hl
 ·rw [List.mem_singleton.1 hl] at ho
  rw [List.mem_singleton.1 ho]; decide
 ·exact mN_usual x _ l hl o ho
end Sp
namespace Sp
def low (z : Int) : Int := Go.IntKind.i64.wrap ((BitVec.ofInt 64 z &&& BitVec.ofInt 64 3).toNat : Int)
end Sp
namespace Go.User
open Go.Proofs Go.Lf
set_option maxRecDepth 100000
end Go.User
namespace Sp
end Sp
namespace Go.User
open Go.Lf Go.Proofs
end Go.User
namespace Go.User
open Go.Lf Go.Proofs
end Go.User
namespace Sp
open Go.Lf
theorem pick_in {l : List Int} (hl : ∀ v ∈ l, 0 <= v) (i : Nat) {n : Nat} (hn : 0 < n) : 0 <= pick l i n /\ pick l i n < (n : Int) := by
 unfold pick
 split
 ·omega
 ·rename_i h
  have hm := hl _ (Pl.bK (l := l) (i := i % l.length) (Nat.mod_lt _ (by omega)) 0)
  rw [Int.tmod_eq_emod_of_nonneg hm];exact ⟨Int.emod_nonneg _ (by omega), Int.emod_lt_of_pos _ (by omega)⟩
theorem pick_mem {l : List Int} (hl : ∀ v ∈ l, 0 <= v) (i : Nat) {s : VSt} (h : aE s ≠ []) : (aE s).getD (pick l i (aE s).length).toNat cho0 ∈ aE s := by
 have hp := List.length_pos_iff.2 h
 obtain ⟨h1, h2⟩ := pick_in hl i hp
 exact Pl.bK (by omega) _
theorem run_reach {s : VSt} {l : List Int} (hl : ∀ v ∈ l, 0 <= v) : ∀ i, Reach s (runS s l i)
 | 0 => .refl s
 | i + 1 => by
  have h := run_reach (s := s) hl i
  unfold runS;split
  ·exact h
  ·rename_i h0
   exact h.trans (Reach.one (pick_mem hl i h0))
theorem run_left {s : VSt} (f : Fine s) {l : List Int} (hl : ∀ v ∈ l, 0 <= v) : ∀ i, left (runS s l i) + i <= left s ∨ aE (runS s l i) = []
 | 0 => .inl (Nat.le_refl _)
 | i + 1 => by
  have hf := (run_reach (s := s) hl i).fine f
  unfold runS;by_cases h0 : aE (runS s l i) = []
  ·rw [if_pos h0]; exact .inr h0
  ·rw [if_neg h0]
   rcases run_left f hl i with h | h
   ·have := left_next hf.good.ok (pick_mem hl i h0)
    exact .inl (by omega)
   ·exact absurd h h0
theorem run_stay {s : VSt} {l : List Int} {i : Nat} (h : aE (runS s l i) = []) : ∀ d, runS s l (i + d) = runS s l i
 | 0 => rfl
 | d + 1 => by
  have ih := run_stay h d
  show (if aE (runS s l (i + d)) = [] then runS s l (i + d) else _) = _
  rw [ih, if_pos h]
theorem run_done {t : Lit} (hv : valid t = true) {l : List Int} (hl : ∀ v ∈ l, 0 <= v) : aE (runS (start t) l 6) = [] := by
 have f := start_fine hv
 rcases run_left f hl 6 with h | h
 ·rw [start_left] at h
  have := (valid_iff.1 hv).2.2.2.1
  exact left_zero ((run_reach hl 6).fine f).good.ok (by omega)
 ·exact h
end Sp
namespace Go.User
open Go.Proofs Go.Lf
set_option maxRecDepth 100000
theorem vc28 : (bV C28 (stpS C28) S28 L28 Try.f28) = (
let q0 : Nat := (3 : Nat);
let q1 : Prop := True /\ True /\ True;
let q2 : Int := (0 : Int);
let q3 : Int × Unit := (q2, ());
∀ (x : Sp.VSt × Int × Unit),
 let q4 : Bool := decide (x.2.1 < q2);
 let q5 : Prop := (true && bif q4 then false else true) = true -> True;
 let q6 : Nat := (Sp.aE x.1).length;
 let q7 : Bool := bif q4 then true else decide (x.2.1 ≥ (↑q6 : Int));
 let q8 : Sp.VSt × Int × Unit := (Sp.stpV x.1 x.2.1, Sp.stpE x.1 x.2.1, ());
 let q9 : Int × Int × Unit := (Sp.aE x.1).getD x.2.1.toNat (q2, q3);
 Sp.OkS x.1 -> aD (tLit.prod (tI.slice.prod ((Ty.arr q0 tMsg.slice).prod ((Ty.arr q0 tI).slice.prod ((Ty.arr q0 tI).prod (tI.slice.prod bO)))))) x.1 /\ aD tI x.2.1 /\ True -> ((True /\ q1) /\ True) /\ ((True /\ Sp.OkS x.1 /\ True /\ True) /\ True) /\ ((True /\ True /\ True /\ q5 /\ q5 /\ q5 /\ q5 /\ True /\ True) /\ True) /\ (q7 = true -> ((True /\ True) /\ q1) /\ (x.1, (1 : Int), ()) = q8) /\ (q7 = false -> ((True /\ True /\ True /\ inN x.2.1 q6 /\ True /\ Sp.okX x.1 q9 /\ True) /\ q1) /\ ((x.1.1, Sp.nPc x.1 q9, Sp.nMem x.1 q9, Sp.nVw x.1 q9, Sp.nFe x.1 q9, Sp.nR x.1 q9, Sp.nFr x.1 q9, Sp.nFo x.1 q9, ()), q3) = q8)) := by kernel_rfl
theorem vc23 : (bV C23 (stpS C23) S23 L23 Try.f23) = (
let q0 : Prop := True /\ True /\ True;
let q1 : Prop := q0 /\ True;
let q2 : Nat := (1000 : Nat);
let q3 : Prop := True /\ q0;
let q4 : Prop := True /\ q3;
let q5 : Prop := (True /\ True) /\ True;
let q6 : Nat := (6 : Nat);
let q7 : Int := (0 : Int);
let q8 : Nat := (3 : Nat);
let q9 : Bool × Unit := (true, ());
let q10 : Sp.Lit := (([] : List a9.slice.den), ());
let q11 : List Int × Sp.Out := (([] : List tI.den), ([] : List tI.den), ([] : List tI.den), ());
let q12 : Bool × Unit := (false, ());
let q13 : Sp.VSt × Sp.VSt × Bool × Unit := ((q10, ([] : List tI.den), List.replicate q8 (([] : List tMsg.den)), ([] : List tV3.den), List.replicate q8 q7, q11), (q10, ([] : List tI.den), ([] : List tMsg.slice.den), ([] : List tI.slice.den), ([] : List tI.den), q11), q12);
let q14 : Prop := q13 = q13 /\ True;
let q15 : Prop := (true && true) = true -> True;
let q16 : Prop := (True /\ True) /\ True /\ True;
let q17 : Prop := q0 /\ True /\ True;
let q18 : Int × Int × Unit := (q7, q7, ());
let q19 : Prop := q3 /\ True /\ True;
let q20 : Int := (1 : Int);
let q21 : Nat := q7.toNat;
∀ (x : Sp.Lit × List Int × Unit),
 let q22 : Prop := Sp.aB x.1.1 <= q2;
 let q23 : Nat := x.1.1.length;
 let q24 : Prop := x.2.1 = x.2.1 /\ q14;
 let q25 : Sp.VSt := Sp.runS (Sp.start x.1) x.2.1 q6;
 let q26 : Sp.VSt × Sp.VSt × Bool × Unit := (q25, q25, q9);
 let q27 : Nat := x.2.1.length;
 let q28 : Int := (↑q27 : Int);
 let q29 : Bool := decide (q28 > q7);
 Sp.valid x.1 = true ->
 aD tLit x.1 /\ aD (Ty.int IntKind.u8).slice x.2.1 /\ True ->
 q1 /\
 ((True /\ q22 /\ q4) /\ q0) /\
 ((True /\ True /\ (q22 /\ q23 <= q2) /\ q4) /\ True /\ True) /\
 q5 /\
 (∃ (x_1 : Nat),
 let q30 : Sp.VSt := Sp.runS (Sp.start x.1) x.2.1 x_1;
 x_1 <= q6 /\ q7 = (↑x_1 : Int) /\ (Sp.stA x.1, Sp.stR x.1 q8 q23 (Sp.aB x.1.1), Sp.errA x.1 == q7, ()) = (q30, q30, q9) /\ q24) /\
 ∀ (x_1 : Nat),
 let q31 : Sp.VSt := Sp.runS (Sp.start x.1) x.2.1 x_1;
 let q32 : Sp.VSt × Sp.VSt × Bool × Unit := (q31, q31, q9);
 let q33 : Bool := decide ((↑x_1 : Int) < (6 : Int));
 let q34 : Prop := Sp.OkS q31;
 let q35 : Prop := (True /\ True /\ q34 /\ True /\ True) /\ True;
 let q36 : List (Int × Int × Unit) := Sp.aE q31;
 let q37 : Int := (↑q36.length : Int);
 let q38 : Nat := q36.length;
 let q39 : Bool := q37 != (↑q38 : Int);
 let q40 : Prop := (true && bif q39 then false else true) = true;
 let q41 : Prop := q40 -> True;
 let q42 : Bool := q37 == q7;
 let q43 : Bool := bif q39 then true else decide (q37 = q7) != q42;
 let q44 : Prop := q16 /\ q32 = q26;
 let q45 : Int := (↑x_1 : Int).tmod q28;
 let q46 : Prop := (True /\ True /\ True /\ q34 /\ q4) /\ q0;
 let q47 : Int := Int.tmod (x.2.1.getD q45.toNat q7) q37;
 let q48 : Int × Int × Unit := q36.getD q47.toNat q18;
 let q49 : Int := (↑x_1 : Int) + q20;
 let q50 : Prop := (True /\ inK IntKind.i64 q49 /\ True /\ True) /\ True;
 let q51 : Sp.Lit := q31.1;
 let q52 : Int × Int × Unit := q36.getD q21 q18;
 x_1 <= q6 ->
 aD tI (↑x_1 : Int) /\ aD ((tLit.prod (tI.slice.prod ((Ty.arr q8 tMsg.slice).prod ((Ty.arr q8 tI).slice.prod ((Ty.arr q8 tI).prod (tI.slice.prod bO)))))).prod (tRSt.prod (Ty.bool.prod Ty.unit))) q32 /\ True ->
 ((True /\ True /\ True /\ q15 /\ q15 /\ True /\ True) /\ True) /\
 (q33 = true ->
 q35 /\
 q35 /\
 ((True /\ True /\ True /\ True /\ True /\ q41 /\ q41 /\ (q40 -> q34) /\ q41 /\ q41 /\ q41 /\ True /\ True) /\ True) /\
 (q43 = true -> q16 /\ q16 /\ (q31, q31, q12) = q26) /\
 (q43 = false ->
 q1 /\
 (q42 = true -> q44) /\
 (q42 = false ->
 q5 /\
 (q3 /\ True) /\
 (q29 = true ->
 ((True /\ True /\ True /\ True /\ q28 ≠ q7 /\ inN q45 q27 /\ True /\ True /\ True /\ q37 ≠ q7 /\ True /\ True) /\ True) /\
 q46 /\
 q17 /\
 ((True /\ True /\ True /\ True /\ inN q47 q38 /\ True /\ Sp.okX q31 q48 /\ True /\ True) /\ True /\ True) /\
 q19 /\
 q50 /\
 ∃ (y : Nat),
 let q53 : Sp.VSt := Sp.runS (Sp.start x.1) x.2.1 y;
 y <= q6 /\ q6 - y < q6 - x_1 /\ q49 = (↑y : Int) /\ (Sp.stpV q31 q47, (q51, Sp.nPc q31 q48, Sp.nMem q31 q48, Sp.nVw q31 q48, Sp.nFe q31 q48, Sp.nR q31 q48, Sp.nFr q31 q48, Sp.nFo q31 q48, ()), Sp.stpE q31 q47 == q7, ()) = (q53, q53, q9) /\ q24) /\
 (q29 = false ->
 q46 /\
 q17 /\
 ((True /\ True /\ True /\ True /\ inN q7 q38 /\ True /\ Sp.okX q31 q52 /\ True /\ True) /\ True /\ True) /\
 q19 /\
 q50 /\
 ∃ (y : Nat),
 let q54 : Sp.VSt := Sp.runS (Sp.start x.1) x.2.1 y;
 y <= q6 /\ q6 - y < q6 - x_1 /\ q49 = (↑y : Int) /\ (Sp.stpV q31 q7, (q51, Sp.nPc q31 q52, Sp.nMem q31 q52, Sp.nVw q31 q52, Sp.nFe q31 q52, Sp.nR q31 q52, Sp.nFr q31 q52, Sp.nFo q31 q52, ()), Sp.stpE q31 q7 == q7, ()) = (q54, q54, q9) /\ q24)))) /\
 (q33 = false -> q44)) := by kernel_rfl
end Go.User
namespace Sp
end Sp
namespace Go.User
open Go.Lf Go.Proofs
theorem ok28 : FOk Try.prog 28 S28 := by
 have hC : aJ Try.prog C28 := okC (aG ok53 (aG ok54c fns_nil)) rfl rfl rfl rfl rfl rfl rfl
 refine FOk.intro hC (aW hC) Try.call28 Try.func28 (by kernel_rfl) (by kernel_rfl) L28 (vc28.mpr ?_)
 simp only [zz, zy]
 rintro ⟨s, k, u⟩ hs hkk
 have hs : Sp.OkS s := hs
 refine ⟨hs, fun hb => ?_, fun hb => ⟨⟨hb, hs, ?_⟩, ?_⟩⟩
 ·have hb : (decide (k < 0) || decide (((Sp.aE s).length : Int) <= k)) = true := hb
  have : Sp.stpB s k = false := by
   unfold Sp.stpB;rw [Bool.or_eq_true, decide_eq_true_eq, decide_eq_true_eq] at hb;rcases hb with hb | hb
   ·rw [decide_eq_false (show ¬ 0 <= k by omega)]; rfl
   ·rw [decide_eq_false (show ¬ k < ((Sp.aE s).length : Int) by omega), Bool.and_false]
  show (s, (1 : Int), ()) = (Sp.stpV s k, Sp.stpE s k, ())
  unfold Sp.stpV Sp.stpE;rw [this]; rfl
 ·obtain ⟨h1, h2⟩ := hb
  have h1 : 0 <= k := h1
  have h2 : k < ((Sp.aE s).length : Int) := h2
  exact Pl.bK (by omega) _
 ·obtain ⟨h1, h2⟩ := hb
  have h1 : 0 <= k := h1
  have h2 : k < ((Sp.aE s).length : Int) := h2
  have : Sp.stpB s k = true := by
   unfold Sp.stpB;rw [decide_eq_true h1, decide_eq_true h2]; rfl
  show (Sp.next s ((Sp.aE s).getD k.toNat Sp.cho0), (0 : Int), ()) = (Sp.stpV s k, Sp.stpE s k, ())
  unfold Sp.stpV Sp.stpE;rw [if_pos this, if_pos this]
set_option maxRecDepth 100000 in
theorem ok23 : FOk Try.prog 23 S23 := by
 have hC : aJ Try.prog C23 := okC (aG ok19 (aG ok48 (aG ok50 (aG ok31c (aG ok26c (aG ok28 (aG ok51 fns_nil))))))) rfl rfl rfl rfl rfl rfl rfl
 refine FOk.intro hC (aW hC) Try.call23 Try.func23 (by kernel_rfl) (by kernel_rfl) L23 (vc23.mpr ?_)
 simp only [zz, zy]
 rintro ⟨t, l, u⟩ h hx
 have h : Sp.valid t = true := h
 obtain ⟨v1, v2, v3, v4, v5⟩ := Sp.valid_iff.1 h
 have hf := Sp.start_fine h
 have hl : ∀ v ∈ l, 0 <= v := fun v hv => (hx.2.2 v hv).1
 have hll : l.length <= lim := hx.2.1
 clear hx
 have hlast : ∀ i, i <= 6 -> Sp.aE (Sp.runS (Sp.start t) l i) = [] -> Sp.runS (Sp.start t) l 6 = Sp.runS (Sp.start t) l i := by
  intro i hi h0;have := Sp.run_stay h0 (6 - i);rw [show i + (6 - i) = 6 from by omega] at this
  exact this
 have hstA : Sp.stA t = Sp.start t := by unfold Sp.stA; rw [if_pos h]
 have herr : Sp.errA t = 0 := by unfold Sp.errA; rw [if_pos h]
 refine ⟨by show Sp.aB t.1 <= 1000; omega, ⟨by show Sp.aB t.1 <= 1000; omega, by show t.1.length <= 1000; omega⟩, ⟨0, Nat.zero_le _, rfl, ?_⟩, fun i hi _ => ⟨fun hlt => ?_, fun hge => ?_⟩⟩
 ·show (Sp.stA t, Sp.start t, (Sp.errA t == 0), ()) = (Sp.start t, Sp.start t, true, ())
  rw [hstA, herr]; rfl
 ·have hg : Sp.OkS (Sp.runS (Sp.start t) l i) := ((Sp.run_reach hl i).fine hf).good.ok
  have hL := hlast i hi
  have hsucc : Sp.runS (Sp.start t) l (i + 1) = if Sp.aE (Sp.runS (Sp.start t) l i) = [] then Sp.runS (Sp.start t) l i else Sp.next (Sp.runS (Sp.start t) l i) ((Sp.aE (Sp.runS (Sp.start t) l i)).getD (Sp.pick l i (Sp.aE (Sp.runS (Sp.start t) l i)).length).toNat Sp.cho0) := rfl
  have hpin := Sp.pick_in hl i (n := (Sp.aE (Sp.runS (Sp.start t) l i)).length)
  have hlt : (i : Int) < 6 := hlt
  have hpick : ∀ k, k = Sp.pick l i (Sp.aE (Sp.runS (Sp.start t) l i)).length -> Sp.aE (Sp.runS (Sp.start t) l i) ≠ [] -> inN k (Sp.aE (Sp.runS (Sp.start t) l i)).length /\
    (Sp.stpV (Sp.runS (Sp.start t) l i) k, Sp.next (Sp.runS (Sp.start t) l i) ((Sp.aE (Sp.runS (Sp.start t) l i)).getD k.toNat Sp.cho0), (Sp.stpE (Sp.runS (Sp.start t) l i) k == 0), ()) = (Sp.runS (Sp.start t) l (i + 1), Sp.runS (Sp.start t) l (i + 1), true, ()) := by
   rintro k rfl hne
   obtain ⟨p0, p1⟩ := hpin (List.length_pos_iff.2 hne);refine ⟨⟨p0, p1⟩, ?_⟩;have hb : Sp.stpB (Sp.runS (Sp.start t) l i) (Sp.pick l i (Sp.aE (Sp.runS (Sp.start t) l i)).length) = true := by
    unfold Sp.stpB; rw [decide_eq_true p0, decide_eq_true p1]; rfl
   unfold Sp.stpV Sp.stpE;rw [if_pos hb, if_pos hb, hsucc, if_neg hne]; rfl
  clear hsucc hpin
  dsimp only
  refine ⟨hg, hg, hg, fun hb => ?_, fun _ => ⟨fun h0 => ?_, fun h0 => ⟨fun hl0 => ?_, fun hl0 => ?_⟩⟩⟩
  ·exfalso
   revert hb
   generalize ((Sp.aE (Sp.runS (Sp.start t) l i)).length : Int) = n
   intro hb;by_cases h : n = 0
   ·rw [h] at hb; revert hb; decide
   ·rw [decide_eq_false h] at hb
    have e : (n == 0) = false := by simpa using h
    rw [e] at hb;simp at hb
  ·have h0 : ((Sp.aE (Sp.runS (Sp.start t) l i)).length : Int) = 0 := h0
   rw [hL (List.eq_nil_of_length_eq_zero (by omega))]
  ·have h0 : ¬ ((Sp.aE (Sp.runS (Sp.start t) l i)).length : Int) = 0 := h0
   have hne : Sp.aE (Sp.runS (Sp.start t) l i) ≠ [] := fun h => h0 (by rw [h]; rfl)
   have hl0 : 0 < (l.length : Int) := hl0
   have hmod : (i : Int).tmod (l.length : Int) = ((i % l.length : Nat) : Int) := by rw [Int.tmod_eq_emod_of_nonneg (by omega)]; rfl
   have hmlt : i % l.length < l.length := Nat.mod_lt _ (by omega)
   rw [hmod];obtain ⟨k1, k2⟩ := hpick ((l.getD ((i % l.length : Nat) : Int).toNat 0).tmod ((Sp.aE (Sp.runS (Sp.start t) l i)).length : Int)) (by unfold Sp.pick; rw [if_neg (by omega)]; rfl) hne;refine ⟨⟨by omega, inN_of (by omega), h0⟩, hg, ⟨k1, hg, Pl.bK (by obtain ⟨q1, q2⟩ := k1; omega) _⟩, bE (by omega) (by omega), i + 1, by omega, by omega, by omega, k2⟩
  ·have h0 : ¬ ((Sp.aE (Sp.runS (Sp.start t) l i)).length : Int) = 0 := h0
   have hne : Sp.aE (Sp.runS (Sp.start t) l i) ≠ [] := fun h => h0 (by rw [h]; rfl)
   have hl0 : (l.length : Int) <= 0 := hl0
   obtain ⟨k1, k2⟩ := hpick 0 (by unfold Sp.pick; rw [if_pos (by omega)]) hne;refine ⟨hg, ⟨k1, hg, Pl.bK (by obtain ⟨q1, q2⟩ := k1; omega) _⟩, bE (by omega) (by omega), i + 1, by omega, by omega, by omega, k2⟩
 ·have hi : i <= 6 := hi
  have hge : (6 : Int) <= (i : Int) := hge
  have hi : i = 6 := by omega
  subst hi; rfl
end Go.User
namespace Cx
open Relation Sp
theorem sub_snoc {X : List Int} {a b c : Int} (hc : c ∉ X) : [a, b].Sublist (X ++ [c]) ↔ [a, b].Sublist X ∨ (b = c /\ a ∈ X) := by
 constructor
 ·intro h
  obtain ⟨l1, l2, h1, h2, h3⟩ := List.sublist_append_iff.1 h;cases l2 with
  | nil => rw [List.append_nil] at h1; rw [h1]; exact .inl h2
  | cons y l2 =>
   have hl := h3.length_le
   simp only [List.length_cons, List.length_nil] at hl;have : l2 = [] := List.eq_nil_of_length_eq_zero (by omega);subst this;have hy : y = c := by simpa using h3
   match l1, h1 with
   | [x], h1 =>
    simp only [List.cons_append, List.nil_append, List.cons.injEq, and_true] at h1;obtain ⟨e1, e2⟩ := h1;exact .inr ⟨e2.trans hy, by rw [e1]; exact h2.subset (by simp)⟩
   | [], h1 => have := congrArg List.length h1; simp at this
   | _ :: _ :: r, h1 => have := congrArg List.length h1; simp at this
 ·rintro (h | ⟨rfl, h⟩)
  ·exact h.trans (List.sublist_append_left _ _)
  ·exact List.sublist_append_iff.2 ⟨[a], [b], rfl, List.singleton_sublist.2 h, List.Sublist.refl _⟩

section
variable (op : Int -> LOp) (core : Int -> Nat)
def isF (e : Int) : Prop := (op e).1 = 4
def adj (a b : Int) : Prop := core a = core b ∨ (isF op a /\ isF op b)
def R (X : List Int) (a b : Int) : Prop := [a, b].Sublist X /\ adj op core a b
def HB (X : List Int) : Int -> Int -> Prop := TransGen (R op core X)
def NOW (X : List Int) (a : Int) (k : Nat) : Prop := ∃ d ∈ X, core d = k /\ (a = d ∨ HB op core X a d)
variable {op core}
theorem R.mem {X : List Int} {a b : Int} (h : R op core X a b) : a ∈ X /\ b ∈ X := ⟨h.1.subset (by simp), h.1.subset (by simp)⟩
theorem HB.mem {X : List Int} {a b : Int} (h : HB op core X a b) : a ∈ X /\ b ∈ X := by
 unfold HB at h
 induction h with
 | single h => exact h.mem
 | tail h1 h2 ih => exact ⟨ih.1, h2.mem.2⟩
theorem HB.snoc {X : List Int} {a b c : Int} (hc : c ∉ X) (h : HB op core (X ++ [c]) a b) : HB op core X a b ∨ (b = c /\ ∃ d ∈ X, adj op core d c /\ (a = d ∨ HB op core X a d)) := by
 unfold HB at h
 induction h with
 | single h =>
  rcases (sub_snoc hc).1 h.1 with h1 | ⟨rfl, h1⟩
  ·exact .inl (.single ⟨h1, h.2⟩)
  ·exact .inr ⟨rfl, a, h1, h.2, .inl rfl⟩
 | tail h1 h2 ih =>
  rcases (sub_snoc hc).1 h2.1 with h3 | ⟨rfl, h3⟩
  ·rcases ih with ih | ⟨rfl, _⟩
   ·exact .inl (TransGen.tail ih ⟨h3, h2.2⟩)
   ·exact absurd (h3.subset (by simp)) hc
  ·rcases ih with ih | ⟨rfl, _⟩
   ·exact .inr ⟨rfl, _, h3, h2.2, .inr ih⟩
   ·exact absurd h3 hc
theorem NOW.mem {X : List Int} {a : Int} {k : Nat} (h : NOW op core X a k) : a ∈ X := by
 obtain ⟨d, h1, _, h2⟩ := h
 rcases h2 with rfl | h2
 ·exact h1
 ·exact h2.mem.1
theorem NOW.snoc {X : List Int} {a c : Int} {k : Nat} (hc : c ∉ X) (h : NOW op core (X ++ [c]) a k) : NOW op core X a k ∨ (core c = k /\ (a = c ∨ ∃ d ∈ X, adj op core d c /\ (a = d ∨ HB op core X a d))) := by
 obtain ⟨d, h0, h2, h3⟩ := h
 rcases List.mem_append.1 h0 with h1 | h1
 ·left
  refine ⟨d, h1, h2, h3.imp id fun h3 => ?_⟩
  rcases h3.snoc hc with h4 | ⟨h4, _⟩
  ·exact h4
  ·exact absurd (h4 ▸ h1) hc
 ·have h1 : d = c := by simpa using h1
  subst h1;right;refine ⟨h2, h3.imp id fun h3 => ?_⟩
  rcases h3.snoc hc with h4 | ⟨_, h4⟩
  ·exact absurd h4.mem.2 hc
  ·exact h4
end
theorem idxc (x : Int) (X : List Int) (a : Int) : (x :: X).idxOf a = if x = a then 0 else X.idxOf a + 1 := by
 rw [List.idxOf_cons]
 by_cases h : x = a
 ·rw [if_pos h, h]; simp
 ·rw [if_neg h]
  have : (x == a) = false := by simpa using h
  rw [this]; rfl
theorem sub_idx {X : List Int} (hn : X.Nodup) {a b : Int} (h : [a, b].Sublist X) : X.idxOf a < X.idxOf b := by
 induction X with
 | nil => cases h
 | cons x X ih =>
  rw [List.nodup_cons] at hn;rcases List.sublist_cons_iff.1 h with h1 | ⟨r, h1, h2⟩
  ·have := ih hn.2 h1
   have ha : x ≠ a := fun e => hn.1 (e ▸ h1.subset (by simp))
   have hb : x ≠ b := fun e => hn.1 (e ▸ h1.subset (by simp))
   rw [idxc, idxc, if_neg ha, if_neg hb];omega
  ·simp only [List.cons.injEq] at h1
   obtain ⟨e1, e2⟩ := h1;subst e2;have hb : b ∈ X := List.singleton_sublist.1 h2;have hxb : x ≠ b := fun e => hn.1 (e ▸ hb)
   rw [idxc, idxc, if_pos e1.symm, if_neg hxb];omega
end Cx
namespace Sp
def evK (t : Lit) (r : List Int) (c i : Nat) : List LEv := (List.range i).map fun (j : Nat) => ((c : Int), (t.1.getD c []).getD j op0, r.getD (aB (t.1.take c) + j) 0, ())
def evN (t : Lit) (r : List Int) (n : Nat) : List LEv := (List.range n).flatMap fun c => evK t r c (t.1.getD c []).length
def moK (m : List Msg) (i : Nat) : List Int := ((m.drop 1).take i).map (·.1)
def moN (s : VSt) (n : Nat) : List (List Int) := (List.range n).map fun x => moK (aC s x) ((aC s x).length - 1)
def frmOf (s : VSt) : List Int := s.2.2.2.2.2.2.1
def foOf (s : VSt) : List Int := s.2.2.2.2.2.2.2.1
def rsOf (s : VSt) : List Int := s.2.2.2.2.2.1
def bF (s : VSt) : Gr := (evN s.1 (rsOf s) s.1.1.length, frmOf s, moN s 3, foOf s, ())
def grZ : Gr := ([], [], [], [], ())
def grA (s : VSt) : Gr := if aE s = [] then bF s else grZ
def grE (s : VSt) : Int := if aE s = [] then 0 else 4
end Sp
namespace Go.User
open Go.Lf
abbrev mG : Md := .pair (.own .shr) (.pair .shr (.pair (.own .shr) (.pair .shr .shr)))
abbrev mG0 : Md := .pair .shr (.pair .shr (.pair .shr (.pair .shr .shr)))
def S52 : aU := { args := [.val tVSt], multi := true, res := .prod tGr (.prod tI .unit), mode := .shr, pre := fun x => Sp.OkS x.1, fn := fun x => (Sp.grA x.1, Sp.grE x.1, ()) }
def C52 : Ctx := { mkS 83 [(26, S26), (83, S83)] with mds := [(1, mV0), (2, mG0), (17, mG0), (24, mG), (4, mG)], frz := [20, 23], fz1 := [11], fzs := [4] }
def L52 (x : aO S52.args) : List aS := [
 {ι := Nat, inv := fun c => c <= List.length x.1.1.1, dec := fun c => List.length x.1.1.1 - c, ovr := fun c => [(29, .shr tI (c : Int)), (4, .box tGr mG (Sp.evN x.1.1 (Sp.rsOf x.1) c, Sp.frmOf x.1, [], Sp.foOf x.1, ()))], keep := [1, 2, 27, 28], sub := fun c => [
  {ι := Nat, inv := fun i => i <= List.length (List.getD x.1.1.1 c []), dec := fun i => List.length (List.getD x.1.1.1 c []) - i, ovr := fun i => [(36, .shr tI (i : Int)), (4, .box tGr mG (Sp.evN x.1.1 (Sp.rsOf x.1) c ++ Sp.evK x.1.1 (Sp.rsOf x.1) c i, Sp.frmOf x.1, [], Sp.foOf x.1, ()))], keep := [1, 2, 5, 27, 28, 29, 34, 35] }] },
 {ι := Nat, inv := fun n => n <= 3, dec := fun n => 3 - n, ovr := fun n => [(59, .shr tI (n : Int)), (4, .box tGr mG (Sp.evN x.1.1 (Sp.rsOf x.1) (List.length x.1.1.1), Sp.frmOf x.1, Sp.moN x.1 n, Sp.foOf x.1, ()))], keep := [2, 58], sub := fun n => [
  {ι := Nat, inv := fun k => k + 1 <= List.length (Sp.aC x.1 n), dec := fun k => List.length (Sp.aC x.1 n) - k, ovr := fun k => [(65, .shr tI (k : Int)), (11, .own (.slice tI) (.own .shr) (Sp.moK (Sp.aC x.1 n) k))], keep := [2, 4, 58, 59, 63, 64] }] }]
def S27 : aU := { args := [.val tVSt], multi := true, res := .prod tGr (.prod .bool .unit), mode := .shr, pre := fun x => Sp.OkS x.1, fn := fun x => (Sp.grA x.1, decide (Sp.grE x.1 = 0), ()) }
def C27 : Ctx := { mkS 14 [(52, S52)] with mds := [(1, mV0), (2, mG0), (4, mG0)] }
def L27 (x : aO S27.args) : List aS := []
end Go.User
namespace Sp
theorem evK_len (t : Lit) (r : List Int) (c i : Nat) : (evK t r c i).length = i := by simp [evK]
theorem evK_succ (t : Lit) (r : List Int) (c i : Nat) : evK t r c (i + 1) = evK t r c i ++ [((c : Int), (t.1.getD c []).getD i op0, r.getD (aB (t.1.take c) + i) 0, ())] := by
 unfold evK; rw [List.range_succ, List.map_append]; rfl
theorem evN_succ (t : Lit) (r : List Int) (n : Nat) : evN t r (n + 1) = evN t r n ++ evK t r n (t.1.getD n []).length := by
 unfold evN; rw [List.range_succ, List.flatMap_append]; simp
theorem evN_len (t : Lit) (r : List Int) : ∀ n, n <= t.1.length -> (evN t r n).length = aB (t.1.take n)
 | 0, _ => rfl
 | n + 1, h => by
  rw [evN_succ, List.length_append, evK_len, evN_len t r n (by omega), total_takeS (by omega)]
theorem moK_succ {m : List Msg} {k : Nat} (h : k + 1 < m.length) : moK m k ++ [(m.getD (k + 1) msg0).1] = moK m (k + 1) := by
 unfold moK
 rw [Pl.take_succ (l := m.drop 1) (i := k) (by rw [List.length_drop]; omega) msg0, List.map_append]
 congr 1
 show _ = [((m.drop 1).getD k msg0).1]
 rw [List.getD_eq_getElem?_getD, List.getD_eq_getElem?_getD, List.getElem?_drop, Nat.add_comm]
theorem moK_len (m : List Msg) (k : Nat) : (moK m k).length <= k := by
 unfold moK; rw [List.length_map, List.length_take]; omega
theorem moN_succ (s : VSt) (n : Nat) : moN s (n + 1) = moN s n ++ [moK (aC s n) ((aC s n).length - 1)] := by
 unfold moN; rw [List.range_succ, List.map_append]; rfl
theorem moN_len (s : VSt) (n : Nat) : (moN s n).length = n := by simp [moN]
def ev0 : LEv := (0, (0, 0, 0, ()), 0, ())
theorem evN_get (t : Lit) (r : List Int) : ∀ n, n <= t.1.length -> ∀ c j, c < n -> j < (t.1.getD c []).length ->
  (evN t r n).getD (aB (t.1.take c) + j) ev0 = ((c : Int), (t.1.getD c []).getD j op0, r.getD (aB (t.1.take c) + j) 0, ())
 | 0, _, c, j, h, _ => by omega
 | n + 1, hn, c, j, hc, hj => by
  have hl := evN_len t r n (by omega)
  rw [evN_succ, List.getD_eq_getElem?_getD];have hts := total_takeS (P := t.1) (c := c) (by omega);by_cases h : c < n
  ·have hm := bas_mono (t := t) (c := c + 1) (d := n) (by omega) (by omega)
   unfold bas at hm;rw [List.getElem?_append_left (by omega), <- List.getD_eq_getElem?_getD];exact evN_get t r n (by omega) c j h hj
  ·have h : c = n := by omega
   subst h;rw [List.getElem?_append_right (by omega), hl, show aB (t.1.take c) + j - aB (t.1.take c) = j from by omega]
   unfold evK;rw [List.getElem?_map, List.getElem?_range hj]; rfl
def evL (t : Lit) : List LEv := evN t [] t.1.length
def opE (t : Lit) (e : Int) : LOp := ((evL t).getD e.toNat ev0).2.1
def coE (t : Lit) (e : Int) : Nat := ((evL t).getD e.toNat ev0).1.toNat
theorem toNat_bas {t : Lit} {c j : Nat} : (bas t c + (j : Int)).toNat = aB (t.1.take c) + j := by unfold bas; omega
theorem opE_at {t : Lit} {c j : Nat} (hc : c < t.1.length) (hj : j < (t.1.getD c []).length) : opE t (bas t c + j) = (t.1.getD c []).getD j op0 := by
 unfold opE evL
 rw [toNat_bas, evN_get t [] _ (Nat.le_refl _) c j hc hj]
theorem coE_at {t : Lit} {c j : Nat} (hc : c < t.1.length) (hj : j < (t.1.getD c []).length) : coE t (bas t c + j) = c := by
 unfold coE evL
 rw [toNat_bas, evN_get t [] _ (Nat.le_refl _) c j hc hj]
 exact Int.toNat_natCast c
theorem ev_ex' {t : Lit} : ∀ n, n <= t.1.length -> ∀ e : Nat, e < aB (t.1.take n) -> ∃ c j : Nat, c < n /\ j < (t.1.getD c []).length /\ (e : Int) = bas t c + j
 | 0, _, e, h => by simp [aB] at h
 | n + 1, hn, e, h => by
  rw [total_takeS (by omega)] at h;by_cases h1 : e < aB (t.1.take n)
  ·obtain ⟨c, j, a, b, d⟩ := ev_ex' n (by omega) e h1
   exact ⟨c, j, by omega, b, d⟩
  ·exact ⟨n, e - aB (t.1.take n), by omega, by omega, by unfold bas; omega⟩
theorem ev_ex {t : Lit} {e : Nat} (h : e < aB t.1) : ∃ c j : Nat, c < t.1.length /\ j < (t.1.getD c []).length /\ (e : Int) = bas t c + j :=
 ev_ex' t.1.length (Nat.le_refl _) e (by rw [List.take_length]; exact h)
end Sp
namespace Go.User
open Go.Proofs Go.Lf
set_option maxRecDepth 100000
theorem vc52 : (bV C52 (stpS C52) S52 L52 Try.f52) = (
let q0 : Nat := (3 : Nat);
let q1 : Prop := True /\ True /\ True;
let q2 : Prop := True /\ q1;
let q3 : Prop := q2 /\ True;
let q4 : Int := (0 : Int);
let q5 : Prop := (True /\ True) /\ q1;
let q6 : List (List Int) := ([] : List tI.slice.den);
let q7 : List (Int × Sp.LOp × Int × Unit) × List Int × List (List Int) × List Int × Unit := (([] : List tLEv.den), ([] : List tI.den), q6, ([] : List tI.den), ());
let q8 : Nat := (1000000 : Nat);
let q9 : Prop := True /\ q2;
let q10 : Prop := q7 = q7;
let q11 : Prop := (True /\ True) /\ True;
let q12 : Int × Unit := (q4, ());
let q13 : Sp.LOp := (q4, q4, q12);
let q14 : List Step := Step.fst :: ([] : List Step);
let q15 : List Step := List.append._f (([] : List Step)) PUnit.unit q14;
let q16 : Int := (1 : Int);
let q17 : Sp.Msg := (q4, q4, false, ());
let q18 : List Step := List.append._f (([] : List Step)) PUnit.unit (Step.snd :: Step.snd :: q14);
∀ (x : Sp.VSt × Unit),
 let q19 : Bool := !decide ((↑(Sp.aE x.1).length : Int) = q4);
 let q20 : (List (Int × Sp.LOp × Int × Unit) × List Int × List (List Int) × List Int × Unit) × Int × Unit := (Sp.grA x.1, Sp.grE x.1, ());
 let q21 : List Int × Sp.Out := x.1.2.2.2.2.2;
 let q22 : Sp.Out := q21.2;
 let q23 : List Int := q22.1;
 let q24 : List Int := q22.2.1;
 let q25 : Nat := x.1.1.1.length;
 let q26 : List Int × Unit := (Sp.foOf x.1, ());
 let q27 : List Int × List (List Int) × List Int × Unit := (Sp.frmOf x.1, q6, q26);
 let q28 : Prop := x.1 = x.1;
 let q29 : Prop := x.1.1.1 = x.1.1.1;
 let q30 : Int := (↑q25 : Int);
 let q31 : Prop := q30 = q30;
 let q32 : Prop := q28 /\ q10 /\ q29 /\ q31 /\ True;
 let q33 : List Int := q21.1;
 let q34 : List (Int × Sp.LOp × Int × Unit) := Sp.evN x.1.1 (Sp.rsOf x.1) q25;
 let q35 : Prop := x.1.2.2.1 = x.1.2.2.1;
 let q36 : Prop := q10 /\ q35 /\ True;
 Sp.OkS x.1 ->
 aD (tLit.prod (tI.slice.prod ((Ty.arr q0 tMsg.slice).prod ((Ty.arr q0 tI).slice.prod ((Ty.arr q0 tI).prod (tI.slice.prod bO)))))) x.1 /\ True ->
 q3 /\
 ((True /\ Sp.OkS x.1 /\ True /\ True) /\ True) /\
 (q19 = true -> q5 /\ (q7, (4 : Int), ()) = q20) /\
 (q19 = false ->
 ((True /\ True /\ q23.length <= q8 /\ True /\ True /\ q24.length <= q8 /\ q1) /\ True /\ True) /\
 ((True /\ q9) /\ True) /\
 (∃ (x_1 : Nat), x_1 <= q25 /\ q4 = (↑x_1 : Int) /\ (([] : List tLEv.den), q23, q6, q24, ()) = (Sp.evN x.1.1 (Sp.rsOf x.1) x_1, q27) /\ q32) /\
 ∀ (x_1 : Nat),
 let q37 : List (Int × Sp.LOp × Int × Unit) := Sp.evN x.1.1 (Sp.rsOf x.1) x_1;
 let q38 : List (Int × Sp.LOp × Int × Unit) × List Int × List (List Int) × List Int × Unit := (q37, q27);
 let q39 : Bool := decide ((↑x_1 : Int) < q30);
 let q40 : Nat := (x.1.1.1.getD x_1 (([] : List a9.den))).length;
 let q41 : Prop := (↑x_1 : Int) = (↑x_1 : Int);
 let q42 : List Sp.LOp := x.1.1.1.getD (↑x_1 : Int).toNat (([] : List a9.den));
 let q43 : Nat := q42.length;
 let q44 : Int := (↑q43 : Int);
 let q45 : Prop := q28 /\ q10 /\ q41 /\ q29 /\ q31 /\ q41 /\ q42 = q42 /\ q44 = q44 /\ True;
 let q46 : Int := (↑x_1 : Int) + q16;
 x_1 <= q25 ->
 aD tI (↑x_1 : Int) /\ aD ((tI.prod (a9.prod (tI.prod Ty.unit))).slice.prod (tI.slice.prod (tI.slice.slice.prod (tI.slice.prod Ty.unit)))) q38 /\ True ->
 q11 /\
 (q39 = true ->
 ((True /\ inN (↑x_1 : Int) q25 /\ q2) /\ True) /\
 q3 /\
 (∃ (x_2 : Nat), x_2 <= q40 /\ q4 = (↑x_2 : Int) /\ q38 = (q37 ++ Sp.evK x.1.1 (Sp.rsOf x.1) x_1 x_2, q27) /\ q45) /\
 ∀ (x_2 : Nat),
 let q47 : List (Int × Sp.LOp × Int × Unit) := q37 ++ Sp.evK x.1.1 (Sp.rsOf x.1) x_1 x_2;
 let q48 : List (Int × Sp.LOp × Int × Unit) × List Int × List (List Int) × List Int × Unit := (q47, q27);
 let q49 : Bool := decide ((↑x_2 : Int) < q44);
 let q50 : Nat := q47.length;
 let q51 : Int := (↑q50 : Int);
 let q52 : List (Int × Sp.LOp × Int × Unit) := ((↑x_1 : Int), q42.getD (↑x_2 : Int).toNat q13, q33.getD q51.toNat q4, ()) :: ([] : List tLEv.den);
 let q53 : Int := (↑x_2 : Int) + q16;
 x_2 <= q40 -> aD tI (↑x_2 : Int) /\ aD ((tI.prod (a9.prod (tI.prod Ty.unit))).slice.prod (tI.slice.prod (tI.slice.slice.prod (tI.slice.prod Ty.unit)))) q48 /\ True -> q11 /\ (q49 = true -> ((inN (↑x_2 : Int) q43 /\ q1) /\ True /\ True) /\ ((True /\ True /\ True /\ True /\ True /\ True /\ True /\ True /\ True /\ inN q51 q33.length /\ q2) /\ (↑(q50 + q52.length) : Int) <= aN /\ True /\ q15 = q15 /\ True) /\ ((inK IntKind.i64 q53 /\ True /\ True) /\ True) /\ ∃ (y : Nat), y <= q40 /\ q40 - y < q40 - x_2 /\ q53 = (↑y : Int) /\ (q47 ++ q52, q27) = (q37 ++ Sp.evK x.1.1 (Sp.rsOf x.1) x_1 y, q27) /\ q45) /\ (q49 = false -> ((inK IntKind.i64 q46 /\ True /\ True) /\ True) /\ ∃ (y : Nat), y <= q25 /\ q25 - y < q25 - x_1 /\ q46 = (↑y : Int) /\ q48 = (Sp.evN x.1.1 (Sp.rsOf x.1) y, q27) /\ q32)) /\
 (q39 = false ->
 q3 /\
 (∃ (x_2 : Nat), x_2 <= q0 /\ q4 = (↑x_2 : Int) /\ q38 = (q34, Sp.frmOf x.1, Sp.moN x.1 x_2, q26) /\ q36) /\
 ∀ (x_2 : Nat),
 let q54 : List (Int × Sp.LOp × Int × Unit) × List Int × List (List Int) × List Int × Unit := (q34, Sp.frmOf x.1, Sp.moN x.1 x_2, q26);
 let q55 : Bool := decide ((↑x_2 : Int) < (3 : Int));
 let q56 : List Sp.Msg := x.1.2.2.1.getD (↑x_2 : Int).toNat (([] : List tMsg.den));
 let q57 : Nat := q56.length;
 let q58 : Int := (↑q57 : Int);
 let q59 : Nat := (Sp.aC x.1 x_2).length;
 let q60 : List Sp.Msg := win q16 q58 q56;
 let q61 : Nat := q60.length;
 let q62 : Int := (↑q61 : Int);
 let q63 : Prop := q10 /\ q54 = q54 /\ q35 /\ (↑x_2 : Int) = (↑x_2 : Int) /\ q60 = q60 /\ q62 = q62 /\ True;
 let q64 : Int := (↑x_2 : Int) + q16;
 x_2 <= q0 ->
 aD tI (↑x_2 : Int) /\ aD ((tI.prod (a9.prod (tI.prod Ty.unit))).slice.prod (tI.slice.prod (tI.slice.slice.prod (tI.slice.prod Ty.unit)))) q54 /\ True ->
 q11 /\
 (q55 = true ->
 ((inN (↑x_2 : Int) q0 /\ True /\ True) /\ True) /\
 q11 /\
 ((True /\ winI q16 q58 q57 /\ q1) /\ True) /\
 (∃ (x_3 : Nat), x_3 + (1 : Nat) <= q59 /\ q4 = (↑x_3 : Int) /\ Sp.moK (Sp.aC x.1 x_2) x_3 = ([] : List tI.den) /\ q63) /\
 ∀ (x_3 : Nat),
 let q65 : List Int := Sp.moK (Sp.aC x.1 x_2) x_3;
 let q66 : Bool := decide ((↑x_3 : Int) < q62);
 let q67 : List Int := (q60.getD (↑x_3 : Int).toNat q17).1 :: ([] : List tI.den);
 let q68 : Int := (↑x_3 : Int) + q16;
 let q69 : List (List Int) := q65 :: q6;
 x_3 + (1 : Nat) <= q59 -> aD tI (↑x_3 : Int) /\ aD tI.slice q65 /\ True -> q11 /\ (q66 = true -> ((inN (↑x_3 : Int) q61 /\ q1) /\ True /\ True) /\ (q9 /\ (↑(q65.length + q67.length) : Int) <= aN /\ True /\ True) /\ ((inK IntKind.i64 q68 /\ True /\ True) /\ True) /\ ∃ (y : Nat), y + (1 : Nat) <= q59 /\ q59 - y < q59 - x_3 /\ q68 = (↑y : Int) /\ q65 ++ q67 = Sp.moK (Sp.aC x.1 x_2) y /\ q63) /\ (q66 = false -> (q9 /\ (↑((Sp.moN x.1 x_2).length + q69.length) : Int) <= aN /\ True /\ q18 = q18 /\ True) /\ ((inK IntKind.i64 q64 /\ True /\ True) /\ True) /\ ∃ (y : Nat), y <= q0 /\ q0 - y < q0 - x_2 /\ q64 = (↑y : Int) /\ (q34, Sp.frmOf x.1, Sp.moN x.1 x_2 ++ q69, q26) = (q34, Sp.frmOf x.1, Sp.moN x.1 y, q26) /\ q36)) /\
 (q55 = false -> q5 /\ (q54, q12) = q20)))) := by kernel_rfl
theorem vc27 : (bV C27 (stpS C27) S27 L27 Try.f27) = (
let q0 : Nat := (3 : Nat);
let q1 : Prop := True /\ True /\ True;
let q2 : Prop := True /\ q1;
let q3 : Int := (0 : Int);
∀ (x : Sp.VSt × Unit), Sp.OkS x.1 -> aD (tLit.prod (tI.slice.prod ((Ty.arr q0 tMsg.slice).prod ((Ty.arr q0 tI).slice.prod ((Ty.arr q0 tI).prod (tI.slice.prod bO)))))) x.1 /\ True -> (q2 /\ True) /\ ((True /\ Sp.OkS x.1 /\ True /\ q2) /\ q1) /\ (q2 /\ q1) /\ (Sp.grA x.1, Sp.grE x.1 == q3, ()) = (Sp.grA x.1, decide (Sp.grE x.1 = q3), ())) := by kernel_rfl
end Go.User
