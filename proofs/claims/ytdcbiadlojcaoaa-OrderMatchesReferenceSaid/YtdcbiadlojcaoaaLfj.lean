/- The maker of codes: loops: what they should. -/
import Derived.Test.YtdcbiadlojcaoaaLfi
import Derived.BigQuiet
import Derived.WalkKit
import Derived.Lib.Walk
import Derived.Lib.SliceRun
import Derived.Laws.Rows
import Derived.Handy
set_option linter.unusedVariables false
set_option linter.unusedSimpArgs false
namespace Go.User
open Go.Proofs Go.Lf
set_option maxRecDepth 100000
theorem vc72 : (∀ q : Nat, funP (C72 q) (cN (C72 q)) S72 (L72 q) Try.f72) = (
let q0 : Prop := True /\ True /\ True;
let q1 : Nat := (5000 : Nat);
let q2 : Int := (5 : Int);
let q3 : Int := (0 : Int);
let q4 : Int := (3 : Int);
let q5 : Sp.Arr := (([] : List UInt8), q3, q3, q3, ());
let q6 : Int := (1 : Int);
let q7 : Nat := (0 : Nat);
let q8 : Prop := q7 = q7;
let q9 : Prop := True /\ q8 /\ ([] : List Step) = ([] : List Step);
let q10 : List Step := Step.snd :: Step.snd :: Step.fst :: ([] : List Step);
let q11 : Prop := True /\ q8 /\ q10 = q10;
let q12 : List Step := Step.snd :: Step.snd :: Step.fst :: Step.snd :: Step.snd :: Step.snd :: q10;
let q13 : Prop := True /\ q8 /\ q12 = q12;
let q14 : Prop := q9 /\ True;
let q15 : Prop := True /\ q0;
let q16 : Prop := q15 /\ True /\ True;
let q17 : Int := (17 : Int);
let q18 : Sp.Opd × Unit := ((q3, q3, q3, ()), ());
∀ (q : Nat) (x : Sp.Mk),
 let q19 : Int := (Sp.nxV x).tmod q2;
 let q20 : Bool := q19 == q4;
 let q21 : Prop := (true && bif q20 then true else false) = true -> True;
 let q22 : Prop := (True /\ True) /\ Sp.aG q1 (Sp.nxM x) /\ q0;
 let q23 : List Sp.Arr := x.2.2.1.2.2.2.2.2.1;
 let q24 : Nat := q23.length;
 let q25 : Prop := inN q3 q24;
 let q26 : Sp.Arr := q23.getD q3.toNat q5;
 let q27 : Int := q26.2.2.2.1;
 let q28 : Int := q27 - q6;
 let q29 : Prop := inK IntKind.i64 q28;
 let q30 : Prop := True /\ Sp.eN (Sp.nxM x) = Sp.eN (Sp.nxM x);
 let q31 : Prop := True /\ q23 = q23;
 let q32 : Prop := True /\ q27 = q27;
 let q33 : Int := IntKind.i32.wrap q28;
 let q34 : Prop := q9 /\ q9 /\ q11 /\ q13 /\ q31 /\ (True /\ q3 = q3) /\ (q25 /\ q26 = q26) /\ q32 /\ q32 /\ (q29 /\ q28 = q28) /\ (True /\ q33 = q33) /\ True;
 let q35 : Prop := Sp.aG q1 (Sp.nxM (Sp.nxM x));
 let q36 : Prop := q9 /\ q30 /\ True;
 let q37 : Sp.Mk := Sp.nxM (Sp.nxM (Sp.nxM x));
 let q38 : Prop := Sp.aG q1 q37 /\ Sp.has q37;
 let q39 : Sp.Opd := Sp.eY (Sp.nxM (Sp.nxM x));
 let q40 : Sp.Opd × Unit := (Sp.eN (Sp.nxM x), ());
 let q41 : Prop := inN q19 q24;
 let q42 : Sp.Arr := q23.getD q19.toNat q5;
 let q43 : Int := q42.2.2.2.1;
 let q44 : Int := q43 - q6;
 let q45 : Prop := inK IntKind.i64 q44;
 let q46 : Prop := True /\ q43 = q43;
 let q47 : Int := IntKind.i32.wrap q44;
 let q48 : Prop := q9 /\ q9 /\ q11 /\ q13 /\ q31 /\ (True /\ q19 = q19) /\ (q41 /\ q42 = q42) /\ q46 /\ q46 /\ (q45 /\ q44 = q44) /\ (True /\ q47 = q47) /\ True;
 ∀ (y : Bool × Unit),
 let q49 : Bool := bif q20 then !y.1 else false;
 let q50 : Int × Sp.Opd × Unit := (Sp.plN x y.1, Sp.plD x, ());
 Sp.aG (4900 : Nat) x /\ Sp.has x -> aB tMk x -> aB Ty.bool y.1 /\ True -> (q0 /\ True) /\ ((True /\ True) /\ Sp.aG q1 x /\ q2 ≠ q3 /\ True /\ True) /\ ((True /\ True /\ True /\ q21 /\ q21 /\ True /\ True) /\ True) /\ (q49 = true -> ((True /\ True) /\ True) /\ q22 /\ (True /\ True /\ True /\ True /\ True /\ True /\ True /\ True /\ True /\ q25 /\ True /\ True /\ q29 /\ True /\ True) /\ (q9 /\ q30 /\ q9 /\ q34) /\ (q35 /\ True /\ (q9 /\ q30 /\ q34) /\ (True /\ True /\ q36 /\ (True /\ True /\ q14 /\ (q38 /\ True /\ True /\ q16 /\ Sp.eB q37 (q4, q17, q3, Sp.eN (Sp.nxM x), q39, Sp.conO q33, q18) = Sp.plM x y.1 /\ (q3, q40) = q50) /\ True) /\ True /\ True) /\ q0) /\ q15) /\ (q49 = false -> q22 /\ (True /\ True /\ True /\ True /\ True /\ True /\ True /\ True /\ True /\ q41 /\ True /\ True /\ q45 /\ True /\ True) /\ (q9 /\ q30 /\ q9 /\ q48) /\ (q35 /\ True /\ (q9 /\ q30 /\ q48) /\ (True /\ True /\ q36 /\ (True /\ True /\ q14 /\ (q38 /\ True /\ True /\ q16 /\ Sp.eB q37 (q4, q17, q3, Sp.eN (Sp.nxM x), q39, Sp.conO q47, q18) = Sp.plM x y.1 /\ (q19, q40) = q50) /\ True) /\ True /\ True) /\ q0) /\ q15)) := by kernel_rfl
theorem vc67 : (∀ q : Nat, funP (C67 q) (cN (C67 q)) S67 (L67 q) Try.f67) = (
let q0 : Nat := (5000 : Nat);
let q1 : Int := (16 : Int);
let q2 : Int := (0 : Int);
let q3 : Prop := True /\ True /\ True;
let q4 : Prop := q3 /\ True;
let q5 : Int := (3 : Int);
let q6 : Int := (7 : Int);
let q7 : Int := (1 : Int);
let q8 : Int := (5 : Int);
let q9 : Sp.Opd := (q2, q2, q2, ());
let q10 : Sp.Opd × Unit := (q9, ());
let q11 : Sp.Opd × Sp.Opd × Unit := (q9, q10);
let q12 : Sp.Opd × Sp.Opd × Sp.Opd × Unit := (q9, q11);
let q13 : Prop := (([] : List Go.ResultVar)).toArray.toList = ([] : List Go.ResultVar) /\ Ty.unit = Ty.unit;
let q14 : Int := (20 : Int);
let q15 : Int := (10 : Int);
let q16 : Prop := True /\ q3;
let q17 : Int := (2 : Int);
let q18 : Int := (8 : Int);
let q19 : Int := (9 : Int);
let q20 : Int := (6 : Int);
let q21 : Prop := True /\ q16;
let q22 : Prop := True /\ q21;
let q23 : Nat := (0 : Nat);
let q24 : Prop := True /\ q23 = q23 /\ ([] : List Step) = ([] : List Step);
let q25 : Prop := q24 /\ True;
let q26 : Prop := q20 ≠ q2;
let q27 : List Int := q15 :: (22 : Int) :: (23 : Int) :: (17 : Int) :: (18 : Int) :: (19 : Int) :: ([] : List tI.den);
let q28 : Nat := (100 : Nat);
∀ (q : Nat) (x : Sp.Mk),
 let q29 : Int := (Sp.nxV x).tmod q1;
 let q30 : Bool := decide (q29 < q5);
 let q31 : Prop := Sp.aG q0 (Sp.nxM x);
 let q32 : Int := q7 + (Sp.nxV (Sp.nxM x)).tmod q6;
 let q33 : Prop := Sp.aG q0 (Sp.nxM (Sp.nxM x));
 let q34 : Sp.Mk := Sp.nxM (Sp.nxM (Sp.nxM x));
 let q35 : Prop := Sp.aG q0 q34;
 let q36 : Prop := True /\ q33 /\ True /\ (q35 /\ Sp.has q34) /\ True;
 let q37 : Sp.Opd := Sp.eN (Sp.nxM (Sp.nxM x));
 let q38 : Sp.Opd × Sp.Opd × Sp.Opd × Sp.Opd × Unit := (q37, q12);
 let q39 : Bool := decide (q29 < q6);
 let q40 : Int := q15 + (Sp.nxV (Sp.nxM x)).tmod q14;
 let q41 : Sp.Mk := Sp.nxM q34;
 let q42 : Prop := Sp.aG q0 q41;
 let q43 : Sp.Mk := Sp.nxM q41;
 let q44 : Prop := q33 /\ True /\ q35 /\ True /\ q42 /\ True /\ (Sp.aG q0 q43 /\ Sp.has q43) /\ True;
 let q45 : Sp.Opd := Sp.eY q34;
 let q46 : Sp.Opd := Sp.eY q41;
 let q47 : Bool := q29 == q6;
 let q48 : Int := q7 + (Sp.nxV (Sp.nxM x)).tmod q8;
 let q49 : Bool := q29 == q18;
 let q50 : Sp.Opd := Sp.eY (Sp.nxM (Sp.nxM x));
 let q51 : Bool := q29 == q19;
 let q52 : Bool := q29 == q15;
 let q53 : Bool := q29 == (11 : Int);
 let q54 : Int := q7 + (Sp.nxV (Sp.nxM x)).tmod q17;
 let q55 : Bool := q29 == (12 : Int);
 let q56 : Prop := (True /\ True) /\ (Sp.aG (4900 : Nat) (Sp.nxM x) /\ Sp.has (Sp.nxM x)) /\ True /\ q22;
 let q57 : Int := Sp.plN (Sp.nxM x) false;
 let q58 : Prop := True /\ q57 = q57;
 let q59 : Prop := True /\ Sp.plD (Sp.nxM x) = Sp.plD (Sp.nxM x);
 let q60 : Prop := q24 /\ q24 /\ q58 /\ q59 /\ q25;
 let q61 : Sp.Mk := Sp.plM (Sp.nxM x) false;
 let q62 : Prop := Sp.aG q0 q61;
 let q63 : Int := (Sp.nxV q61).tmod q20;
 let q64 : Prop := inN q63 q27.length;
 let q65 : Prop := q64 /\ True /\ True;
 let q66 : Prop := q26 /\ q63 = q63;
 let q67 : Nat := q63.toNat;
 let q68 : List Step := Step.idx q67 :: ([] : List Step);
 let q69 : Int := q27.getD q67 q2;
 let q70 : Prop := q66 /\ (q64 /\ q28 = q28 /\ q68 = q68) /\ (True /\ q69 = q69) /\ True;
 let q71 : Sp.Mk := Sp.nxM q61;
 let q72 : Prop := Sp.aG q0 q71;
 let q73 : Sp.Mk := Sp.nxM q71;
 let q74 : Prop := (q24 /\ q58 /\ q59 /\ q70) /\ (True /\ True /\ q25 /\ ((Sp.aG q0 q73 /\ Sp.has q73) /\ True /\ True /\ Sp.eB q73 (q19, q69, q57, q9, Sp.plD (Sp.nxM x), Sp.eY q71, q10) = Sp.bV x /\ q13) /\ True) /\ True /\ True;
 let q75 : Prop := (q24 /\ q58 /\ q59 /\ q24 /\ q70) /\ (q72 /\ True /\ q74) /\ q3;
 let q76 : Prop := q66 /\ True;
 let q77 : Bool := q29 == (13 : Int);
 let q78 : Int := Sp.plN (Sp.nxM x) true;
 let q79 : Prop := True /\ q78 = q78;
 let q80 : Prop := True /\ Sp.plD (Sp.nxM x) = Sp.plD (Sp.nxM x);
 let q81 : Prop := q80 /\ True;
 let q82 : Sp.Mk := Sp.plM (Sp.nxM x) true;
 let q83 : Prop := Sp.aG q0 q82;
 let q84 : Prop := q24 /\ q79 /\ q81;
 let q85 : Sp.Mk := Sp.nxM q82;
 let q86 : Prop := Sp.aG q0 q85 /\ Sp.has q85;
 ∀ (y : Unit), Sp.aG (4800 : Nat) x /\ Sp.has x -> aB tMk x -> True -> ((True /\ True) /\ Sp.aG q0 x /\ q1 ≠ q2 /\ True /\ True) /\ q4 /\ (q30 = true -> (q3 /\ q31 /\ q6 ≠ q2 /\ inK IntKind.i64 q32 /\ q36) /\ Sp.eB q34 (q8, q32, q2, q38) = Sp.bV x /\ q13) /\ (q30 = false -> q4 /\ (q39 = true -> ((True /\ True) /\ q31 /\ q14 ≠ q2 /\ inK IntKind.i64 q40 /\ True /\ True) /\ (q16 /\ q44) /\ Sp.eB q43 (q5, q40, q2, q37, q45, q46, q10) = Sp.bV x /\ q13) /\ (q39 = false -> q4 /\ (q47 = true -> (q3 /\ q31 /\ q8 ≠ q2 /\ inK IntKind.i64 q48 /\ True /\ q33 /\ True /\ q35 /\ True /\ (q42 /\ Sp.has q41) /\ True) /\ Sp.eB q41 (q17, q48, q2, q37, q45, q11) = Sp.bV x /\ q13) /\ (q47 = false -> q4 /\ (q49 = true -> (q3 /\ q31 /\ True /\ q44) /\ Sp.eB q43 ((4 : Int), q2, q2, Sp.eN (Sp.nxM x), q50, q45, q46, ()) = Sp.bV x /\ q13) /\ (q49 = false -> q4 /\ (q51 = true -> (q3 /\ q31 /\ q36) /\ Sp.eB q34 (q7, q2, q2, Sp.eN (Sp.nxM x), q50, q11) = Sp.bV x /\ q13) /\ (q51 = false -> q4 /\ (q52 = true -> (q3 /\ q31 /\ q5 ≠ q2 /\ q36) /\ Sp.eB q34 (q20, q2, (Sp.nxV (Sp.nxM x)).tmod q5, q38) = Sp.bV x /\ q13) /\ (q52 = false -> q4 /\ (q53 = true -> (q3 /\ q31 /\ q17 ≠ q2 /\ inK IntKind.i64 q54 /\ True /\ (q33 /\ Sp.has (Sp.nxM (Sp.nxM x))) /\ True) /\ Sp.eB (Sp.nxM (Sp.nxM x)) (q15, q54, q2, q9, q12) = Sp.bV x /\ q13) /\ (q53 = false -> q4 /\ (q55 = true -> q56 /\ q22 /\ q60 /\ (True /\ True /\ q60 /\ (q62 /\ (q26 /\ q65) /\ q75) /\ q16) /\ (q62 /\ (q26 /\ True) /\ (q24 /\ q58 /\ q59 /\ q24 /\ q76) /\ (True /\ q65 /\ q75) /\ (q72 /\ True /\ (q24 /\ q58 /\ q59 /\ q76) /\ (True /\ q65 /\ q74) /\ q3) /\ q3) /\ q16) /\ (q55 = false -> q56 /\ q4 /\ (q77 = true -> q21 /\ (q24 /\ q79 /\ q24 /\ q81) /\ (q83 /\ True /\ q84 /\ (True /\ True /\ q25 /\ (q86 /\ True /\ True /\ Sp.eB q85 (q6, q2, q78, Sp.eN q82, Sp.plD (Sp.nxM x), q11) = Sp.bV x /\ q13) /\ True) /\ True /\ True) /\ q3) /\ (q77 = false -> q21 /\ (q24 /\ q79 /\ q80 /\ q25) /\ (q83 /\ True /\ q84 /\ (True /\ True /\ q25 /\ (q86 /\ True /\ True /\ Sp.eB q85 (q18, q2, q78, q9, Sp.plD (Sp.nxM x), Sp.eY q82, q10) = Sp.bV x /\ q13) /\ True) /\ True /\ True) /\ q3)))))))))) := by kernel_rfl
theorem vc52 : (∀ q : Nat, funP (C52 q) (cN (C52 q)) S52 (L52 q) Try.f52) = (
let q0 : Int := (5 : Int);
let q1 : Int := (0 : Int);
let q2 : Int := (1 : Int);
∀ (q : Nat) (x : Sp.Mk) (y : Unit),
 Sp.aG (4500 : Nat) x /\ Sp.has x ->
 aB tMk x ->
 True ->
 ((True /\ True) /\ Sp.aG (5000 : Nat) x /\ q0 ≠ q1 /\ True /\ True) /\
 (∃ (x_1 : Nat × Sp.Mk), (x_1.1 <= (4 : Nat) /\ Sp.aG ((4700 : Nat) - (10 : Nat) * x_1.1) x_1.2 /\ Sp.has x_1.2 /\ Sp.instN x_1.1 x_1.2 = Sp.insM x) /\ Sp.nxM x = x_1.2 /\ (Sp.nxV x).tmod q0 = (↑x_1.1 : Int) /\ True) /\
 ∀ (x_1 : Nat × Sp.Mk),
 let q3 : Int := (↑x_1.1 : Int);
 let q4 : Bool := decide (q3 > q1);
 let q5 : Int := q3 - q2;
 x_1.1 <= (4 : Nat) /\ Sp.aG ((4700 : Nat) - (10 : Nat) * x_1.1) x_1.2 /\ Sp.has x_1.2 /\ Sp.instN x_1.1 x_1.2 = Sp.insM x -> aB tMk x_1.2 /\ aB tI q3 /\ True -> ((True /\ True /\ True) /\ True) /\ (q4 = true -> ((True /\ True) /\ (Sp.aG (4800 : Nat) x_1.2 /\ Sp.has x_1.2) /\ True) /\ ((True /\ inK IntKind.i64 q5 /\ True /\ True) /\ True) /\ ∃ (y : Nat × Sp.Mk), (y.1 <= (4 : Nat) /\ Sp.aG ((4700 : Nat) - (10 : Nat) * y.1) y.2 /\ Sp.has y.2 /\ Sp.instN y.1 y.2 = Sp.insM x) /\ y.1 < x_1.1 /\ Sp.bV x_1.2 = y.2 /\ q5 = (↑y.1 : Int) /\ True) /\ (q4 = false -> x_1.2 = Sp.insM x /\ (([] : List Go.ResultVar)).toArray.toList = ([] : List Go.ResultVar) /\ Ty.unit = Ty.unit)) := by kernel_rfl
end Go.User
namespace Sp
theorem eO {a k : Int} (h0 : 0 <= a) (hk : 0 < k) : 0 <= a.tmod k /\ a.tmod k < k := by
 rw [Int.tmod_eq_emod_of_nonneg h0]
 exact ⟨Int.emod_nonneg _ (by omega), Int.emod_lt_of_pos _ hk⟩
theorem aG.pl {n : Nat} {s : Mk} (h : aG n s) (p : Bool) : aG (n + 4) (plM s p) := h.nx.nx.nx.put _
theorem aG.inst {n : Nat} {s : Mk} (h : aG n s) : aG (n + 10) (bV s) := by
 unfold bV instF
 have h1 := h.nx
 split
 ·exact (h1.nx.nx.put _).mono (by omega)
 split
 ·exact (h1.nx.nx.nx.nx.put _).mono (by omega)
 split
 ·exact (h1.nx.nx.nx.put _).mono (by omega)
 split
 ·exact (h1.nx.nx.nx.nx.put _).mono (by omega)
 split
 ·exact (h1.nx.nx.put _).mono (by omega)
 split
 ·exact (h1.nx.nx.put _).mono (by omega)
 split
 ·exact (h1.nx.put _).mono (by omega)
 split
 ·exact ((h1.pl false).nx.nx.put _).mono (by omega)
 split
 ·exact ((h1.pl true).nx.put _).mono (by omega)
 ·exact ((h1.pl true).nx.put _).mono (by omega)
theorem has.inst {s : Mk} (h : has s) : has (bV s) := by
 unfold bV instF
 have hp : ∀ p, has (plM (nxM s) p) := fun p => has.put (s := nxM (nxM (nxM (nxM s)))) h _
 split
 ·exact has.put (s := nxM (nxM (nxM s))) h _
 split
 ·exact has.put (s := nxM (nxM (nxM (nxM (nxM s))))) h _
 split
 ·exact has.put (s := nxM (nxM (nxM (nxM s)))) h _
 split
 ·exact has.put (s := nxM (nxM (nxM (nxM (nxM s))))) h _
 split
 ·exact has.put (s := nxM (nxM (nxM s))) h _
 split
 ·exact has.put (s := nxM (nxM (nxM s))) h _
 split
 ·exact has.put (s := nxM (nxM s)) h _
 split
 ·exact has.put (s := nxM (nxM (plM (nxM s) false))) (hp false) _
 split
 ·exact has.put (s := nxM (plM (nxM s) true)) (hp true) _
 ·exact has.put (s := nxM (plM (nxM s) true)) (hp true) _
end Sp
namespace Go.User
open Go.Lf Go.Proofs
theorem inK_ct (s : Sp.Mk) (hb : ∀ v ∈ s.1, 0 <= v /\ v <= 255) (c k : Int) (hc : 0 <= c /\ c <= 1000) (hk : 0 < k /\ k <= 1000) : inK .i64 (c + (Sp.nxV s).tmod k) := by
 have := Sp.eO (Sp.fM s hb).1 hk.1
 exact aS (by omega) (by omega)
theorem inN_t (s : Sp.Mk) (hb : ∀ v ∈ s.1, 0 <= v /\ v <= 255) (k : Nat) (hk : 0 < k) : inN ((Sp.nxV s).tmod k) k := by
 have := Sp.eO (Sp.fM s hb).1 (k := k) (by omega)
 exact ⟨this.1, this.2⟩
theorem arr_len {s : Sp.Mk} {n : Nat} (h : Sp.aG n s) : s.2.2.1.2.2.2.2.2.1 = Sp.arrs := h.arr
theorem arrs_len (n : Int) : inK .i64 ((Sp.arrs.getD n.toNat ([], 0, 0, 0, ())).2.2.2.1 - 1) := by
 have : ∀ k : Nat, 0 <= (Sp.arrs.getD k ([], 0, 0, 0, ())).2.2.2.1 /\ (Sp.arrs.getD k ([], 0, 0, 0, ())).2.2.2.1 <= 8 := by
  intro k
  match k with
  | 0 => decide
  | 1 => decide
  | 2 => decide
  | 3 => decide
  | 4 => decide
  | k + 5 => exact ⟨Int.le_refl _, by show (0 : Int) <= 8; decide⟩
 have := this n.toNat
 exact aS (by omega) (by omega)
theorem pk72 : POk Try.prog 72 S72 := by
 have hC : ∀ q, aF Try.prog (C72 q) := fun q => okM' q (aE ok55 aO) (b9 pk45 (b9 pk50 (b9 pk51 (b9 pk66 eI)))) rfl rfl rfl rfl rfl rfl
 refine POk.intro hC (fun q => aR (hC q)) Try.call72 Try.func72 (fun q => rfl) (by kernel_rfl) L72 ?_
 rw [vc72]
 simp only [zz, zy]
 intro x y hM hx hy
 have hb := dM hx.1
 have ha := arr_len hM.1
 have k0 : Sp.aG 5000 x := hM.1.mono (by decide)
 have k1 : Sp.aG 5000 (Sp.nxM x) := hM.1.nx.mono (by decide)
 have k2 : Sp.aG 5000 (Sp.nxM (Sp.nxM x)) := hM.1.nx.nx.mono (by decide)
 have k3 : Sp.aG 5000 (Sp.nxM (Sp.nxM (Sp.nxM x))) := hM.1.nx.nx.nx.mono (by decide)
 have hh : Sp.has (Sp.nxM (Sp.nxM (Sp.nxM x))) := hM.2
 simp only [ha]
 have i0 : inN 0 Sp.arrs.length := ⟨by decide, by decide⟩
 have i1 : inN ((Sp.nxV x).tmod 5) Sp.arrs.length := inN_t x hb 5 (by decide)
 refine ⟨⟨k0, by decide⟩, fun h => ?_, fun h => ?_⟩
 ·have e : Sp.plN x y.1 = 0 := by unfold Sp.plN; rw [if_pos h]
  have E : ∀ A, A = Sp.eB (Sp.nxM (Sp.nxM (Sp.nxM x))) (Sp.i3 3 17 0 (Sp.eN (Sp.nxM x)) (Sp.eY (Sp.nxM (Sp.nxM x))) (Sp.conO (IntKind.wrap .i32 ((Sp.arrs.getD (Int.toNat 0) ([], 0, 0, 0, ())).2.2.2.1 - 1)))) -> A = Sp.plM x y.1 := by
   rintro A rfl
   unfold Sp.plM Sp.plI;rw [e]; rfl
  have E2 : ((0 : Int), Sp.eN (Sp.nxM x), ()) = (Sp.plN x y.1, Sp.plD x, ()) := by rw [e]; rfl
  repeat' first | assumption | exact arrs_len _ | exact E _ rfl | constructor
 ·have e : Sp.plN x y.1 = (Sp.nxV x).tmod 5 := by
   unfold Sp.plN;rw [if_neg];rintro ⟨h1, h2⟩;rw [h1, h2] at h; cases h
  have E : ∀ A, A = Sp.eB (Sp.nxM (Sp.nxM (Sp.nxM x))) (Sp.i3 3 17 0 (Sp.eN (Sp.nxM x)) (Sp.eY (Sp.nxM (Sp.nxM x))) (Sp.conO (IntKind.wrap .i32 ((Sp.arrs.getD ((Sp.nxV x).tmod 5).toNat ([], 0, 0, 0, ())).2.2.2.1 - 1)))) -> A = Sp.plM x y.1 := by
   rintro A rfl
   unfold Sp.plM Sp.plI;rw [e]; rfl
  have E2 : ((Sp.nxV x).tmod 5, Sp.eN (Sp.nxM x), ()) = (Sp.plN x y.1, Sp.plD x, ()) := by rw [e]; rfl
  repeat' first | assumption | exact arrs_len _ | exact E _ rfl | constructor
theorem pk67 : POk Try.prog 67 S67 := by
 have hC : ∀ q, aF Try.prog (C67 q) := fun q => okM' q aO (b9 pk45 (b9 pk50 (b9 pk51 (b9 pk66 (b9 pk72 eI))))) rfl rfl rfl rfl rfl rfl
 refine POk.intro hC (fun q => aR (hC q)) Try.call67 Try.func67 (fun q => rfl) (by kernel_rfl) L67 ?_
 rw [vc67]
 simp only [zz, zy]
 intro x hM hx
 have hb := dM hx.1
 obtain ⟨hM, hh⟩ := hM
 have k0 : Sp.aG 5000 x := hM.mono (by decide)
 have m1 := hM.nx
 have k1 : Sp.aG 5000 (Sp.nxM x) := m1.mono (by decide)
 have k1' : Sp.aG 4900 (Sp.nxM x) := m1.mono (by decide)
 have k2 : Sp.aG 5000 (Sp.nxM (Sp.nxM x)) := m1.nx.mono (by decide)
 have k3 : Sp.aG 5000 (Sp.nxM (Sp.nxM (Sp.nxM x))) := m1.nx.nx.mono (by decide)
 have k4 : Sp.aG 5000 (Sp.nxM (Sp.nxM (Sp.nxM (Sp.nxM x)))) := m1.nx.nx.nx.mono (by decide)
 have k5 : Sp.aG 5000 (Sp.nxM (Sp.nxM (Sp.nxM (Sp.nxM (Sp.nxM x))))) := m1.nx.nx.nx.nx.mono (by decide)
 have p0 : ∀ p, Sp.aG 5000 (Sp.plM (Sp.nxM x) p) := fun p => (m1.pl p).mono (by decide)
 have p1 : ∀ p, Sp.aG 5000 (Sp.nxM (Sp.plM (Sp.nxM x) p)) := fun p => (m1.pl p).nx.mono (by decide)
 have p2 : ∀ p, Sp.aG 5000 (Sp.nxM (Sp.nxM (Sp.plM (Sp.nxM x) p))) := fun p => (m1.pl p).nx.nx.mono (by decide)
 have hp : ∀ p, Sp.has (Sp.plM (Sp.nxM x) p) := fun p => Sp.has.put (s := Sp.nxM (Sp.nxM (Sp.nxM (Sp.nxM x)))) hh _
 have hp1 : ∀ p, Sp.has (Sp.nxM (Sp.plM (Sp.nxM x) p)) := hp
 have hp2 : ∀ p, Sp.has (Sp.nxM (Sp.nxM (Sp.plM (Sp.nxM x) p))) := hp
 have h1 : Sp.has (Sp.nxM x) := hh
 have h2 : Sp.has (Sp.nxM (Sp.nxM x)) := hh
 have h3 : Sp.has (Sp.nxM (Sp.nxM (Sp.nxM x))) := hh
 have h4 : Sp.has (Sp.nxM (Sp.nxM (Sp.nxM (Sp.nxM x)))) := hh
 have h5 : Sp.has (Sp.nxM (Sp.nxM (Sp.nxM (Sp.nxM (Sp.nxM x))))) := hh
 have b1 : ∀ v ∈ (Sp.nxM x).1, 0 <= v /\ v <= 255 := hb
 have b2 : ∀ v ∈ (Sp.plM (Sp.nxM x) false).1, 0 <= v /\ v <= 255 := hb
 have c7 := inK_ct (Sp.nxM x) b1 1 7 (by decide) (by decide)
 have c20 := inK_ct (Sp.nxM x) b1 10 20 (by decide) (by decide)
 have c5 := inK_ct (Sp.nxM x) b1 1 5 (by decide) (by decide)
 have c2 := inK_ct (Sp.nxM x) b1 1 2 (by decide) (by decide)
 have n6 : inN ((Sp.nxV (Sp.plM (Sp.nxM x) false)).tmod 6) 6 := inN_t _ b2 6 (by decide)
 refine ⟨⟨k0, by decide⟩, fun g3 => ?_, fun g3 => ⟨fun g7 => ?_, fun g7 => ⟨fun e7 => ?_, fun e7 => ⟨fun e8 => ?_, fun e8 => ⟨fun e9 => ?_, fun e9 => ⟨fun e10 => ?_, fun e10 => ⟨fun e11 => ?_, fun e11 => ⟨fun e12 => ?_, fun e12 => ⟨⟨k1', h1⟩, fun e13 => ?_, fun e13 => ?_⟩⟩⟩⟩⟩⟩⟩⟩⟩
 ·have e : Sp.bV x = Sp.in0 (Sp.nxM x) := by unfold Sp.bV Sp.instF Sp.inK; rw [if_pos g3]
  have E : ∀ A, A = Sp.in0 (Sp.nxM x) -> A = Sp.bV x := fun A h => h.trans e.symm
  clear e
  repeat' first | assumption | exact hp1 _ | exact hp2 _ | exact p0 _ | exact p1 _ | exact p2 _ | decide | exact E _ rfl | constructor
 ·have e : Sp.bV x = Sp.in3 (Sp.nxM x) := by unfold Sp.bV Sp.instF Sp.inK; rw [if_neg (Int.not_lt.mpr g3), if_pos g7]
  have E : ∀ A, A = Sp.in3 (Sp.nxM x) -> A = Sp.bV x := fun A h => h.trans e.symm
  clear e
  repeat' first | assumption | exact hp1 _ | exact hp2 _ | exact p0 _ | exact p1 _ | exact p2 _ | decide | exact E _ rfl | constructor
 ·have e : Sp.bV x = Sp.in7 (Sp.nxM x) := by unfold Sp.bV Sp.instF Sp.inK; rw [if_neg (Int.not_lt.mpr g3), if_neg (Int.not_lt.mpr g7), if_pos e7]
  have E : ∀ A, A = Sp.in7 (Sp.nxM x) -> A = Sp.bV x := fun A h => h.trans e.symm
  clear e
  repeat' first | assumption | exact hp1 _ | exact hp2 _ | exact p0 _ | exact p1 _ | exact p2 _ | decide | exact E _ rfl | constructor
 ·have e : Sp.bV x = Sp.in8 (Sp.nxM x) := by unfold Sp.bV Sp.instF Sp.inK; rw [if_neg (Int.not_lt.mpr g3), if_neg (Int.not_lt.mpr g7), if_neg e7, if_pos e8]
  have E : ∀ A, A = Sp.in8 (Sp.nxM x) -> A = Sp.bV x := fun A h => h.trans e.symm
  clear e
  repeat' first | assumption | exact hp1 _ | exact hp2 _ | exact p0 _ | exact p1 _ | exact p2 _ | decide | exact E _ rfl | constructor
 ·have e : Sp.bV x = Sp.in9 (Sp.nxM x) := by unfold Sp.bV Sp.instF Sp.inK; rw [if_neg (Int.not_lt.mpr g3), if_neg (Int.not_lt.mpr g7), if_neg e7, if_neg e8, if_pos e9]
  have E : ∀ A, A = Sp.in9 (Sp.nxM x) -> A = Sp.bV x := fun A h => h.trans e.symm
  clear e
  repeat' first | assumption | exact hp1 _ | exact hp2 _ | exact p0 _ | exact p1 _ | exact p2 _ | decide | exact E _ rfl | constructor
 ·have e : Sp.bV x = Sp.in10 (Sp.nxM x) := by unfold Sp.bV Sp.instF Sp.inK; rw [if_neg (Int.not_lt.mpr g3), if_neg (Int.not_lt.mpr g7), if_neg e7, if_neg e8, if_neg e9, if_pos e10]
  have E : ∀ A, A = Sp.in10 (Sp.nxM x) -> A = Sp.bV x := fun A h => h.trans e.symm
  clear e
  repeat' first | assumption | exact hp1 _ | exact hp2 _ | exact p0 _ | exact p1 _ | exact p2 _ | decide | exact E _ rfl | constructor
 ·have e : Sp.bV x = Sp.in11 (Sp.nxM x) := by unfold Sp.bV Sp.instF Sp.inK; rw [if_neg (Int.not_lt.mpr g3), if_neg (Int.not_lt.mpr g7), if_neg e7, if_neg e8, if_neg e9, if_neg e10, if_pos e11]
  have E : ∀ A, A = Sp.in11 (Sp.nxM x) -> A = Sp.bV x := fun A h => h.trans e.symm
  clear e
  repeat' first | assumption | exact hp1 _ | exact hp2 _ | exact p0 _ | exact p1 _ | exact p2 _ | decide | exact E _ rfl | constructor
 ·have e : Sp.bV x = Sp.in12 (Sp.nxM x) := by unfold Sp.bV Sp.instF Sp.inK; rw [if_neg (Int.not_lt.mpr g3), if_neg (Int.not_lt.mpr g7), if_neg e7, if_neg e8, if_neg e9, if_neg e10, if_neg e11, if_pos e12]
  have E : ∀ A, A = Sp.in12 (Sp.nxM x) -> A = Sp.bV x := fun A h => h.trans e.symm
  clear e
  repeat' first | assumption | exact hp1 _ | exact hp2 _ | exact p0 _ | exact p1 _ | exact p2 _ | decide | exact E _ rfl | constructor
 ·have e : Sp.bV x = Sp.in13 (Sp.nxM x) := by unfold Sp.bV Sp.instF Sp.inK; rw [if_neg (Int.not_lt.mpr g3), if_neg (Int.not_lt.mpr g7), if_neg e7, if_neg e8, if_neg e9, if_neg e10, if_neg e11, if_neg e12, if_pos e13]
  have E : ∀ A, A = Sp.in13 (Sp.nxM x) -> A = Sp.bV x := fun A h => h.trans e.symm
  clear e
  repeat' first | assumption | exact hp1 _ | exact hp2 _ | exact p0 _ | exact p1 _ | exact p2 _ | decide | exact E _ rfl | constructor
 ·have e : Sp.bV x = Sp.in14 (Sp.nxM x) := by unfold Sp.bV Sp.instF Sp.inK; rw [if_neg (Int.not_lt.mpr g3), if_neg (Int.not_lt.mpr g7), if_neg e7, if_neg e8, if_neg e9, if_neg e10, if_neg e11, if_neg e12, if_neg e13]
  have E : ∀ A, A = Sp.in14 (Sp.nxM x) -> A = Sp.bV x := fun A h => h.trans e.symm
  clear e
  repeat' first | assumption | exact hp1 _ | exact hp2 _ | exact p0 _ | exact p1 _ | exact p2 _ | decide | exact E _ rfl | constructor
theorem pk52 : POk Try.prog 52 S52 := by
 have hC : ∀ q, aF Try.prog (C52 q) := fun q => okM' q aO (b9 pk45 (b9 pk67 eI)) rfl rfl rfl rfl rfl rfl
 refine POk.intro hC (fun q => aR (hC q)) Try.call52 Try.func52 (fun q => rfl) (by kernel_rfl) L52 ?_
 rw [vc52]
 simp only [zz, zy]
 intro x hM hx
 have hb := dM hx.1
 obtain ⟨hM, hh⟩ := hM
 have hv := Sp.eO (Sp.fM x hb).1 (k := 5) (by decide)
 refine ⟨⟨hM.mono (by decide), by decide⟩, ⟨(((Sp.nxV x).tmod 5).toNat, Sp.nxM x), ⟨by show (Int.toNat _) <= 4; omega, hM.nx.mono (by show 4501 <= 4700 - 10 * (Int.toNat _); omega), hh, rfl⟩, rfl, by show _ = ((Int.toNat _ : Nat) : Int); omega⟩, ?_⟩
 rintro ⟨k, t⟩ ⟨h1, h2, h3, h4⟩ _
 have h1 : k <= 4 := h1
 have h2 : Sp.aG (4700 - 10 * k) t := h2
 have h3 : Sp.has t := h3
 have h4 : Sp.instN k t = Sp.insM x := h4
 refine ⟨fun h5 => ⟨⟨h2.mono (by omega), h3⟩, aS (by show _ <= (k : Int) - 1; omega) (by show (k : Int) - 1 <= _; omega), ⟨(k - 1, Sp.bV t), ⟨by show k - 1 <= 4; omega, h2.inst.mono (by show _ <= 4700 - 10 * (k - 1); have : (0 : Int) < k := h5; omega), h3.inst, ?_⟩, ?_, rfl, ?_⟩⟩, fun h5 => ?_⟩
 ·have : (0 : Int) < k := h5
  obtain ⟨m, rfl⟩ : ∃ m, k = m + 1 := ⟨k - 1, by omega⟩
  exact h4
 ·have : (0 : Int) < k := h5
  show k - 1 < k
  omega
 ·have : (0 : Int) < k := h5
  show (k : Int) - 1 = ((k - 1 : Nat) : Int)
  omega
 ·have : (k : Int) <= 0 := h5
  have : k = 0 := by omega
  subst this;exact h4
end Go.User
namespace Go.User
open Go Go.Proofs Go.RowKit Go.Lib Go.Lf
theorem drewN2 (w : World) (a b : Nat) : (w.drewN a).drewN b = w.drewN (a + b) := by
 simp [World.drewN, Nat.add_assoc]
set_option maxHeartbeats 1000000 in
set_option maxRecDepth 100000 in
theorem nx_walk0 (w w1 : World) (b n cap : Nat) (at0 : Int) (lp : Option Addr) (h0 : 0 <= at0) (h1 : at0 <= 5000)
  (c1 : w.cell? ⟨b, 1, none⟩ = some (.int .i64 at0)) (hf : w.frozen? ⟨b, 1, none⟩ = false)
  (hw : w.setCell ⟨b, 1, none⟩ (.int .i64 (at0 + 1)) = w1) (d0 : w1.cell? ⟨b, 0, none⟩ = some (.slice lp n cap)) (d1 : w1.cell? ⟨b, 1, none⟩ = some (.int .i64 (at0 + 1)))
  (hlt : (n : Int) < at0 + 1) : Calls Try.prog 45 #[.pointer (some ⟨b, 0, none⟩)] w fun e w' => e = .returned (.int .i64 0) /\ ∃ k, w' = w1.drewN k := by
 have hk : IntKind.wrap .i64 (at0 + 1) = at0 + 1 := cP (aS (by omega) (by omega))
 go_enter Try.func45, Try.ntmps45
 go_wp2
 go_quiet (fail)
 go_wp2
 go_ret
 exact ⟨rfl, _, rfl⟩
set_option maxHeartbeats 1000000 in
set_option maxRecDepth 100000 in
theorem nx_walk1 (w w1 : World) (b n cap c o v : Nat) (at0 : Int) (h0 : 0 <= at0) (h1 : at0 <= 5000) (hn : n <= 9223372036854775807)
  (c1 : w.cell? ⟨b, 1, none⟩ = some (.int .i64 at0)) (hf : w.frozen? ⟨b, 1, none⟩ = false)
  (hw : w.setCell ⟨b, 1, none⟩ (.int .i64 (at0 + 1)) = w1) (d0 : ∀ k, (w1.drewN k).cell? ⟨b, 0, none⟩ = some (.slice (some ⟨c, o, none⟩) n cap)) (d1 : ∀ k, (w1.drewN k).cell? ⟨b, 1, none⟩ = some (.int .i64 (at0 + 1)))
  (d0' : w1.cell? ⟨b, 0, none⟩ = some (.slice (some ⟨c, o, none⟩) n cap)) (d1' : w1.cell? ⟨b, 1, none⟩ = some (.int .i64 (at0 + 1)))
  (hv : v <= 255) (hlt : ¬ (n : Int) < at0 + 1) (he : ∀ k, (w1.drewN k).cell? ⟨c, o + at0.toNat, none⟩ = some (.int .u8 v)) :
  Calls Try.prog 45 #[.pointer (some ⟨b, 0, none⟩)] w fun e w' => e = .returned (.int .i64 v) /\ ∃ k, w' = w1.drewN k := by
 have hk : IntKind.wrap .i64 (at0 + 1) = at0 + 1 := cP (aS (by omega) (by omega))
 have hk2 : IntKind.wrap .i64 (at0 + 1 - 1) = at0 := by rw [Int.add_sub_cancel]; exact cP (aS (by omega) (by omega))
 go_enter Try.func45, Try.ntmps45
 go_wp2
 go_quiet (fail)
 go_wp2
 go_quiet (fail)
 go_wp2
 go_ret
 exact ⟨rfl, _, drewN2 _ _ _⟩
theorem eV {w : World} {b k : Nat} {row : Array Value} {T : TypeId} {v : Value} (h : w.heap[b]? = some (.cells row T (0, 0))) :
  (w.setCell ⟨b, k, none⟩ v).heap[b]? = some (.cells (row.setIfInBounds k v) T (0, 0)) := by
 simp [World.setCell, Array.getElem?_modify, h]
theorem dZ {w : World} {b c k : Nat} {v : Value} (h : c ≠ b) : (w.setCell ⟨b, k, none⟩ v).heap[c]? = w.heap[c]? := by
 simp [World.setCell, Array.getElem?_modify, Ne.symm h]
theorem cell_of {w : World} {b k : Nat} {row : Array Value} {T : TypeId} {fr : Nat × Nat} (h : w.heap[b]? = some (.cells row T fr)) : w.cell? ⟨b, k, none⟩ = row[k]? := by
 simp [World.cell?, h]
theorem store_int {w : World} {b k : Nat} {row : Array Value} {T : TypeId} {v0 : Value} {n : Int} (h : w.heap[b]? = some (.cells row T (0, 0))) (hk : row[k]? = some v0) :
  (storeVar 3 ⟨b, k, none⟩ (.int .i64 n)).run Try.prog w = .ok () (w.setCell ⟨b, k, none⟩ (.int .i64 n)) := by
 have hc : w.cell? ⟨b, k, none⟩ = some v0 := by rw [cell_of h, hk]
 have hf : w.frozen? ⟨b, k, none⟩ = false := by simp [World.frozen?, h]
 simp only [storeVar, sizeOf, Sem.run_bind, Sem.run_pure, Result.andThen]
 simp
 rw [if_pos (by rfl)]
 simp [storeCells, Value.cells, Sem.run_bind, Sem.run_pure, Result.andThen, hc, hf]
 rw [show (⟨b, k, none⟩ : Addr).add 0 = ⟨b, k, none⟩ from rfl]
 simp [store, Sem.run, hc, hf]
theorem nx_calls (w : World) (F : aA) (b cap : Nat) (ao : Option Addr) (row : Array Value) (T : TypeId) (L : List Int) (at0 : Int) (h0 : 0 <= at0) (h1 : at0 <= 5000) (hn : L.length <= lim) (hF : ¬ F b)
  (hrow : w.heap[b]? = some (.cells row T (0, 0))) (r0 : row[0]? = some (.slice ao L.length cap)) (r1 : row[1]? = some (.int .i64 at0)) (hL : ∀ v ∈ L, 0 <= v /\ v <= 255)
  (ho : L = [] ∨ ∃ (c o : Nat) (rc : Array Value) (Tc : TypeId) (fr : Nat × Nat), ao = some ⟨c, o, none⟩ /\ F c /\ w.heap[c]? = some (.cells rc Tc fr) /\ ∀ i v, L[i]? = some v -> rc[o + i]? = some (.int .u8 v)) (C : Sp.Code) :
  Calls Try.prog 45 #[.pointer (some ⟨b, 0, none⟩)] w fun e w' => e = .returned (.int .i64 (Sp.nxV (L, at0, C, ()))) /\ ∃ k, w' = (w.setCell ⟨b, 1, none⟩ (.int .i64 (at0 + 1))).drewN k := by
 have hlt : 1 < row.size := by
  rcases Nat.lt_or_ge 1 row.size with h | h
  ·exact h
  ·rw [Array.getElem?_eq_none h] at r1; cases r1
 have c1 : w.cell? ⟨b, 1, none⟩ = some (.int .i64 at0) := by rw [cell_of hrow, r1]
 have hf : w.frozen? ⟨b, 1, none⟩ = false := by simp [World.frozen?, hrow]
 have hrow1 := eV (k := 1) (v := .int .i64 (at0 + 1)) hrow
 have d0 : (w.setCell ⟨b, 1, none⟩ (.int .i64 (at0 + 1))).cell? ⟨b, 0, none⟩ = some (.slice ao L.length cap) := by
  rw [cell_of hrow1, Array.getElem?_setIfInBounds, if_neg (by omega), r0]
 have d1 : (w.setCell ⟨b, 1, none⟩ (.int .i64 (at0 + 1))).cell? ⟨b, 1, none⟩ = some (.int .i64 (at0 + 1)) := by
  rw [cell_of hrow1, Array.getElem?_setIfInBounds, if_pos rfl, if_pos hlt]
 by_cases hc : (L.length : Int) < at0 + 1
 ·have e : Sp.nxV (L, at0, C, ()) = 0 := by unfold Sp.nxV; rw [if_pos hc]
  rw [e];exact nx_walk0 w _ b L.length cap at0 ao h0 h1 c1 hf rfl d0 d1 hc
 ·have hi : at0.toNat < L.length := by omega
  rcases ho with rfl | ⟨c, o, rc, Tc, fr, rfl, hFc, hrc, hel⟩
  ·simp at hi
  have hb := hL (L[at0.toNat]) (List.getElem_mem hi)
  have he := hel at0.toNat _ (List.getElem?_eq_getElem hi)
  have e : Sp.nxV (L, at0, C, ()) = L[at0.toNat] := by
   unfold Sp.nxV;rw [if_neg hc];show L.getD at0.toNat 0 = _;rw [List.getD_eq_getElem?_getD, List.getElem?_eq_getElem hi]; rfl
  rw [e];obtain ⟨v, hv⟩ := Int.eq_ofNat_of_zero_le hb.1;rw [hv] at he hb ⊢;have hcb : c ≠ b := fun e => hF (e ▸ hFc)
  have hcell : (w.setCell ⟨b, 1, none⟩ (.int .i64 (at0 + 1))).cell? ⟨c, o + at0.toNat, none⟩ = some (.int .u8 v) := by
   rw [cell_of ((dZ hcb).trans hrc), he]
  rw [lim_eq] at hn;obtain ⟨w1, hw1⟩ : ∃ w1, w1 = w.setCell ⟨b, 1, none⟩ (.int .i64 (at0 + 1)) := ⟨_, rfl⟩;rw [<- hw1] at d0 d1 hcell ⊢;exact nx_walk1 w w1 b L.length cap c o v at0 h0 h1 (by omega) c1 hf hw1.symm (fun _ => d0) (fun _ => d1) d0 d1 (by omega) hc (fun _ => hcell)
def N45 : NSpec := { τ := tMk, m := mMk, T := 3, p := [.snd, .fst], res := tI, pre := fun s => Sp.aG 5000 s, num := fun s => s.2.1 + 1, out := fun s => Sp.nxV s }
theorem mk_cells {w : World} {F S0 : aA} {b off : Nat} {cs : List Value} {x : tMk.den} (hp : eU F S0 w (.mem b 0) tMk.size cs) (hown : Own F w tMk mMk S0 cs x) (hloc : loc w [.snd, .fst] tMk (.mem b 0) = some (.int .i64, .mem b off)) :
  off = 1 /\ ¬ F b /\ List.length x.1 <= lim /\ ∃ (ao : Option Addr) (cap : Nat) (row : Array Value) (T : TypeId), w.heap[b]? = some (.cells row T (0, 0)) /\ row[0]? = some (.slice ao (List.length x.1) cap) /\ row[1]? = some (.int .i64 x.2.1) /\
   (x.1 = [] ∨ ∃ (c o : Nat) (rc : Array Value) (Tc : TypeId) (fr : Nat × Nat), ao = some ⟨c, o, none⟩ /\ F c /\ w.heap[c]? = some (.cells rc Tc fr) /\ ∀ i v, x.1[i]? = some v -> rc[o + i]? = some (.int .u8 v)) := by
 obtain ⟨L, at0, C, u⟩ := x
 obtain ⟨c1, c2, S1, S2, rfl, _, _, _, hL, h2⟩ := hown
 obtain ⟨c3, c4, S3, S4, rfl, _, _, _, hAt, h4⟩ := h2
 obtain ⟨ao, cap, rfl, g1, g2, hsl⟩ := hL
 obtain ⟨rfl, a1, a2⟩ := hAt
 obtain ⟨nS, nF, row, T, hrow, hsz, hseg⟩ := hp
 have hget : ∀ k, k < 2 -> row[k]? = ([Value.slice ao (List.length L) cap] ++ ([.int .i64 at0] ++ c4))[k]? := by
  intro k hk;rw [<- hseg];simp only [seg, List.drop_zero];have h2m : 2 <= tMk.size := by decide
  rw [List.getElem?_take, if_pos (by omega)]
  simp
 refine ⟨?_, nF, g2, ao, cap, row, T, hrow, hget 0 (by decide), hget 1 (by decide), ?_⟩
 ·simp only [loc, aD.part, Option.some.injEq, Prod.mk.injEq, aD.mem.injEq] at hloc
  have := hloc.2.2
  simp [Ty.size] at this
  omega
 ·rcases hsl with h | ⟨c, o, rc, Tc, fr, q1, q2, q3, q4, q5⟩
  ·exact .inl h
  ·refine .inr ⟨c, o, rc, Tc, fr, q1, q2, q3, fun i v hv => ?_⟩
   obtain ⟨q6, _⟩ := q5 i v hv;have hs : seg rc.toList (o + i * Ty.size tU8) (Ty.size tU8) = [.int .u8 v] := q6;have h1 : Ty.size tU8 = 1 := rfl;rw [h1, Nat.mul_one] at hs;have : (seg rc.toList (o + i) 1)[0]? = some (.int .u8 v) := by rw [hs]; rfl
   simpa [seg] using this
theorem nk45 : NOk Try.prog 45 N45 := by
 refine ⟨Try.call45, ?_⟩
 intro w F S0 b off cs x hb hF hS0 hp hown hpre hloc
 obtain ⟨hoff, nF, hlim, ao, cap, row, T, hrow, r0, r1, hel⟩ := mk_cells hp hown hloc
 subst hoff
 have hbs := dM (hown.fact).1
 have hpre : Sp.aG 5000 x := hpre
 have h0 := hpre.at0
 have h1 := hpre.at1
 obtain ⟨L, at0, C, u⟩ := x
 have hk : ∀ z : Int, 0 <= z -> z <= 5000 -> inK .i64 (z + 1) := fun z _ _ => aS (by omega) (by omega)
 refine ⟨hk at0 h0 h1, (nx_calls w F b cap ao row T L at0 h0 h1 hlim nF hrow r0 r1 hbs hel C).mono ?_⟩
 rintro e w' ⟨rfl, k, rfl⟩
 refine ⟨_, _, store_int hrow r1, ⟨rfl, rfl, rfl, Nat.le_refl _, fun _ _ => rfl⟩, rfl, [_], rfl, rfl, ?_⟩
 have := Sp.fM (L, at0, C, ()) hbs
 have b1 : (-9223372036854775808 : Int) <= Sp.nxV (L, at0, C, ()) := by omega
 have b2 : Sp.nxV (L, at0, C, ()) <= 9223372036854775807 := by omega
 exact ⟨b1, b2⟩
end Go.User
namespace Go.User
open Go Go.Proofs Go.RowKit Go.Lib Go.Lf
set_option maxHeartbeats 1000000 in
set_option maxRecDepth 100000 in
theorem reg_calls (w : World) (n : Int) : Calls Try.prog 54 #[.int .i64 n] w fun e w' => e = .returned (.agg #[.int .i64 2, .int .i64 n, .int .i32 0]) /\ ∃ row T, w' = w.alloc (.cells row T) := by
 go_enter Try.func54, Try.ntmps54
 go_wp2

 go_returns

 exact ⟨rfl, _, _, rfl⟩
set_option maxHeartbeats 1000000 in
set_option maxRecDepth 100000 in
theorem con_calls (w : World) (n : Int) : Calls Try.prog 55 #[.int .i32 n] w fun e w' => e = .returned (.agg #[.int .i64 1, .int .i64 0, .int .i32 n]) /\ ∃ row T, w' = w.alloc (.cells row T) := by
 go_enter Try.func55, Try.ntmps55
 go_wp2
 go_returns
 exact ⟨rfl, _, _, rfl⟩
def After (w : World) (b : Nat) (n : Int) (g : Nat) (row : Array Value) (w' : World) : Prop :=
 RowKit.Below w.heap.size (w.setCell ⟨b, 1, none⟩ (.int .i64 n)) w' /\ w'.heap[g]? = some (.cells row 45 (0, 0))
theorem own3 {W : World} {g : Nat} {x y z : Value} (h : W.heap[g]? = some (.cells #[x, y, z] 45 (0, 0))) (a b c : Value) :
  W.cell? ⟨g, 0, none⟩ = some x /\ W.frozen? ⟨g, 0, none⟩ = false /\ (W.setCell ⟨g, 0, none⟩ a).cell? ⟨g, 1, none⟩ = some y /\ (W.setCell ⟨g, 0, none⟩ a).frozen? ⟨g, 1, none⟩ = false /\
   ((W.setCell ⟨g, 0, none⟩ a).setCell ⟨g, 1, none⟩ b).cell? ⟨g, 2, none⟩ = some z /\ ((W.setCell ⟨g, 0, none⟩ a).setCell ⟨g, 1, none⟩ b).frozen? ⟨g, 2, none⟩ = false /\
   (((W.setCell ⟨g, 0, none⟩ a).setCell ⟨g, 1, none⟩ b).setCell ⟨g, 2, none⟩ c).heap[g]? = some (.cells #[a, b, c] 45 (0, 0)) := by
 have h1 := eV (k := 0) (v := a) h
 have h2 := eV (k := 1) (v := b) h1
 have h3 := eV (k := 2) (v := c) h2
 exact ⟨by rw [cell_of h]; rfl, by simp [World.frozen?, h], by rw [cell_of h1]; rfl, by simp [World.frozen?, h1], by rw [cell_of h2]; rfl, by simp [World.frozen?, h2], h3⟩
theorem below3 {w w0 W : World} {g : Nat} (h : RowKit.Below w.heap.size w0 W) (hg : w.heap.size <= g) (a b c : Value) : RowKit.Below w.heap.size w0 (((W.setCell ⟨g, 0, none⟩ a).setCell ⟨g, 1, none⟩ b).setCell ⟨g, 2, none⟩ c) := by
 refine ⟨h.os, h.tape, h.output, ?_, fun k hk => ?_⟩
 ·simpa [World.setCell] using h.size
 ·have hne : k ≠ g := by omega
  rw [dZ hne, dZ hne, dZ hne];exact h.block k hk
set_option maxHeartbeats 1000000 in
set_option maxRecDepth 100000 in
theorem reg_walk (w : World) (b : Nat) (n : Int) (v : Int) (h0 : 0 <= v) (h1 : v <= 255)
  (H : ∀ (o : Array Value), Calls Try.prog 45 #[.pointer (some ⟨b, 0, none⟩)] (w.alloc (.cells o 45)) fun e w' => e = .returned (.int .i64 v) /\ After w b n w.heap.size o w')
  (H2 : ∀ (m : Int) (W : World), W.heap[w.heap.size]? = some (.cells #[.int .i64 0, .int .i64 0, .int .i32 0] 45 (0, 0)) -> RowKit.Below w.heap.size (w.setCell ⟨b, 1, none⟩ (.int .i64 n)) W -> Calls Try.prog 54 #[.int .i64 m] W fun e W' => e = .returned (.agg #[.int .i64 2, .int .i64 m, .int .i32 0]) /\
   W'.heap[w.heap.size]? = some (.cells #[.int .i64 0, .int .i64 0, .int .i32 0] 45 (0, 0)) /\ RowKit.Below w.heap.size (w.setCell ⟨b, 1, none⟩ (.int .i64 n)) W') :
  Calls Try.prog 50 #[.pointer (some ⟨b, 0, none⟩)] w fun e w' => e = .returned (.agg #[.int .i64 2, .int .i64 (v % 6), .int .i32 0]) /\ RowKit.Below w.heap.size (w.setCell ⟨b, 1, none⟩ (.int .i64 n)) w' := by
 have hk : IntKind.wrap .i64 (v % 6) = v % 6 := cP (aS (by omega) (by omega))
 go_enter Try.func50, Try.ntmps50
 go_wp2_with (first | (go_at_call 45; refine (H _).mono ?_; rintro e w' ⟨rfl, hA, hB⟩) | (go_at_call 54; refine (H2 _ _ hB hA).mono ?_; rintro e W ⟨rfl, hB2, hA2⟩; obtain ⟨q0, q1, q2, q3, q4, q5, q6⟩ := own3 hB2 (.int .i64 2) (.int .i64 (v % 6)) (.int .i32 0)))
 refine bodyPost_ret (results_cell_row rfl _ _ w.heap.size 45 #[.int .i64 2, .int .i64 (v % 6), .int .i32 0] (0, 0) _ rfl q6 Try.underlying45 rfl rfl) rfl ?_
 exact ⟨rfl, below3 hA2 (Nat.le_refl _) _ _ _⟩
theorem alloc_keep {w : World} {o : Obj} {k : Nat} (h : k < w.heap.size) : (w.alloc o).heap[k]? = w.heap[k]? := heap_alloc_old w o h
theorem lt_of_some {w : World} {k : Nat} {o : Obj} (h : w.heap[k]? = some o) : k < w.heap.size := by
 rcases Nat.lt_or_ge k w.heap.size with h' | h'
 ·exact h'
 ·rw [Array.getElem?_eq_none h'] at h; cases h
theorem alloc_size (w : World) (o : Obj) : (w.alloc o).heap.size = w.heap.size + 1 := by
 show (w.heap.push o).size = _
 simp
theorem after_next {w : World} {F : aA} {b cap : Nat} {ao : Option Addr} {row : Array Value} {T : TypeId} {L : List Int} {at0 : Int} (h0 : 0 <= at0) (h1 : at0 <= 5000) (hn : L.length <= lim) (hF : ¬ F b) (hFb : ∀ k, F k -> k < w.heap.size)
  (hrow : w.heap[b]? = some (.cells row T (0, 0))) (r0 : row[0]? = some (.slice ao L.length cap)) (r1 : row[1]? = some (.int .i64 at0)) (hL : ∀ v ∈ L, 0 <= v /\ v <= 255)
  (ho : L = [] ∨ ∃ (c o : Nat) (rc : Array Value) (Tc : TypeId) (fr : Nat × Nat), ao = some ⟨c, o, none⟩ /\ F c /\ w.heap[c]? = some (.cells rc Tc fr) /\ ∀ i v, L[i]? = some v -> rc[o + i]? = some (.int .u8 v)) (C : Sp.Code) (o : Array Value) :
  Calls Try.prog 45 #[.pointer (some ⟨b, 0, none⟩)] (w.alloc (.cells o 45)) fun e w' => e = .returned (.int .i64 (Sp.nxV (L, at0, C, ()))) /\ After w b (at0 + 1) w.heap.size o w' := by
 have hb := lt_of_some hrow
 have hrow' : (w.alloc (.cells o 45)).heap[b]? = some (.cells row T (0, 0)) := (alloc_keep hb).trans hrow
 refine (nx_calls (w.alloc (.cells o 45)) F b cap ao row T L at0 h0 h1 hn hF hrow' r0 r1 hL ?_ C).mono ?_
 ·rcases ho with h | ⟨c, o2, rc, Tc, fr, g1, g2, g3, g4⟩
  ·exact .inl h
  ·exact .inr ⟨c, o2, rc, Tc, fr, g1, g2, (alloc_keep (hFb c g2)).trans g3, g4⟩
 ·rintro e w' ⟨rfl, k, rfl⟩
  refine ⟨rfl, ⟨rfl, rfl, rfl, ?_, fun j hj => ?_⟩, ?_⟩
  ·show (w.setCell _ _).heap.size <= ((w.alloc _).setCell _ _).heap.size
   simp only [World.setCell, Array.size_modify];rw [alloc_size]; omega
  ·show ((w.alloc _).setCell _ _).heap[j]? = (w.setCell _ _).heap[j]?
   by_cases hjb : j = b
   ·subst hjb
    rw [eV hrow', eV hrow]
   ·rw [dZ hjb, dZ hjb, alloc_keep hj]
  ·show ((w.alloc _).setCell _ _).heap[w.heap.size]? = _
   rw [dZ (by omega)];exact heap_alloc_new w _
theorem after_new {w w0 W : World} {g : Nat} {o : Obj} (row : Obj) (h : W.heap[g]? = some o) (hs : w0.heap.size = w.heap.size) (hA : RowKit.Below w.heap.size w0 W) : (W.alloc row).heap[g]? = some o /\ RowKit.Below w.heap.size w0 (W.alloc row) := by
 have hg := lt_of_some h
 refine ⟨(alloc_keep hg).trans h, hA.os, hA.tape, hA.output, by rw [alloc_size]; have := hA.size; omega, fun k hk => ?_⟩
 have := hA.size
 rw [alloc_keep (by omega)]; exact hA.block k hk
theorem own_opd (F : aA) (w : World) {k n v : Int} (h1 : inK .i64 k) (h2 : inK .i64 n) (h3 : inK .i32 v) : Own F w aQ .shr none' [.int .i64 k, .int .i64 n, .int .i32 v] (k, n, v, ()) :=
 ⟨[_], [_, _], none', none', rfl, fun _ h => h, fun _ h => h, fun _ h => h.elim, ⟨rfl, h1⟩, [_], [_], none', none', rfl, fun _ h => h, fun _ h => h, fun _ h => h.elim, ⟨rfl, h2⟩, [_], [], none', none', rfl, fun _ h => h, fun _ h => h, fun _ h => h.elim, ⟨rfl, h3⟩, rfl⟩
def N50 : NSpec := { τ := tMk, m := mMk, T := 3, p := [.snd, .fst], res := aQ, pre := fun s => Sp.aG 5000 s, num := fun s => s.2.1 + 1, out := fun s => Sp.eN s }
theorem nk50 : NOk Try.prog 50 N50 := by
 refine ⟨Try.call50, ?_⟩
 intro w F S0 b off cs x hb hF hS0 hp hown hpre hloc
 obtain ⟨hoff, nF, hlim, ao, cap, row, T, hrow, r0, r1, hel⟩ := mk_cells hp hown hloc
 subst hoff
 have hbs := dM (hown.fact).1
 have hpre : Sp.aG 5000 x := hpre
 have h0 := hpre.at0
 have h1 := hpre.at1
 obtain ⟨L, at0, C, u⟩ := x
 have hk : ∀ z : Int, 0 <= z -> z <= 5000 -> inK .i64 (z + 1) := fun z _ _ => aS (by omega) (by omega)
 have hv := Sp.fM (L, at0, C, ()) hbs
 refine ⟨hk at0 h0 h1, (reg_walk w b (at0 + 1) _ hv.1 hv.2 (fun o => after_next h0 h1 hlim nF hF hrow r0 r1 hbs hel C o) (fun m W hW hA => (reg_calls W m).mono ?_)).mono ?_⟩
 ·rintro e w' ⟨rfl, r, T', rfl⟩
  exact ⟨rfl, after_new _ hW (by simp [World.setCell]) hA⟩
 ·rintro e w' ⟨rfl, hB⟩
  refine ⟨_, _, store_int hrow r1, ⟨hB.os, hB.tape, hB.output, hB.size, fun k hk => hB.block k (by simpa [World.setCell] using hk)⟩, rfl, [_, _, _], rfl, ?_⟩
  have e1 : (Sp.nxV (L, at0, C, ())).tmod 6 = Sp.nxV (L, at0, C, ()) % 6 := Int.tmod_eq_emod_of_nonneg hv.1
  have e2 : N50.out (L, at0, C, u) = (2, Sp.nxV (L, at0, C, ()) % 6, 0, ()) := by
   show Sp.eN (L, at0, C, ()) = _
   unfold Sp.eN Sp.cZ;rw [e1]
  rw [e2];exact own_opd F _ ⟨by decide, by decide⟩ (aS (by omega) (by omega)) ⟨by decide, by decide⟩
set_option maxHeartbeats 1000000 in
set_option maxRecDepth 100000 in
theorem val_walk0 (w : World) (b : Nat) (n : Int) (v : Int) (h0 : 0 <= v) (h1 : v <= 255) (hc : (v % 3 == 0) = true)
  (H : ∀ (o : Array Value), Calls Try.prog 45 #[.pointer (some ⟨b, 0, none⟩)] (w.alloc (.cells o 45)) fun e w' => e = .returned (.int .i64 v) /\ After w b n w.heap.size o w')
  (H2 : ∀ (m : Int) (W : World), W.heap[w.heap.size]? = some (.cells #[.int .i64 0, .int .i64 0, .int .i32 0] 45 (0, 0)) -> RowKit.Below w.heap.size (w.setCell ⟨b, 1, none⟩ (.int .i64 n)) W -> Calls Try.prog 54 #[.int .i64 m] W fun e W' => e = .returned (.agg #[.int .i64 2, .int .i64 m, .int .i32 0]) /\
   W'.heap[w.heap.size]? = some (.cells #[.int .i64 0, .int .i64 0, .int .i32 0] 45 (0, 0)) /\ RowKit.Below w.heap.size (w.setCell ⟨b, 1, none⟩ (.int .i64 n)) W')
  (H3 : ∀ (m : Int) (W : World), W.heap[w.heap.size]? = some (.cells #[.int .i64 0, .int .i64 0, .int .i32 0] 45 (0, 0)) -> RowKit.Below w.heap.size (w.setCell ⟨b, 1, none⟩ (.int .i64 n)) W -> Calls Try.prog 55 #[.int .i32 m] W fun e W' => e = .returned (.agg #[.int .i64 1, .int .i64 0, .int .i32 m]) /\
   W'.heap[w.heap.size]? = some (.cells #[.int .i64 0, .int .i64 0, .int .i32 0] 45 (0, 0)) /\ RowKit.Below w.heap.size (w.setCell ⟨b, 1, none⟩ (.int .i64 n)) W') :
  Calls Try.prog 51 #[.pointer (some ⟨b, 0, none⟩)] w fun e w' => e = .returned (.agg #[.int .i64 1, .int .i64 0, .int .i32 (v / 3 - 20)]) /\ RowKit.Below w.heap.size (w.setCell ⟨b, 1, none⟩ (.int .i64 n)) w' := by
 have hk1 : IntKind.wrap .i64 (v / 3) = v / 3 := cP (aS (by omega) (by omega))
 have hk2 : IntKind.wrap .i64 (v % 3) = v % 3 := cP (aS (by omega) (by omega))
 have hk3 : IntKind.wrap .i64 (v / 3 % 6) = v / 3 % 6 := cP (aS (by omega) (by omega))
 have hk4 : IntKind.wrap .i32 (v / 3) = v / 3 := cP (k := .i32) ⟨by show (-2147483648 : Int) <= _; omega, by show _ <= (2147483647 : Int); omega⟩
 have hk5 : IntKind.wrap .i32 (v / 3 - 20) = v / 3 - 20 := cP (k := .i32) ⟨by show (-2147483648 : Int) <= _; omega, by show _ <= (2147483647 : Int); omega⟩
 go_enter Try.func51, Try.ntmps51
 go_wp2_with (first | (go_at_call 45; refine (H _).mono ?_; rintro e w' ⟨rfl, hA, hB⟩) | (go_at_call 55; refine (H3 _ _ hB hA).mono ?_; rintro e W ⟨rfl, hB2, hA2⟩; obtain ⟨q0, q1, q2, q3, q4, q5, q6⟩ := own3 hB2 (.int .i64 1) (.int .i64 0) (.int .i32 (v / 3 - 20))))
 refine bodyPost_ret (results_cell_row rfl _ _ w.heap.size 45 #[.int .i64 1, .int .i64 0, .int .i32 (v / 3 - 20)] (0, 0) _ rfl q6 Try.underlying45 rfl rfl) rfl ?_
 exact ⟨rfl, below3 hA2 (Nat.le_refl _) _ _ _⟩
set_option maxHeartbeats 1000000 in
set_option maxRecDepth 100000 in
theorem val_walk1 (w : World) (b : Nat) (n : Int) (v : Int) (h0 : 0 <= v) (h1 : v <= 255) (hc : (v % 3 == 0) = false)
  (H : ∀ (o : Array Value), Calls Try.prog 45 #[.pointer (some ⟨b, 0, none⟩)] (w.alloc (.cells o 45)) fun e w' => e = .returned (.int .i64 v) /\ After w b n w.heap.size o w')
  (H2 : ∀ (m : Int) (W : World), W.heap[w.heap.size]? = some (.cells #[.int .i64 0, .int .i64 0, .int .i32 0] 45 (0, 0)) -> RowKit.Below w.heap.size (w.setCell ⟨b, 1, none⟩ (.int .i64 n)) W -> Calls Try.prog 54 #[.int .i64 m] W fun e W' => e = .returned (.agg #[.int .i64 2, .int .i64 m, .int .i32 0]) /\
   W'.heap[w.heap.size]? = some (.cells #[.int .i64 0, .int .i64 0, .int .i32 0] 45 (0, 0)) /\ RowKit.Below w.heap.size (w.setCell ⟨b, 1, none⟩ (.int .i64 n)) W')
  (H3 : ∀ (m : Int) (W : World), W.heap[w.heap.size]? = some (.cells #[.int .i64 0, .int .i64 0, .int .i32 0] 45 (0, 0)) -> RowKit.Below w.heap.size (w.setCell ⟨b, 1, none⟩ (.int .i64 n)) W -> Calls Try.prog 55 #[.int .i32 m] W fun e W' => e = .returned (.agg #[.int .i64 1, .int .i64 0, .int .i32 m]) /\
   W'.heap[w.heap.size]? = some (.cells #[.int .i64 0, .int .i64 0, .int .i32 0] 45 (0, 0)) /\ RowKit.Below w.heap.size (w.setCell ⟨b, 1, none⟩ (.int .i64 n)) W') :
  Calls Try.prog 51 #[.pointer (some ⟨b, 0, none⟩)] w fun e w' => e = .returned (.agg #[.int .i64 2, .int .i64 (v / 3 % 6), .int .i32 0]) /\ RowKit.Below w.heap.size (w.setCell ⟨b, 1, none⟩ (.int .i64 n)) w' := by
 have hk1 : IntKind.wrap .i64 (v / 3) = v / 3 := cP (aS (by omega) (by omega))
 have hk2 : IntKind.wrap .i64 (v % 3) = v % 3 := cP (aS (by omega) (by omega))
 have hk3 : IntKind.wrap .i64 (v / 3 % 6) = v / 3 % 6 := cP (aS (by omega) (by omega))
 have hk4 : IntKind.wrap .i32 (v / 3) = v / 3 := cP (k := .i32) ⟨by show (-2147483648 : Int) <= _; omega, by show _ <= (2147483647 : Int); omega⟩
 have hk5 : IntKind.wrap .i32 (v / 3 - 20) = v / 3 - 20 := cP (k := .i32) ⟨by show (-2147483648 : Int) <= _; omega, by show _ <= (2147483647 : Int); omega⟩
 go_enter Try.func51, Try.ntmps51
 go_wp2_with (first | (go_at_call 45; refine (H _).mono ?_; rintro e w' ⟨rfl, hA, hB⟩) | (go_at_call 54; refine (H2 _ _ hB hA).mono ?_; rintro e W ⟨rfl, hB2, hA2⟩; obtain ⟨q0, q1, q2, q3, q4, q5, q6⟩ := own3 hB2 (.int .i64 2) (.int .i64 (v / 3 % 6)) (.int .i32 0)))
 refine bodyPost_ret (results_cell_row rfl _ _ w.heap.size 45 #[.int .i64 2, .int .i64 (v / 3 % 6), .int .i32 0] (0, 0) _ rfl q6 Try.underlying45 rfl rfl) rfl ?_
 exact ⟨rfl, below3 hA2 (Nat.le_refl _) _ _ _⟩
def N51 : NSpec := { τ := tMk, m := mMk, T := 3, p := [.snd, .fst], res := aQ, pre := fun s => Sp.aG 5000 s, num := fun s => s.2.1 + 1, out := fun s => Sp.eY s }
theorem nk51 : NOk Try.prog 51 N51 := by
 refine ⟨Try.call51, ?_⟩
 intro w F S0 b off cs x hb hF hS0 hp hown hpre hloc
 obtain ⟨hoff, nF, hlim, ao, cap, row, T, hrow, r0, r1, hel⟩ := mk_cells hp hown hloc
 subst hoff
 have hbs := dM (hown.fact).1
 have hpre : Sp.aG 5000 x := hpre
 have h0 := hpre.at0
 have h1 := hpre.at1
 obtain ⟨L, at0, C, u⟩ := x
 have hk : ∀ z : Int, 0 <= z -> z <= 5000 -> inK .i64 (z + 1) := fun z _ _ => aS (by omega) (by omega)
 have hv := Sp.fM (L, at0, C, ()) hbs
 have e1 : (Sp.nxV (L, at0, C, ())).tmod 3 = Sp.nxV (L, at0, C, ()) % 3 := Int.tmod_eq_emod_of_nonneg hv.1
 have e2 : (Sp.nxV (L, at0, C, ())).tdiv 3 = Sp.nxV (L, at0, C, ()) / 3 := Int.tdiv_eq_ediv_of_nonneg hv.1
 have e3 : (Sp.nxV (L, at0, C, ()) / 3).tmod 6 = Sp.nxV (L, at0, C, ()) / 3 % 6 := Int.tmod_eq_emod_of_nonneg (by omega)
 have hst : ∀ {w' : World}, RowKit.Below w.heap.size (w.setCell ⟨b, 1, none⟩ (.int .i64 (at0 + 1))) w' -> RowKit.Below (w.setCell ⟨b, 1, none⟩ (.int .i64 (at0 + 1))).heap.size (w.setCell ⟨b, 1, none⟩ (.int .i64 (at0 + 1))) w' :=
  fun hB => ⟨hB.os, hB.tape, hB.output, hB.size, fun k hk => hB.block k (by simpa [World.setCell] using hk)⟩
 refine ⟨hk at0 h0 h1, ?_⟩
 have hO : N51.out (L, at0, C, u) = Sp.eY (L, at0, C, ()) := rfl
 by_cases hc : Sp.nxV (L, at0, C, ()) % 3 = 0
 ·refine (val_walk0 w b (at0 + 1) _ hv.1 hv.2 (by rw [hc]; rfl) (fun o => after_next h0 h1 hlim nF hF hrow r0 r1 hbs hel C o) (fun m W hW hA => (reg_calls W m).mono ?_) (fun m W hW hA => (con_calls W m).mono ?_)).mono ?_
  ·rintro e w' ⟨rfl, r, T', rfl⟩
   exact ⟨rfl, after_new _ hW (by simp [World.setCell]) hA⟩
  ·rintro e w' ⟨rfl, r, T', rfl⟩
   exact ⟨rfl, after_new _ hW (by simp [World.setCell]) hA⟩
  ·rintro e w' ⟨rfl, hB⟩
   refine ⟨_, _, store_int hrow r1, hst hB, rfl, [_, _, _], rfl, ?_⟩
   have k4 : IntKind.wrap .i32 (Sp.nxV (L, at0, C, ()) / 3) = Sp.nxV (L, at0, C, ()) / 3 := cP (k := .i32) ⟨by show (-2147483648 : Int) <= _; omega, by show _ <= (2147483647 : Int); omega⟩
   have k5 : IntKind.wrap .i32 (Sp.nxV (L, at0, C, ()) / 3 - 20) = Sp.nxV (L, at0, C, ()) / 3 - 20 := cP (k := .i32) ⟨by show (-2147483648 : Int) <= _; omega, by show _ <= (2147483647 : Int); omega⟩
   have e4 : N51.out (L, at0, C, u) = (1, 0, Sp.nxV (L, at0, C, ()) / 3 - 20, ()) := by
    rw [hO];unfold Sp.eY Sp.conO;rw [e1, if_pos hc, e2, k4, k5]
   rw [e4];exact own_opd F _ ⟨by decide, by decide⟩ ⟨by decide, by decide⟩ ⟨by show (-2147483648 : Int) <= _; omega, by show _ <= (2147483647 : Int); omega⟩
 ·refine (val_walk1 w b (at0 + 1) _ hv.1 hv.2 (by simpa using hc) (fun o => after_next h0 h1 hlim nF hF hrow r0 r1 hbs hel C o) (fun m W hW hA => (reg_calls W m).mono ?_) (fun m W hW hA => (con_calls W m).mono ?_)).mono ?_
  ·rintro e w' ⟨rfl, r, T', rfl⟩
   exact ⟨rfl, after_new _ hW (by simp [World.setCell]) hA⟩
  ·rintro e w' ⟨rfl, r, T', rfl⟩
   exact ⟨rfl, after_new _ hW (by simp [World.setCell]) hA⟩
  ·rintro e w' ⟨rfl, hB⟩
   refine ⟨_, _, store_int hrow r1, hst hB, rfl, [_, _, _], rfl, ?_⟩
   have e4 : N51.out (L, at0, C, u) = (2, Sp.nxV (L, at0, C, ()) / 3 % 6, 0, ()) := by
    rw [hO];unfold Sp.eY Sp.cZ;rw [e1, if_neg hc, e2, e3]
   rw [e4];exact own_opd F _ ⟨by decide, by decide⟩ (aS (by omega) (by omega)) ⟨by decide, by decide⟩
def nums14 : List (FuncId × NSpec) := [(45, N45), (50, N50), (51, N51)]
theorem nums_ok : ∀ f s, Lf.look nums14 f = some s -> NOk Try.prog f s := by
 intro f s hs
 unfold nums14 at hs
 simp only [Lf.look] at hs
 cases h1 : Nat.beq 45 f
 ·rw [h1] at hs
  simp only [cond_false] at hs;cases h2 : Nat.beq 50 f
  ·rw [h2] at hs
   simp only [cond_false] at hs;cases h3 : Nat.beq 51 f
   ·rw [h3] at hs; cases hs
   ·rw [h3] at hs
    have := Nat.eq_of_beq_eq_true h3
    simp only [cond_true, Option.some.injEq] at hs;rw [<- this, <- hs]; exact nk51
  ·rw [h2] at hs
   have := Nat.eq_of_beq_eq_true h2
   simp only [cond_true, Option.some.injEq] at hs;rw [<- this, <- hs]; exact nk50
 ·rw [h1] at hs
  have := Nat.eq_of_beq_eq_true h1
  simp only [cond_true, Option.some.injEq] at hs;rw [<- this, <- hs]; exact nk45
end Go.User
namespace Go.Lf

def wpK (C : Ctx) (stp : St -> Oper -> Option (Prop × St)) (L : List aW) : List (Option aW) -> Code -> Nat -> St -> (St -> Prop) -> (Nat -> St -> Prop) -> (St -> Prop) -> Prop
 | some l :: fl, .seq a b, k, st, Qn, Qx, Qr => wpI C stp L a k st (fun st' => (∃ x, l.inv x /\ atX l (frzA st' l.frz) x (frzA st' l.frz)) /\ ∀ x, l.inv x -> factsL (l.ovr x) [] -> wpK C stp L fl b (k + nl a) (stx l (frzA st' l.frz) x) Qn Qx Qr) Qx Qr
 | none :: fl, .seq a b, k, st, Qn, Qx, Qr => wpI C stp L a k st (fun st' => wpK C stp L fl b (k + nl a) st' Qn Qx Qr) Qx Qr
 | [], c, k, st, Qn, Qx, Qr => wpI C stp L c k st Qn Qx Qr
 | _, _, _, _, _, _, _ => False

def funPK (C : Ctx) (stp : St -> Oper -> Option (Prop × St)) (s : cX) (L : s.τ.den -> aN s.args -> List aW) (K : s.τ.den -> aN s.args -> List (Option aW)) (fn : Func) : Prop :=
 match fn.body with
 | some c => ∀ x y, s.pre x y -> aB s.τ x -> factsK s.args y -> wpK C stp (L x y) (K x y) c 0 (ofL ((0, .box s.τ s.m x) :: dK s.args y 1)) (retPP C s fn.results.toList (s.fn x y) (s.out x y)) (fun _ _ => False) (retPP C s fn.results.toList (s.fn x y) (s.out x y))
 | none => False
section
variable {P : Program} {C : Ctx} {w0 : World} {F0 H : aA}

theorem wpK_ok (hC : aF P C) {stp : St -> Oper -> Option (Prop × St)} (hstp : eD P C stp) {L : List aW} :
  ∀ (fl : List (Option aW)) (c : Code) {k : Nat} {st : St} {Qn : St -> Prop} {Qx : Nat -> St -> Prop} {Qr : St -> Prop} {Q : Exit -> Act -> World -> Prop} {a : Act} {w : World}, wpK C stp L fl c k st Qn Qx Qr -> Inv P C.np w0 F0 H st a w ->
   (∀ st a w, Qn st -> Inv P C.np w0 F0 H st a w -> Q .normal a w) -> (∀ i st a w, Qx i st -> Inv P C.np w0 F0 H st a w -> Q (.exit i) a w) -> (∀ st a w, Qr st -> Inv P C.np w0 F0 H st a w -> Q .ret a w) -> c.wp P Q a w
 | [], c, k, st, Qn, Qx, Qr, Q, a, w, h, hi, hn, hx, hr => by
  simp only [wpK] at h;exact cH hC hstp c h hi hn hx hr
 | none :: fl, c, k, st, Qn, Qx, Qr, Q, a, w, h, hi, hn, hx, hr => by
  cases c with
  | seq x y =>
   simp only [wpK] at h;refine wp_seq (cH hC hstp x h hi ?_ ?_ ?_)
   ·intro st1 a1 w1 h1 hi1
    exact wpK_ok hC hstp fl y h1 hi1 hn hx hr
   ·exact hx
   ·exact hr
  | _ => simp [wpK] at h
 | some l :: fl, c, k, st, Qn, Qx, Qr, Q, a, w, h, hi, hn, hx, hr => by
  cases c with
  | seq x y =>
   simp only [wpK] at h;refine wp_seq (cH hC hstp x h hi ?_ ?_ ?_)
   ·intro st1 a1 w1 h1 hi1
    obtain ⟨⟨z, g1, g2⟩, h3⟩ := h1;have hi2 := atX_ok g2 (frzA_ok (l := l.frz) hi1);exact wpK_ok hC hstp fl y (h3 z g1 (factsL_ok hi2 (f := l.ovr z) (fun t e h => by simp only [stx, h]) (l.ovr z) [] (fun t e _ h => h))) hi2 hn hx hr
   ·exact hx
   ·exact hr
  | _ => simp [wpK] at h

theorem POk.introQK {q : Nat} (hC : aF P C) {stp : St -> Oper -> Option (Prop × St)} (hstp : eD P C stp) {f : FuncId} {s : cX} {fn : Func} (hdef : FnDef P f) (hf : P.funcs[f]? = some fn)
  (hN : C.np = ⟨fn.ntmps, some 0, q, 0⟩) (hlen : Nat.ble (s.args.length + 1) fn.ntmps = true) (L : s.τ.den -> aN s.args -> List aW) (K : s.τ.den -> aN s.args -> List (Option aW)) (h : funPK C stp s L K fn) : POk P f s (some q) := by
 refine ⟨hdef, ?_⟩
 intro w F S0 b cs x vs y hq hb hF hS0 h1 h2 ha hpre
 have hq := hq q rfl
 subst hq
 unfold funPK at h
 split at h
 ·rename_i c hbd
  have hl := cO.len ha
  have hlen' : s.args.length + 1 <= fn.ntmps := Nat.le_of_ble_eq_true hlen
  have hst := aM.startP (P := P) (n := fn.ntmps) hb hF hS0 h1 h2 ha (by omega)
  rw [<- hN] at hst;refine calls_of_wp hf hbd ?_;have hend : ∀ st a w', retPP C s fn.results.toList (s.fn x y) (s.out x y) st -> Inv P C.np w F (fun k => S0 k ∨ k = b) st a w' -> bodyPost P fn (PPost F S0 w b s x y) .normal a w' := by
   intro st a w' hq hi;have hqq : C.np.q = b := by rw [hN]
   have := retPP_ok (N := C.np) hC (by rw [hN]) (x := x) (y := y) (S0 := S0) (by rw [hqq]) hq hi
   rwa [hqq] at this
  refine wpK_ok hC hstp (K x y) c (h x y hpre h2.fact (factsK_ok ha)) ⟨F, _, by simpa using hst⟩ ?_ (fun _ _ _ _ h => h.elim) ?_
  ·intro st a w' hq hi
   exact hend st a w' hq hi
  ·intro st a w' hq hi
   exact hend st a w' hq hi
 ·cases h
theorem POk.introK {C : Nat -> Ctx} (hC : ∀ q, aF P (C q)) {stp : Nat -> St -> Oper -> Option (Prop × St)} (hstp : ∀ q, eD P (C q) (stp q)) {f : FuncId} {s : cX} {fn : Func} (hdef : FnDef P f) (hf : P.funcs[f]? = some fn)
  (hN : ∀ q, (C q).np = ⟨fn.ntmps, some 0, q, 0⟩) (hlen : Nat.ble (s.args.length + 1) fn.ntmps = true) (L : Nat -> s.τ.den -> aN s.args -> List aW) (K : Nat -> s.τ.den -> aN s.args -> List (Option aW)) (h : ∀ q, funPK (C q) (stp q) s (L q) (K q) fn) : POk P f s :=
 POk.all fun q => POk.introQK (hC q) (hstp q) hdef hf (hN q) hlen (L q) (K q) (h q)
end
end Go.Lf
namespace Sp
def setR (c : Code) (n : Int) : Code := (c.1, c.2.1, n, c.2.2.2)
def setL (c : Code) (l : List Loop) : Code := (c.1, c.2.1, c.2.2.1, c.2.2.2.1, c.2.2.2.2.1, c.2.2.2.2.2.1, l, c.2.2.2.2.2.2.2)
def wR (s : Mk) (n : Int) : Mk := (s.1, s.2.1, setR s.2.2.1 n, ())
def wL (s : Mk) (l : Loop) : Mk := (s.1, s.2.1, setL s.2.2.1 (cL s.2.2.1 ++ [l]), ())
def setT (B : List Block) (b : Int) (t : Term) : List Block := B.set b.toNat ((B.getD b.toNat blk0).1, t, (B.getD b.toNat blk0).2.2)
def wT (s : Mk) (b : Int) (t : Term) : Mk := wB s (setT (cB s.2.2.1) b t)
def nB (s : Mk) : Int := ((cB s.2.2.1).length : Int)
def tJ (k : Int) (a b : Int) : Term := (k, 0, dD, dD, dD, [a, b], ())
def tB (o : Opd) (a b : Int) : Term := (2, 0, dD, o, dD, [a, b], ())
def lpN (s : Mk) : Int := 6 + 2 * ((cL s.2.2.1).length : Int)
def lpB (s : Mk) : Int := 1 + Int.tmod (nxV s) 3
def lp1 (s : Mk) : Mk := eB (wR (nxM s) (lpN s + 2)) (i3 1 0 0 (cZ (lpN s)) (conO 0) dD)
def lp2 (s : Mk) : Mk := fH (wL (wT (lp1 s) (nB s - 1) (tJ 1 (nB s) 0)) (nB s, lpN s, lpB s, ()))
def lp3 (s : Mk) : Mk := eB (lp2 s) (i3 3 26 0 (cZ (lpN s + 1)) (cZ (lpN s)) (conO (Go.IntKind.wrap .i32 (lpB s))))
def lp4 (s : Mk) : Mk := fH (wT (lp3 s) (nB s) (tB (cZ (lpN s + 1)) (nB s + 1) (nB s + 2)))
def lp5 (s : Mk) : Mk := insM (eB (lp4 s) (i3 3 10 0 (cZ (lpN s)) (cZ (lpN s)) (conO 1)))
def lp6 (s : Mk) : Mk := wT (lp5 s) (nB s + 1) (tJ 1 (nB s) 0)
def lpM (s : Mk) : Mk := if Int.tmod (nxV (lp6 s)) 3 = 0 then wT (nxM (nxM (lp6 s))) (nB s + 1) (tB (eN (nxM (lp6 s))) (nB s) (nB s + 2)) else nxM (lp6 s)
end Sp
namespace Go.User
open Go.Lf
def S48 : cX := { τ := tMk, m := mMk, pre := fun s _ => Sp.aG 4000 s /\ Sp.has s, fn := fun s y => Sp.lpM s, out := fun _ _ => () }
def C48 (q : Nat) : Ctx := { mkM 136 q [(54, S54), (55, S55)] [(66, S66), (49, S49), (52, S52)] with mds := [(57, .own .shr)] }
def L48 (q : Nat) (x : S48.τ.den) (y : aN S48.args) : List aW := []
def cut48 (keep : List Nat) (x : Sp.Mk) (o : List (Nat × Ent)) : Option aW := some { ι := Unit, inv := fun _ => True, dec := fun _ => 0, ovr := fun _ => (0, .box tMk mMk x) :: o, keep := keep }
def K48 (q : Nat) (x : S48.τ.den) (y : aN S48.args) : List (Option aW) :=
 let n := Ent.shr tI (Sp.lpN x)
 let b := Ent.shr tI (Sp.lpB x)
 let h := Ent.shr tI (Sp.nB x)
 [none, cut48 [] (Sp.nxM x) [(2, n), (3, b)], cut48 [] (Sp.wR (Sp.nxM x) (Sp.lpN x + 2)) [(2, n), (3, b)], cut48 [] (Sp.wR (Sp.nxM x) (Sp.lpN x + 2)) [(2, n), (3, b), (4, h)], cut48 [] (Sp.lp1 x) [(2, n), (3, b), (4, h)],
  cut48 [] (Sp.wT (Sp.lp1 x) (Sp.nB x - 1) (Sp.tJ 1 (Sp.nB x) 0)) [(2, n), (3, b), (4, h)], none, cut48 [] (Sp.lp2 x) [(2, n), (3, b), (4, h)], cut48 [] (Sp.lp3 x) [(2, n), (3, b), (4, h)], none, cut48 [] (Sp.lp4 x) [(2, n), (3, b), (4, h)], none, cut48 [] (Sp.lp5 x) [(2, n), (3, b), (4, h)], cut48 [] (Sp.lp6 x) [(2, n), (3, b), (4, h)]]
end Go.User
namespace Go.User
open Go.Proofs Go.Lf
set_option maxRecDepth 100000
theorem vc48 : (∀ q : Nat, funPK (C48 q) (stpN nums14 (C48 q)) S48 (L48 q) (K48 q) Try.f48) = (
let q0 : Nat := (2 : Nat);
let q1 : Int := (2 : Int);
let q2 : Int := (6 : Int);
let q3 : Nat := (5000 : Nat);
let q4 : Int := (3 : Int);
let q5 : Int := (0 : Int);
let q6 : Prop := q4 ≠ q5;
let q7 : Int := (1 : Int);
let q8 : Prop := True /\ True /\ True;
let q9 : Prop := True /\ q8;
let q10 : Prop := True /\ True /\ q9;
let q11 : Prop := True /\ True /\ q10;
let q12 : Sp.Opd := Sp.conO q5;
let q13 : Sp.Opd := (q5, q5, q5, ());
let q14 : Sp.Opd × Unit := (q13, ());
let q15 : List Int := List.replicate q0 q5;
let q16 : Sp.Block := (([] : List aL.den), (q5, q5, q13, q13, q13, q15, ()), ());
let q17 : Nat := (0 : Nat);
let q18 : Nat := (1 : Nat);
let q19 : List Step := Step.snd :: Step.fst :: ([] : List Step);
let q20 : List Step := Step.snd :: q19;
let q21 : List Step := Step.snd :: Step.snd :: Step.snd :: Step.snd :: q20;
let q22 : List Step := Step.snd :: Step.snd :: Step.fst :: q21;
let q23 : Int := (26 : Int);
let q24 : List Sp.Block := Sp.blk0 :: ([] : List Sp.Block);
let q25 : Int := (10 : Int);
let q26 : Sp.Opd × Sp.Opd × Unit := (Sp.conO q7, q14);
let q27 : Prop := q17 = q17;
let q28 : Prop := True /\ q27 /\ ([] : List Step) = ([] : List Step);
let q29 : Prop := True /\ q27 /\ q20 = q20;
let q30 : List Step := Step.snd :: Step.snd :: Step.fst :: Step.snd :: q21;
let q31 : Prop := True /\ q27 /\ q30 = q30;
let q32 : Prop := (([] : List Go.ResultVar)).toArray.toList = ([] : List Go.ResultVar) /\ Ty.unit = Ty.unit;
∀ (q : Nat) (x : Sp.Mk),
 let q33 : Int × Int × List Sp.Arr × List Sp.Opd × List Sp.Block × Unit := x.2.2.1.2.2.2;
 let q34 : Int × List Sp.Arr × List Sp.Opd × List Sp.Block × Unit := q33.2;
 let q35 : List Sp.Arr × List Sp.Opd × List Sp.Block × Unit := q34.2;
 let q36 : List Sp.Opd × List Sp.Block × Unit := q35.2;
 let q37 : List Sp.Opd := q36.1;
 let q38 : Nat := q37.length;
 let q39 : Int := q1 * (↑q38 : Int);
 let q40 : Int := q2 + q39;
 let q41 : Int := q7 + (Sp.nxV x).tmod q4;
 let q42 : Prop := aB tI (Sp.lpN x);
 let q43 : Prop := aB tI (Sp.lpB x);
 let q44 : Prop := q42 /\ q43 /\ True;
 let q45 : Int := Sp.lpN x + q1;
 let q46 : Int := x.2.1 + q7;
 let q47 : Int := x.2.2.1.2.1;
 let q48 : Sp.Mk := Sp.wR (Sp.nxM x) q45;
 let q49 : Prop := Sp.lpN x = Sp.lpN x;
 let q50 : Prop := Sp.lpB x = Sp.lpB x;
 let q51 : Prop := aB (tU8.slice.prod (tI.prod ((tI.prod (tI.prod (tI.prod (tI.prod (tI.prod (cG.slice.prod (bF.slice.prod ((aL.slice.prod ((tI.prod (tI.prod (aQ.prod (aQ.prod (aQ.prod ((Ty.arr q0 tI).prod Ty.unit)))))).prod Ty.unit)).slice.prod Ty.unit)))))))).prod Ty.unit))) q48;
 let q52 : Prop := q42 /\ q43 /\ aB tI (Sp.nB x) /\ True;
 let q53 : Prop := Sp.nB x = Sp.nB x;
 let q54 : Prop := q49 /\ q50 /\ q53 /\ True;
 let q55 : Int := Sp.nB x - q7;
 let q56 : Sp.Code := Sp.setR x.2.2.1 q45;
 let q57 : List Sp.Block := Sp.putB (Sp.cB q56) (Sp.i3 q7 q5 q5 (Sp.cZ (Sp.lpN x)) q12 Sp.dD);
 let q58 : Int := q33.1;
 let q59 : Int := q34.1;
 let q60 : List Sp.Arr := q35.1;
 let q61 : Nat := q55.toNat;
 let q62 : Sp.Block := q57.getD q61 q16;
 let q63 : List Int := q15.set q17 (Sp.nB x);
 let q64 : Sp.Term := (q7, q5, q13, q13, q13, q63.set q18 q5, ());
 let q65 : Sp.Term := Sp.tJ q7 (Sp.nB x) q5;
 let q66 : Sp.Mk := Sp.wT (Sp.lp1 x) q55 q65;
 let q67 : List Sp.Opd := (Sp.nB x, Sp.lpN x, Sp.lpB x, ()) :: ([] : List bF.den);
 let q68 : Sp.Code := Sp.fK q56 q57;
 let q69 : List Sp.Block := Sp.setT (Sp.cB q68) q55 q65;
 let q70 : Sp.Mk := (x.1, q46, (x.2.2.1.1, q47, q45, q58, q59, q60, q37 ++ q67, q69, ()), ());
 let q71 : Int := Sp.lpN x + q7;
 let q72 : Prop := inK IntKind.i64 q71;
 let q73 : Sp.Opd := Sp.cZ q71;
 let q74 : Sp.Opd := Sp.conO (IntKind.i32.wrap (Sp.lpB x));
 let q75 : Int := Sp.nB x + q7;
 let q76 : Prop := inK IntKind.i64 q75;
 let q77 : Int := Sp.nB x + q1;
 let q78 : Prop := inK IntKind.i64 q77;
 let q79 : Sp.Code := Sp.fK q68 q69;
 let q80 : List Sp.Opd := Sp.cL q79 ++ (Sp.nB x, Sp.lpN x, Sp.lpB x, ()) :: ([] : List Sp.Loop);
 let q81 : Sp.Code := Sp.setL q79 q80;
 let q82 : List Sp.Block := Sp.putB (Sp.cB (Sp.fK q81 (Sp.cB q81 ++ q24))) (Sp.i3 q4 q23 q5 q73 (Sp.cZ (Sp.lpN x)) q74);
 let q83 : Sp.Block := q82.getD (Sp.nB x).toNat q16;
 let q84 : Sp.Mk := (x.1, q46, (x.2.2.1.1, q47, q45, q58, q59, q60, q80, q82.set (Sp.nB x).toNat (q83.1, (q1, q5, q13, q73, q13, (q15.set q17 q75).set q18 q77, ()), q83.2.2), ()), ());
 let q85 : Sp.Mk := Sp.eB (Sp.lp4 x) (q4, q25, q5, Sp.cZ (Sp.lpN x), Sp.cZ (Sp.lpN x), q26);
 let q86 : Sp.Code := (Sp.lp5 x).2.2.1;
 let q87 : Int × Int × Int × Int × List Sp.Arr × List Sp.Opd × List Sp.Block × Unit := q86.2;
 let q88 : Int × Int × Int × List Sp.Arr × List Sp.Opd × List Sp.Block × Unit := q87.2;
 let q89 : Int × Int × List Sp.Arr × List Sp.Opd × List Sp.Block × Unit := q88.2;
 let q90 : Int × List Sp.Arr × List Sp.Opd × List Sp.Block × Unit := q89.2;
 let q91 : List Sp.Arr × List Sp.Opd × List Sp.Block × Unit := q90.2;
 let q92 : List Sp.Opd × List Sp.Block × Unit := q91.2;
 let q93 : List Sp.Block × Unit := q92.2;
 let q94 : List Sp.Block := q93.1;
 let q95 : Int := q86.1;
 let q96 : Int := q87.1;
 let q97 : Int := q88.1;
 let q98 : Int := q89.1;
 let q99 : Int := q90.1;
 let q100 : List Sp.Arr := q91.1;
 let q101 : List Sp.Opd := q92.1;
 let q102 : Nat := q75.toNat;
 let q103 : Sp.Block := q94.getD q102 q16;
 let q104 : Bool := (Sp.nxV (Sp.lp6 x)).tmod q4 == q5;
 let q105 : Prop := True /\ q53;
 let q106 : Prop := q76 /\ q75 = q75;
 let q107 : Prop := q105 /\ q105 /\ (q78 /\ q77 = q77) /\ True;
 let q108 : Int := (Sp.lp5 x).2.1 + q7;
 let q109 : List Sp.Block := Sp.setT (Sp.cB q86) q75 q65;
 let q110 : Sp.Mk := ((Sp.lp5 x).1, q108, Sp.fK q86 q109, ());
 let q111 : Prop := Sp.aG q3 q110;
 let q112 : Prop := inN q75 q109.length;
 let q113 : List Step := Step.snd :: Step.snd :: Step.fst :: Step.snd :: Step.snd :: Step.snd :: Step.snd :: Step.snd :: Step.snd :: Step.snd :: Step.fst :: Step.idx q102 :: ([] : List Step);
 let q114 : List Step := Step.snd :: Step.snd :: Step.fst :: Step.snd :: Step.snd :: Step.snd :: Step.snd :: Step.snd :: Step.snd :: Step.snd :: Step.fst :: Step.idx q102 :: q19;
 let q115 : Sp.Block := q109.getD q102 q16;
 let q116 : Prop := True /\ (q28 /\ q28 /\ q29 /\ q31 /\ q31 /\ q105 /\ q106 /\ True) /\ (True /\ (q112 /\ True /\ True) /\ (q28 /\ q28 /\ q29 /\ q31 /\ q31 /\ q105 /\ q106 /\ (q112 /\ q27 /\ q113 = q113) /\ (True /\ q27 /\ q114 = q114) /\ True) /\ (True /\ True /\ True /\ ((Sp.lp5 x).1, q108 + q7, (q95, q96, q97, q98, q99, q100, q101, q109.set q102 (q115.1, (q1, q5, q13, Sp.eN q110, q13, q63.set q18 q77, ()), q115.2.2), ()), ()) = Sp.lpM x /\ q32) /\ True) /\ True /\ True;
 ∀ (y : Unit), Sp.aG (4000 : Nat) x /\ Sp.has x -> aB (tU8.slice.prod (tI.prod ((tI.prod (tI.prod (tI.prod (tI.prod (tI.prod (cG.slice.prod (bF.slice.prod ((aL.slice.prod ((tI.prod (tI.prod (aQ.prod (aQ.prod (aQ.prod ((Ty.arr q0 tI).prod Ty.unit)))))).prod Ty.unit)).slice.prod Ty.unit)))))))).prod Ty.unit))) x -> True -> ((True /\ True /\ True /\ True /\ True /\ True /\ inK IntKind.i64 q39 /\ inK IntKind.i64 q40 /\ True /\ True) /\ True) /\ ((True /\ True) /\ Sp.aG q3 x /\ q6 /\ inK IntKind.i64 q41 /\ True /\ True) /\ (∃ (x_1 : Unit), True /\ (x.1, x.2.1 + q7, x.2.2) = Sp.nxM x /\ q40 = Sp.lpN x /\ q41 = Sp.lpB x /\ True) /\ ∀ (x_1 : Unit), True -> aB (tU8.slice.prod (tI.prod ((tI.prod (tI.prod (tI.prod (tI.prod (tI.prod (cG.slice.prod (bF.slice.prod ((aL.slice.prod ((tI.prod (tI.prod (aQ.prod (aQ.prod (aQ.prod ((Ty.arr q0 tI).prod Ty.unit)))))).prod Ty.unit)).slice.prod Ty.unit)))))))).prod Ty.unit))) (Sp.nxM x) /\ q44 -> ((True /\ True /\ inK IntKind.i64 q45 /\ q9) /\ True /\ True) /\ (∃ (x_2 : Unit), True /\ (x.1, q46, (x.2.2.1.1, q47, q45, q33), x.2.2.2) = q48 /\ q49 /\ q50 /\ True) /\ ∀ (x_2 : Unit), True -> q51 /\ q44 -> (q11 /\ True) /\ (∃ (x_3 : Unit), True /\ q48 = q48 /\ q49 /\ q50 /\ (↑q36.2.1.length : Int) = Sp.nB x /\ True) /\ ∀ (x_3 : Unit), True -> q51 /\ q52 -> (q10 /\ (Sp.aG q3 q48 /\ Sp.has q48) /\ True) /\ (∃ (x_4 : Unit), True /\ Sp.eB q48 (q7, q5, q5, Sp.cZ (Sp.lpN x), q12, q13, q14) = Sp.lp1 x /\ q54) /\ ∀ (x_4 : Unit), True -> aB (tU8.slice.prod (tI.prod ((tI.prod (tI.prod (tI.prod (tI.prod (tI.prod (cG.slice.prod (bF.slice.prod ((aL.slice.prod ((tI.prod (tI.prod (aQ.prod (aQ.prod (aQ.prod ((Ty.arr q0 tI).prod Ty.unit)))))).prod Ty.unit)).slice.prod Ty.unit)))))))).prod Ty.unit))) (Sp.lp1 x) /\ q52 -> ((True /\ True /\ True /\ True /\ True /\ True /\ inK IntKind.i64 q55 /\ True /\ True /\ True /\ inN q55 q57.length /\ True /\ True) /\ True /\ True) /\ (∃ (x_5 : Unit), True /\ (x.1, q46, (x.2.2.1.1, q47, q45, q58, q59, q60, q37, q57.set q61 (q62.1, q64, q62.2.2), ()), ()) = q66 /\ q54) /\ ∀ (x_5 : Unit), True -> aB (tU8.slice.prod (tI.prod ((tI.prod (tI.prod (tI.prod (tI.prod (tI.prod (cG.slice.prod (bF.slice.prod ((aL.slice.prod ((tI.prod (tI.prod (aQ.prod (aQ.prod (aQ.prod ((Ty.arr q0 tI).prod Ty.unit)))))).prod Ty.unit)).slice.prod Ty.unit)))))))).prod Ty.unit))) q66 /\ q52 -> ((True /\ True /\ True /\ True /\ q11) /\ (↑(q38 + q67.length) : Int) <= maxNew /\ True /\ True /\ True /\ q22 = q22 /\ True) /\ ((True /\ True) /\ Sp.aG q3 q70 /\ True) /\ (∃ (x_6 : Unit), True /\ Sp.fH q70 = Sp.lp2 x /\ q54) /\ ∀ (x_6 : Unit), True -> aB (tU8.slice.prod (tI.prod ((tI.prod (tI.prod (tI.prod (tI.prod (tI.prod (cG.slice.prod (bF.slice.prod ((aL.slice.prod ((tI.prod (tI.prod (aQ.prod (aQ.prod (aQ.prod ((Ty.arr q0 tI).prod Ty.unit)))))).prod Ty.unit)).slice.prod Ty.unit)))))))).prod Ty.unit))) (Sp.lp2 x) /\ q52 -> ((True /\ True /\ q72 /\ q11) /\ (Sp.aG q3 (Sp.lp2 x) /\ Sp.has (Sp.lp2 x)) /\ True) /\ (∃ (x_7 : Unit), True /\ Sp.eB (Sp.lp2 x) (q4, q23, q5, q73, Sp.cZ (Sp.lpN x), q74, q14) = Sp.lp3 x /\ q54) /\ ∀ (x_7 : Unit), True -> aB (tU8.slice.prod (tI.prod ((tI.prod (tI.prod (tI.prod (tI.prod (tI.prod (cG.slice.prod (bF.slice.prod ((aL.slice.prod ((tI.prod (tI.prod (aQ.prod (aQ.prod (aQ.prod ((Ty.arr q0 tI).prod Ty.unit)))))).prod Ty.unit)).slice.prod Ty.unit)))))))).prod Ty.unit))) (Sp.lp3 x) /\ q52 -> ((True /\ True /\ True /\ True /\ True /\ True /\ True /\ q72 /\ True /\ True /\ q76 /\ True /\ q78 /\ True /\ True /\ inN (Sp.nB x) q82.length /\ True /\ True) /\ True /\ True) /\ ((True /\ True) /\ Sp.aG q3 q84 /\ True) /\ (∃ (x_8 : Unit), True /\ Sp.fH q84 = Sp.lp4 x /\ q54) /\ ∀ (x_8 : Unit), True -> aB (tU8.slice.prod (tI.prod ((tI.prod (tI.prod (tI.prod (tI.prod (tI.prod (cG.slice.prod (bF.slice.prod ((aL.slice.prod ((tI.prod (tI.prod (aQ.prod (aQ.prod (aQ.prod ((Ty.arr q0 tI).prod Ty.unit)))))).prod Ty.unit)).slice.prod Ty.unit)))))))).prod Ty.unit))) (Sp.lp4 x) /\ q52 -> (q11 /\ (Sp.aG q3 (Sp.lp4 x) /\ Sp.has (Sp.lp4 x)) /\ True) /\ ((True /\ True) /\ (Sp.aG (4500 : Nat) q85 /\ Sp.has q85) /\ True) /\ (∃ (x_9 : Unit), True /\ Sp.insM q85 = Sp.lp5 x /\ q54) /\ ∀ (x_9 : Unit), True -> aB (tU8.slice.prod (tI.prod ((tI.prod (tI.prod (tI.prod (tI.prod (tI.prod (cG.slice.prod (bF.slice.prod ((aL.slice.prod ((tI.prod (tI.prod (aQ.prod (aQ.prod (aQ.prod ((Ty.arr q0 tI).prod Ty.unit)))))).prod Ty.unit)).slice.prod Ty.unit)))))))).prod Ty.unit))) (Sp.lp5 x) /\ q52 -> ((True /\ True /\ True /\ True /\ True /\ True /\ q76 /\ True /\ True /\ True /\ inN q75 q94.length /\ True /\ True) /\ True /\ True) /\ (∃ (x_10 : Unit), True /\ ((Sp.lp5 x).1, (Sp.lp5 x).2.1, (q95, q96, q97, q98, q99, q100, q101, q94.set q102 (q103.1, q64, q103.2.2), q93.2), (Sp.lp5 x).2.2.2) = Sp.lp6 x /\ q54) /\ ∀ (x_10 : Unit), True -> aB (tU8.slice.prod (tI.prod ((tI.prod (tI.prod (tI.prod (tI.prod (tI.prod (cG.slice.prod (bF.slice.prod ((aL.slice.prod ((tI.prod (tI.prod (aQ.prod (aQ.prod (aQ.prod ((Ty.arr q0 tI).prod Ty.unit)))))).prod Ty.unit)).slice.prod Ty.unit)))))))).prod Ty.unit))) (Sp.lp6 x) /\ q52 -> ((True /\ True) /\ Sp.aG q3 (Sp.lp6 x) /\ q6 /\ True /\ True) /\ (q104 = true -> (True /\ True /\ True /\ True /\ True /\ True /\ q76 /\ True /\ True /\ True /\ q78 /\ True) /\ (q28 /\ q28 /\ q29 /\ q31 /\ q31 /\ q105 /\ q106 /\ q28 /\ q107) /\ (q111 /\ True /\ (q28 /\ q28 /\ q29 /\ q31 /\ q31 /\ q105 /\ q106 /\ q107) /\ (True /\ q116) /\ q8) /\ (True /\ True /\ (q28 /\ q28 /\ q29 /\ q31 /\ q31 /\ q105 /\ q106 /\ q28 /\ True) /\ (q111 /\ q116) /\ q8) /\ q8) /\ (q104 = false -> q110 = Sp.lpM x /\ q32)) := by kernel_rfl
end Go.User
namespace Sp
def bY (s : Mk) : Nat := (cB s.2.2.1).length
theorem dX (s : Mk) (i : Inst) : bY (eB s i) = bY s := by
 show (List.set _ _ _).length = _
 rw [List.length_set]; rfl
theorem lenB_blk (s : Mk) : bY (fH s) = bY s + 1 := by
 show (List.length (_ ++ [blk0])) = _
 rw [List.length_append]; rfl
theorem lenB_wT (s : Mk) (b : Int) (t : Term) : bY (wT s b t) = bY s := by
 show (List.set _ _ _).length = _
 rw [List.length_set]; rfl
theorem lenB_inst (s : Mk) : bY (bV s) = bY s := by
 have hp : ∀ (t : Mk) (p : Bool), bY (plM t p) = bY t := fun t p => dX (nxM (nxM (nxM t))) _
 unfold bV instF
 split
 ·exact dX (nxM (nxM (nxM s))) _
 split
 ·exact dX (nxM (nxM (nxM (nxM (nxM s))))) _
 split
 ·exact dX (nxM (nxM (nxM (nxM s)))) _
 split
 ·exact dX (nxM (nxM (nxM (nxM (nxM s))))) _
 split
 ·exact dX (nxM (nxM (nxM s))) _
 split
 ·exact dX (nxM (nxM (nxM s))) _
 split
 ·exact dX (nxM (nxM s)) _
 split
 ·exact (dX (nxM (nxM (plM (nxM s) false))) _).trans (hp (nxM s) false)
 split
 ·exact (dX (nxM (plM (nxM s) true)) _).trans (hp (nxM s) true)
 ·exact (dX (nxM (plM (nxM s) true)) _).trans (hp (nxM s) true)
theorem lenB_instN : ∀ (k : Nat) (s : Mk), bY (instN k s) = bY s
 | 0, s => rfl
 | k + 1, s => (lenB_instN k (bV s)).trans (lenB_inst s)
theorem lenB_ins (s : Mk) : bY (insM s) = bY s := lenB_instN _ (nxM s)
theorem has_iff {s : Mk} : has s ↔ 0 < bY s := Iff.rfl
theorem aG.wR {n : Nat} {s : Mk} (h : aG n s) (k : Int) : aG n (wR s k) := ⟨h.at0, h.at1, h.arr, h.blk, h.ins, h.lps⟩
theorem aG.wL {n : Nat} {s : Mk} (h : aG n s) (l : Loop) : aG (n + 1) (wL s l) := by
 refine ⟨h.at0, by have := h.at1; show s.2.1 <= ((n + 1 : Nat) : Int); omega, h.arr, Nat.le_succ_of_le h.blk, fun b hb => Nat.le_succ_of_le (h.ins b hb), ?_⟩
 show (List.length (_ ++ [l])) <= n + 1
 rw [List.length_append]; exact Nat.succ_le_succ h.lps
theorem aG.wT {n : Nat} {s : Mk} (h : aG n s) (b : Int) (t : Term) : aG n (wT s b t) := by
 refine ⟨h.at0, h.at1, h.arr, ?_, ?_, h.lps⟩
 ·show (List.set _ _ _).length <= _
  rw [List.length_set]; exact h.blk
 ·intro c hc
  rcases mem_set_cases (show c ∈ List.set _ _ _ from hc) with hc | rfl
  ·exact h.ins c hc
  ·show ((cB s.2.2.1).getD b.toNat blk0).1.length <= n
   rcases Nat.lt_or_ge b.toNat (cB s.2.2.1).length with hl | hl
   ·rw [List.getD_eq_getElem?_getD, List.getElem?_eq_getElem hl]; exact h.ins _ (List.getElem_mem hl)
   ·rw [List.getD_eq_getElem?_getD, List.getElem?_eq_none hl]; exact Nat.zero_le _
theorem aG.instN : ∀ {k n : Nat} {s : Mk}, aG n s -> aG (n + 10 * k) (instN k s)
 | 0, n, s, h => h
 | k + 1, n, s, h => (aG.instN h.inst).mono (by omega)
theorem aG.insM {n : Nat} {s : Mk} (h : aG n s) (hb : ∀ v ∈ s.1, 0 <= v /\ v <= 255) : aG (n + 50) (insM s) := by
 have hv := eO (fM s hb).1 (k := 5) (by decide)
 exact (aG.instN h.nx).mono (by omega)
end Sp
namespace Sp
theorem lp_facts {n : Nat} {s : Mk} (h : aG n s) (hh : has s) (hb : ∀ v ∈ s.1, 0 <= v /\ v <= 255) :
  aG (n + 1) (wR (nxM s) (lpN s + 2)) /\ aG (n + 2) (lp1 s) /\ aG (n + 3) (wL (wT (lp1 s) (nB s - 1) (tJ 1 (nB s) 0)) (nB s, lpN s, lpB s, ())) /\ aG (n + 4) (lp2 s) /\ aG (n + 5) (lp3 s) /\ aG (n + 5) (wT (lp3 s) (nB s) (tB (cZ (lpN s + 1)) (nB s + 1) (nB s + 2))) /\ aG (n + 6) (lp4 s) /\
   aG (n + 7) (eB (lp4 s) (i3 3 10 0 (cZ (lpN s)) (cZ (lpN s)) (conO 1))) /\ aG (n + 57) (lp5 s) /\ aG (n + 57) (lp6 s) := by
 have h1 := (h.nx.wR (lpN s + 2))
 have h2 := h1.put (i3 1 0 0 (cZ (lpN s)) (conO 0) dD)
 have h3 := (h2.wT (nB s - 1) (tJ 1 (nB s) 0)).wL (nB s, lpN s, lpB s, ())
 have h4 := h3.bl
 have h5 := h4.put (i3 3 26 0 (cZ (lpN s + 1)) (cZ (lpN s)) (conO (Go.IntKind.wrap .i32 (lpB s))))
 have h6 := h5.wT (nB s) (tB (cZ (lpN s + 1)) (nB s + 1) (nB s + 2))
 have h7 := h6.bl
 have h8 := h7.put (i3 3 10 0 (cZ (lpN s)) (cZ (lpN s)) (conO 1))
 have h9 := h8.insM hb
 exact ⟨h1, h2, h3, h4, h5, h6, h7, h8, h9, h9.wT _ _⟩
theorem lp_len (s : Mk) : bY (lp1 s) = bY s /\ bY (lp2 s) = bY s + 1 /\ bY (lp3 s) = bY s + 1 /\ bY (lp4 s) = bY s + 2 /\ bY (lp5 s) = bY s + 2 /\ bY (lp6 s) = bY s + 2 := by
 have h1 : bY (lp1 s) = bY s := dX (wR (nxM s) (lpN s + 2)) _
 have h2 : bY (lp2 s) = bY s + 1 := by
  have e : bY (wL (wT (lp1 s) (nB s - 1) (tJ 1 (nB s) 0)) (nB s, lpN s, lpB s, ())) = bY (lp1 s) := lenB_wT (lp1 s) _ _
  unfold lp2;rw [lenB_blk, e, h1]
 have h3 : bY (lp3 s) = bY s + 1 := (dX (lp2 s) _).trans h2
 have h4 : bY (lp4 s) = bY s + 2 := by
  unfold lp4;rw [lenB_blk, lenB_wT, h3]
 have h5 : bY (lp5 s) = bY s + 2 := by
  unfold lp5;rw [lenB_ins, dX, h4]
 exact ⟨h1, h2, h3, h4, h5, (lenB_wT (lp5 s) _ _).trans h5⟩
end Sp
namespace Go.User
open Go.Lf Go.Proofs
set_option maxHeartbeats 4000000 in
set_option maxRecDepth 100000 in
theorem pk48 : POk Try.prog 48 S48 := by
 have hC : ∀ q, aF Try.prog (C48 q) := fun q => okM' q (aE ok54 (aE ok55 aO)) (b9 pk66 (b9 pk49 (b9 pk52 eI))) rfl rfl rfl rfl rfl rfl
 refine POk.introK hC (fun q => stpN_ok (hC q) nums_ok) Try.call48 Try.func48 (fun q => rfl) (by kernel_rfl) L48 K48 ?_
 rw [vc48]
 simp only [zz, zy]
 intro x hM hx
 have hb := dM hx.1
 obtain ⟨hM, hh⟩ := hM
 obtain ⟨m1, m2, m3, m4, m5, m6, m7, m8, m9, m10⟩ := Sp.lp_facts hM hh hb
 obtain ⟨l1, l2, l3, l4, l5, l6⟩ := Sp.lp_len x
 have hl0 : 0 < Sp.bY x := hh
 have hl4 : Sp.bY x <= 4000 := hM.blk
 have hlp : (Sp.cL x.2.2.1).length <= 4000 := hM.lps
 have hv := Sp.eO (Sp.fM x hb).1 (k := 3) (by decide)
 have n0 : Sp.nB x = (Sp.bY x : Int) := rfl
 have p0 : Sp.lpN x = 6 + 2 * ((Sp.cL x.2.2.1).length : Int) := rfl
 have hI : ∀ z : Int, -10 <= z -> z <= 100000 -> inK .i64 z := fun z _ _ => aS (by omega) (by omega)
 have a1 : inK .i64 (Sp.lpN x + 2) := hI _ (by omega) (by omega)
 have a2 : inK .i64 (Sp.lpN x + 1) := hI _ (by omega) (by omega)
 have a3 : inK .i64 (Sp.nB x - 1) := hI _ (by omega) (by omega)
 have a4 : inK .i64 (Sp.nB x + 1) := hI _ (by omega) (by omega)
 have a5 : inK .i64 (Sp.nB x + 2) := hI _ (by omega) (by omega)
 have a6 : inK .i64 (2 * ((Sp.cL x.2.2.1).length : Int)) := hI _ (by omega) (by omega)
 have a7 : inK .i64 (6 + 2 * ((Sp.cL x.2.2.1).length : Int)) := hI _ (by omega) (by omega)
 have a8 : inK .i64 (1 + (Sp.nxV x).tmod 3) := hI _ (by omega) (by omega)
 have a9 : ((x.2.2.1.2.2.2.2.2.2.1.length + 1 : Nat) : Int) <= maxNew := by
  rw [maxNew_eq];have : x.2.2.1.2.2.2.2.2.2.1.length <= 4000 := hlp;omega
 have b0 : Sp.aG 5000 x := hM.mono (by decide)
 have b1 : Sp.aG 5000 (Sp.wR (Sp.nxM x) (Sp.lpN x + 2)) := m1.mono (by decide)
 have b3 : Sp.aG 5000 (Sp.wL (Sp.wT (Sp.lp1 x) (Sp.nB x - 1) (Sp.tJ 1 (Sp.nB x) 0)) (Sp.nB x, Sp.lpN x, Sp.lpB x, ())) := m3.mono (by decide)
 have b4 : Sp.aG 5000 (Sp.lp2 x) := m4.mono (by decide)
 have b6 : Sp.aG 5000 (Sp.wT (Sp.lp3 x) (Sp.nB x) (Sp.tB (Sp.cZ (Sp.lpN x + 1)) (Sp.nB x + 1) (Sp.nB x + 2))) := m6.mono (by decide)
 have b7 : Sp.aG 5000 (Sp.lp4 x) := m7.mono (by decide)
 have b8 : Sp.aG 4500 (Sp.eB (Sp.lp4 x) (Sp.i3 3 10 0 (Sp.cZ (Sp.lpN x)) (Sp.cZ (Sp.lpN x)) (Sp.conO 1))) := m8.mono (by decide)
 have b10 : Sp.aG 5000 (Sp.lp6 x) := m10.mono (by decide)
 have b11 : Sp.aG 5000 (Sp.nxM (Sp.lp6 x)) := m10.nx.mono (by decide)
 have e1 : Sp.has (Sp.wR (Sp.nxM x) (Sp.lpN x + 2)) := hh
 have e2 : Sp.has (Sp.lp2 x) := Sp.has_iff.2 (by omega)
 have e4 : Sp.has (Sp.lp4 x) := Sp.has_iff.2 (by omega)
 have e5 : Sp.has (Sp.eB (Sp.lp4 x) (Sp.i3 3 10 0 (Sp.cZ (Sp.lpN x)) (Sp.cZ (Sp.lpN x)) (Sp.conO 1))) := e4.put _
 have i1 : inN (Sp.nB x - 1) (Sp.bY (Sp.lp1 x)) := ⟨by omega, by omega⟩
 have i3 : inN (Sp.nB x) (Sp.bY (Sp.lp3 x)) := ⟨by omega, by omega⟩
 have i5 : inN (Sp.nB x + 1) (Sp.bY (Sp.lp5 x)) := ⟨by omega, by omega⟩
 have i6 : inN (Sp.nB x + 1) (Sp.bY (Sp.lp6 x)) := ⟨by omega, by omega⟩
 clear hM m1 m2 m3 m4 m5 m6 m7 m8 m9 m10 l1 l2 l3 l4 l5 l6 hI hb
 refine ⟨⟨a6, a7⟩, ⟨b0, by decide, a8⟩, ⟨(), rfl, rfl, rfl⟩, fun _ => ⟨a1, ⟨(), rfl⟩, fun _ => ⟨⟨(), rfl⟩, fun _ => ⟨⟨b1, e1⟩, ⟨(), rfl⟩, fun _ => ⟨⟨a3, i1⟩, ⟨(), rfl⟩, fun _ => ?_⟩⟩⟩⟩⟩
 refine ⟨a9, b3, ⟨(), rfl⟩, fun _ => ⟨⟨a2, b4, e2⟩, ⟨(), rfl⟩, fun _ => ?_⟩⟩
 refine ⟨⟨a2, a4, a5, i3⟩, b6, ⟨(), rfl⟩, fun _ => ⟨⟨b7, e4⟩, ⟨b8, e5⟩, ⟨(), rfl⟩, fun _ => ⟨⟨a4, i5⟩, ⟨(), rfl⟩, fun _ => ⟨⟨b10, by decide⟩, fun g => ?_, fun g => ?_⟩⟩⟩⟩
 ·have E : ∀ A, A = Sp.wT (Sp.nxM (Sp.nxM (Sp.lp6 x))) (Sp.nB x + 1) (Sp.tB (Sp.eN (Sp.nxM (Sp.lp6 x))) (Sp.nB x) (Sp.nB x + 2)) -> A = Sp.lpM x := by
   rintro A rfl
   unfold Sp.lpM;rw [if_pos g]
  refine ⟨⟨a4, a5⟩, ⟨a4, a5⟩, ?_⟩
  repeat' first | exact a4 | exact a5 | exact i6 | exact b11 | exact E _ rfl | constructor
 ·show _ = Sp.lpM x
  unfold Sp.lpM;rw [if_neg g]
  rfl
end Go.User
