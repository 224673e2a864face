/- Made: what it returns is its caller's own. The reference's valid tests are the program's: plain facts. The number of operations of a test: plain facts. The low bits of a number: plain facts. ViewRefuses: what is computed. Written by gen.py: what is left to show of each function. ViewRefuses answers true. The law ViewRefuses. -/
import Derived.Test.YthhclebbpbkgdaaLfk
set_option linter.unusedVariables false
set_option linter.unusedSimpArgs false
namespace Go.User
open Go.Lf Go.Proofs
set_option maxRecDepth 100000 in
theorem ok12o : FOk Try.prog 12 S12o := by
  have hC : CtxOK Try.prog C12o := okC fns_nil rfl rfl rfl rfl rfl rfl rfl
  refine FOk.intro hC (stpS_ok hC) Try.call12 Try.func12 (by kernel_rfl) (by kernel_rfl) L12o (vc12o.mpr ?_)
  simp only [z1, z2, z3, z4, z5, z6, z7, z8, z9, z10, z11, z12, z13, z14, z15, z16, z17, z18, z19, z20, z21, z22, z23, z24, z25, z26, z27, z28, z29, z30, z31, z32, z33, z34, z35, z36, z37, z38]
  rintro ⟨x, n, u⟩ h _
  obtain ⟨h0, h6⟩ : 0 ≤ n ∧ n ≤ 6 := h
  have hmx : maxNew = 2147483648 := rfl
  have hmT : Sp.mT x n = min x.length n.toNat := rfl
  refine ⟨⟨0, Nat.zero_le _, rfl, rfl⟩, fun i hi _ => ⟨fun hlt => ?_, fun hge => ?_⟩⟩
  · obtain ⟨hl1, hl2⟩ := hlt
    have hl1 : (i : Int) < (x.length : Int) := hl1
    have hl2 : (i : Int) < n := hl2
    have hB : ∀ j, (x.getD i (List.replicate 4 0)).getD j 0 = Sp.mB x i j := by
      intro j; unfold Sp.mB; rw [Pl.getD_at (show i < x.length by omega), Pl.getD_at (show i < x.length by omega)]
    have hin : inN (i : Int) x.length := ⟨by omega, hl1⟩
    have hc4 := Sp.mC_lt x i
    have hNl := Sp.mN_len x i
    have hNe := Sp.mN_el x i
    have hcE : (x.getD i (List.replicate 4 0)).getD 0 0 % 4 = ((Sp.mC x i : Nat) : Int) := by rw [hB]; unfold Sp.mC; omega
    refine ⟨⟨hin, ⟨by omega, by omega⟩, by omega⟩, ⟨0, Nat.zero_le _, ?_⟩, fun j hj _ => ⟨fun hle => ⟨?_, j + 1, ?_, ?_, ?_⟩, fun hgt => ?_⟩⟩
    · show (Sp.mN x i, ()) = (Sp.mG x i 0, ())
      unfold Sp.mG; rw [List.replicate_zero, List.append_nil]
    · have hj : j ≤ Sp.mC x i + 1 - (Sp.mN x i).length := hj
      show (((Sp.mG x i j).length + 1 : Nat) : Int) ≤ maxNew
      rw [Sp.mG_len]; omega
    · have hle : ((Sp.mG x i j).length : Int) ≤ (x.getD i (List.replicate 4 0)).getD 0 0 % 4 := hle
      rw [hcE, Sp.mG_len] at hle
      show j + 1 ≤ Sp.mC x i + 1 - (Sp.mN x i).length; omega
    · have hle : ((Sp.mG x i j).length : Int) ≤ (x.getD i (List.replicate 4 0)).getD 0 0 % 4 := hle
      rw [hcE, Sp.mG_len] at hle
      show Sp.mC x i + 1 - (Sp.mN x i).length - (j + 1) < Sp.mC x i + 1 - (Sp.mN x i).length - j; omega
    · show (Sp.mG x i j ++ [[]], ()) = (Sp.mG x i (j + 1), ())
      rw [Sp.mG_succ]
    · have hj : j ≤ Sp.mC x i + 1 - (Sp.mN x i).length := hj
      have hgt : (x.getD i (List.replicate 4 0)).getD 0 0 % 4 < ((Sp.mG x i j).length : Int) := hgt
      rw [hcE, Sp.mG_len] at hgt
      have hG : Sp.mG x i j = Sp.gro (Sp.mN x i) (Sp.mC x i) := by
        unfold Sp.mG Sp.gro
        rw [show j = Sp.mC x i + 1 - (Sp.mN x i).length from by omega]
      have hGl : Sp.mC x i < (Sp.gro (Sp.mN x i) (Sp.mC x i)).length := by rw [Sp.gro_len]; omega
      have hGe := Sp.getD_el (Sp.gro_el (c := Sp.mC x i) hNe) (Sp.mC x i)
      have hk : ∀ op, op = Sp.mOp x i → inK .i64 ((i : Int) + 1) ∧ ∃ y, y ≤ Sp.mT x n ∧ Sp.mT x n - y < Sp.mT x n - i ∧ (i : Int) + 1 = (y : Int) ∧ ((Sp.mG x i j).set ((x.getD i (List.replicate 4 0)).getD 0 0 % 4).toNat ((Sp.mG x i j).getD ((x.getD i (List.replicate 4 0)).getD 0 0 % 4).toNat [] ++ [op]), ()) = (Sp.mN x y, ()) := by
        rintro op rfl
        refine ⟨inK_mid (by omega) (by omega), i + 1, by omega, by omega, by omega, ?_⟩
        rw [hcE, Int.toNat_natCast, hG]; rfl
      have hq : inN ((x.getD i (List.replicate 4 0)).getD 0 0 % 4) (Sp.mG x i j).length ∧ (((0 + ((Sp.mG x i j).getD ((x.getD i (List.replicate 4 0)).getD 0 0 % 4).toNat []).length : Nat) : Int)) ≤ maxNew ∧ (((((Sp.mG x i j).getD ((x.getD i (List.replicate 4 0)).getD 0 0 % 4).toNat []).length + 1 : Nat) : Int)) ≤ maxNew ∧ inN ((x.getD i (List.replicate 4 0)).getD 0 0 % 4) (Sp.mG x i j).length := by
        rw [hcE, Int.toNat_natCast, hG]
        exact ⟨⟨by omega, by omega⟩, by omega, by omega, ⟨by omega, by omega⟩⟩
      have hK : [1, 2, 1, 2, 3, 4].getD ((x.getD i (List.replicate 4 0)).getD 1 0 % 6).toNat 0 = Sp.mK x i := by rw [hB]; rfl
      refine ⟨⟨hin, ⟨by omega, by omega⟩, by omega, ⟨by omega, ?_⟩, hin, ⟨by omega, by omega⟩, by omega, hin, ⟨by omega, by omega⟩, by omega, inK_mid (by omega) (by omega)⟩, fun hor => ⟨fun h4 => ⟨hq, hk _ ?_⟩, fun h4 => ⟨hq, hk _ ?_⟩⟩, fun hor => ⟨fun h4 => absurd h4 hor.2, fun h4 => ⟨hq, hk _ ?_⟩⟩⟩
      · show (x.getD i (List.replicate 4 0)).getD 1 0 % 6 < ((6 : Nat) : Int); omega
      · have h4 : Sp.mK x i = 4 := hK ▸ h4
        unfold Sp.mOp Sp.mX Sp.mV
        rw [if_pos h4, if_pos (.inr h4), ← hK]; rfl
      · have h4 : ¬ Sp.mK x i = 4 := hK ▸ h4
        have h1 : Sp.mK x i = 1 := by
          have hor : (Sp.mK x i == 1 || Sp.mK x i == 4) = true := hK ▸ hor
          simp only [Bool.or_eq_true, beq_iff_eq] at hor
          exact hor.resolve_right h4
        unfold Sp.mOp Sp.mX Sp.mV
        rw [if_neg h4, if_pos (.inl h1), ← hK, ← hB]; rfl
      · have h4 : ¬ Sp.mK x i = 4 := hK ▸ h4
        have h1 : ¬ Sp.mK x i = 1 := hK ▸ hor.1
        unfold Sp.mOp Sp.mX Sp.mV
        rw [if_neg h4, if_neg (fun h => h.elim h1 h4), ← hK, ← hB, ← hB]; try rfl
  · have hi : i ≤ Sp.mT x n := hi
    have hge : (decide ((i : Int) < (x.length : Int)) && decide ((i : Int) < n)) = false := hge
    have he : i = Sp.mT x n := by
      rw [Bool.and_eq_false_iff, decide_eq_false_iff_not, decide_eq_false_iff_not] at hge
      omega
    subst he
    refine ⟨fun hz => ?_, fun hz => ?_⟩
    · have hz : (((Sp.mN x (Sp.mT x n)).length : Nat) : Int) = 0 := hz
      have hnil : Sp.mN x (Sp.mT x n) = [] := List.eq_nil_of_length_eq_zero (by omega)
      show ([[(1, 0, 0, ())]], ()) = Sp.made x n
      unfold Sp.made Sp.madeP; rw [if_pos hnil]
    · have hz : ¬ (((Sp.mN x (Sp.mT x n)).length : Nat) : Int) = 0 := hz
      have hnil : ¬ Sp.mN x (Sp.mT x n) = [] := fun h => hz (by rw [h]; rfl)
      show (Sp.mN x (Sp.mT x n), ()) = Sp.made x n
      unfold Sp.made Sp.madeP; rw [if_neg hnil]
end Go.User
namespace Sp
theorem okO_iff (o : LOp) : okO o = true ↔ usual o = true := by
  unfold okO usual
  obtain ⟨k, X, V, u⟩ := o
  have e1 : (k == 4 && X != 0) = decide (k = 4 ∧ X ≠ 0) := by
    by_cases h1 : k = 4 <;> by_cases h2 : X = 0 <;> simp [h1, h2]
  have e2 : ((k == 4 || k == 1) && V != 0) = decide ((k = 4 ∨ k = 1) ∧ V ≠ 0) := by
    by_cases h1 : k = 4 <;> by_cases h2 : k = 1 <;> by_cases h3 : V = 0 <;> simp [h1, h2, h3]
  simp only [e1, e2]
  by_cases h1 : k = 1
  · rw [if_pos h1]; simp only [Bool.and_eq_true, decide_eq_true_eq, Bool.not_eq_true', decide_eq_false_iff_not]; omega
  · rw [if_neg h1]
    by_cases h2 : k = 2 ∨ k = 3
    · rw [if_pos h2]; simp only [Bool.and_eq_true, decide_eq_true_eq, Bool.not_eq_true', decide_eq_false_iff_not]; omega
    · rw [if_neg h2]; simp only [Bool.and_eq_true, decide_eq_true_eq, Bool.not_eq_true', decide_eq_false_iff_not]; omega
theorem validR_eq (t : Lit) : validR t = valid t := by
  rw [Bool.eq_iff_iff, valid_iff]
  unfold validR okN
  rw [List.take_length]
  simp only [Bool.and_eq_true, decide_eq_true_eq, List.all_eq_true]
  constructor
  · rintro ⟨⟨⟨⟨h1, h2⟩, h3⟩, h4⟩, h5⟩
    exact ⟨h3, h4, h5, h1, fun o ho => (okO_iff o).1 (h2 o ho)⟩
  · rintro ⟨h3, h4, h5, h1, h2⟩
    exact ⟨⟨⟨⟨h1, fun o ho => (okO_iff o).2 (h2 o ho)⟩, h3⟩, h4⟩, h5⟩
theorem errA_eq (t : Lit) : errA t = if validR t = true then 0 else 300 := by rw [validR_eq]; rfl
end Sp
namespace Sp
theorem total_cons (l : List LOp) (P : List (List LOp)) : total (l :: P) = l.length + total P := by unfold total; simp
theorem total_set : ∀ (P : List (List LOp)) (c : Nat) (l : List LOp), c < P.length → total (P.set c l) + (P.getD c []).length = total P + l.length
  | p :: P, 0, l, _ => by
    rw [List.set_cons_zero, total_cons, total_cons]
    show _ + p.length = _
    omega
  | p :: P, c + 1, l, h => by
    rw [List.set_cons_succ, total_cons, total_cons]
    have := total_set P c l (by simpa using h)
    show _ + (P.getD c []).length = _
    omega
theorem total_le {n : Nat} : ∀ {P : List (List LOp)}, (∀ l ∈ P, l.length ≤ n) → total P ≤ P.length * n
  | [], _ => by show 0 ≤ _; omega
  | p :: P, h => by
    rw [total_cons, List.length_cons, Nat.succ_mul]
    have h1 := h p (by simp)
    have h2 := total_le fun l hl => h l (List.mem_cons_of_mem _ hl)
    omega
theorem total_app (P Q : List (List LOp)) : total (P ++ Q) = total P + total Q := by unfold total; rw [List.map_append, List.sum_append]
theorem total_gro (P : List (List LOp)) (c : Nat) : total (gro P c) = total P := by
  unfold gro
  rw [total_app]
  have : ∀ n, total (List.replicate n ([] : List LOp)) = 0 := by
    intro n; unfold total; rw [List.map_replicate]; simp
  rw [this]; rfl
theorem total_mN (x : List (List Int)) : ∀ i, total (mN x i) = i
  | 0 => rfl
  | i + 1 => by
    show total (mPut (mN x i) (mC x i) (mOp x i)) = i + 1
    unfold mPut
    have h := total_set (gro (mN x i) (mC x i)) (mC x i) ((gro (mN x i) (mC x i)).getD (mC x i) [] ++ [mOp x i]) (by rw [gro_len]; omega)
    rw [total_gro, total_mN x i, List.length_append] at h
    simp only [List.length_singleton] at h
    omega
theorem total_made {x : List (List Int)} {n : Int} (h0 : 1 ≤ n) (h6 : n ≤ 6) : 1 ≤ total (madeP x n) ∧ total (madeP x n) ≤ 6 ∧ 1 ≤ (madeP x n).length ∧ (madeP x n).length ≤ 4 := by
  unfold madeP
  split
  · exact ⟨by decide, by decide, by decide, by decide⟩
  · rename_i hn
    have ht := total_mN x (mT x n)
    have hl := mN_len x (mT x n)
    have hm : mT x n ≤ 6 := by unfold mT; omega
    have hp : 1 ≤ (mN x (mT x n)).length := by
      cases h : mN x (mT x n) with
      | nil => exact absurd h hn
      | cons a l => simp
    refine ⟨?_, by omega, hp, hl⟩
    rw [ht]
    refine Classical.byContradiction fun h => hn ?_
    have : mT x n = 0 := by omega
    rw [this]; rfl
end Sp
namespace Sp
def low (z : Int) : Int := Go.IntKind.i64.wrap ((BitVec.ofInt 64 z &&& BitVec.ofInt 64 3).toNat : Int)
theorem low_in (z : Int) : 0 ≤ low z ∧ low z ≤ 3 := by
  unfold low
  have h : (BitVec.ofInt 64 z &&& BitVec.ofInt 64 3).toNat ≤ 3 := by
    rw [BitVec.toNat_and]
    exact Nat.le_trans Nat.and_le_right (by decide)
  rw [Pl.wrap_in (by omega) (by omega)]
  omega
theorem tmod_in {a : Int} {n : Nat} (h0 : 0 ≤ a) (hn : 1 ≤ n) : Go.Lf.inN (a.tmod (n : Int)) n := by
  rw [Int.tmod_eq_emod_of_nonneg h0]
  exact ⟨Int.emod_nonneg _ (by omega), Int.emod_lt_of_pos _ (by omega)⟩
end Sp
namespace Go.User
open Go.Lf
def S6 : FSpec := { args := [.val tLit, .val tRaw, .val (.arr 4 tI)], multi := false, res := .bool, mode := .shr, pre := fun _ => True, fn := fun _ => true }
def C6 : Ctx := { mkS 146 [(11, S11), (12, S12o), (13, S13), (19, S19), (20, S20)] with mds := [(9, mL2)], fzs := [9] }
def L6 (x : kdens S6.args) : List LoopI := [
  { ι := Nat, inv := fun c => c ≤ List.length x.1.1 ∧ ∀ l ∈ List.take c x.1.1, List.length l ≤ 8, dec := fun c => List.length x.1.1 - c, ovr := fun c => [(8, .shr tI (c : Int))], keep := [1, 3, 5, 6, 7] }]
end Go.User
namespace Go.User
open Go.Proofs Go.Lf
set_option maxRecDepth 100000
theorem vc6 : (funI C6 (stpS C6) S6 L6 Try.f6) = (
let q0 : Nat := (4 : Nat);
let q1 : Prop := True ∧ True ∧ True;
let q2 : Prop := True ∧ q1;
let q3 : Prop := q1 ∧ True;
let q4 : Prop := (True ∧ True) ∧ True;
let q5 : Prop := True ∧ q2;
let q6 : Prop := q3 ∧ Sp.exOK = true;
let q7 : Int := (0 : Int);
let q8 : Prop := false = false ∧ Sp.exOK = Sp.exOK ∧ True;
let q9 : Int := (1 : Int);
let q10 : Int := (3 : Int);
let q11 : Nat := (64 : Nat);
let q12 : Nat := q7.toNat;
let q13 : Nat := q9.toNat;
let q14 : Int := (2 : Int);
let q15 : Prop := (inN q14 q0 ∧ q2) ∧ True;
let q16 : Nat := q14.toNat;
let q17 : Prop := (inN q10 q0 ∧ q1) ∧ True ∧ True;
let q18 : Nat := (1000 : Nat);
let q19 : Nat := q10.toNat;
let q20 : Int × Int × Int × Unit := (q7, q7, q7, ());
let q21 : Int := (300 : Int);
∀ (x : (List (List (Int × Int × Int × Unit)) × Unit) × List (List Int) × List Int × Unit),
  let q22 : Nat := x.1.1.length;
  let q23 : Int := (↑q22 : Int);
  let q24 : Bool := decide (q23 > (6 : Int));
  let q25 : Prop := x.2.1 = x.2.1 ∧ x.1 = x.1 ∧ x.2.2.1 = x.2.2.1 ∧ q8;
  let q26 : List (List (Int × Int × Int × Unit)) := Sp.madeP x.2.1 q10;
  let q27 : Nat := q26.length;
  let q28 : Int := (↑q27 : Int);
  let q29 : Int := (IntKind.i64.wrap (↑(BitVec.ofInt q11 (x.2.2.1.getD q12 q7) &&& BitVec.ofInt q11 q10).toNat : Int)).tmod q28;
  let q30 : Prop := inN q29 q27;
  let q31 : Nat := q29.toNat;
  let q32 : List (Int × Int × Int × Unit) := q26.getD q31 (([] : List tLOp.den));
  let q33 : Nat := q32.length;
  let q34 : Int := (↑q33 : Int);
  let q35 : Bool := decide (q34 > q7);
  let q36 : Int := (IntKind.i64.wrap (↑(BitVec.ofInt q11 (x.2.2.1.getD q13 q7) &&& BitVec.ofInt q11 q10).toNat : Int)).tmod q34;
  let q37 : Prop := inN q36 q33;
  let q38 : Int := IntKind.i64.wrap (↑(BitVec.ofInt q11 (x.2.2.1.getD q16 q7) &&& BitVec.ofInt q11 q10).toNat : Int);
  let q39 : Bool := q38 == q7;
  let q40 : Bool := q38 == q9;
  let q41 : Prop := q40 = true;
  let q42 : Bool := decide (q38 > q9);
  let q43 : Prop := q42 = true;
  let q44 : Prop := (True ∧ True ∧ True ∧ q30 ∧ True ∧ True ∧ True ∧ q37 ∧ True) ∧ True ∧ True;
  let q45 : Prop := Sp.total x.1.1 ≤ q18;
  let q46 : Prop := (True ∧ q45 ∧ q5) ∧ q1;
  let q47 : Nat := q36.toNat;
  let q48 : Int := x.2.2.1.getD q19 q7;
  let q49 : Int × Int × Int × Unit := q32.getD q47 q20;
  let q50 : Int × Int × Unit := q49.2;
  let q51 : Int × Unit := q50.2;
  let q52 : Int × Unit := (q48, q51.2);
  let q53 : Int × Int × Unit := (q48, q52);
  let q54 : List (List (Int × Int × Int × Unit)) := q26.set q31 (q32.set q47 (q48, q53));
  let q55 : Prop := Sp.total q54 ≤ q18;
  let q56 : Bool := Sp.errA x.1 == q7;
  let q57 : Bool := q56 == Sp.validR x.1;
  let q58 : Prop := (true && bif q57 then true else false) = true;
  let q59 : Prop := q58 → True;
  let q60 : List (List (Int × Int × Int × Unit)) × Unit := (q54, ());
  let q61 : Int := Sp.errA q60;
  let q62 : Bool := Sp.validR q60;
  let q63 : Bool := bif q57 then (q61 == q7) == q62 else false;
  let q64 : Bool := true && bif q63 then true else false;
  let q65 : Prop := q64 = true → True;
  let q66 : Bool := bif q56 then false else true;
  let q67 : Prop := (q64 && q66) = true → True;
  let q68 : Bool := bif q56 then true else Sp.errA x.1 == q21;
  let q69 : Bool := bif q63 then q68 else false;
  let q70 : Bool := true && bif q69 then true else false;
  let q71 : Prop := q70 = true;
  let q72 : Prop := q71 → True;
  let q73 : Prop := (q70 && bif q62 then false else true) = true;
  let q74 : Prop := q73 → True;
  let q75 : Bool := bif q69 then bif q62 then true else q61 == q21 else false;
  let q76 : Prop := q42 = false;
  let q77 : Int × Int × Unit := (q48, q51);
  let q78 : List (List (Int × Int × Int × Unit)) := q26.set q31 (q32.set q47 (q48, q77));
  let q79 : Prop := Sp.total q78 ≤ q18;
  let q80 : List (List (Int × Int × Int × Unit)) × Unit := (q78, ());
  let q81 : Int := Sp.errA q80;
  let q82 : Bool := Sp.validR q80;
  let q83 : Bool := bif q57 then (q81 == q7) == q82 else false;
  let q84 : Bool := true && bif q83 then true else false;
  let q85 : Prop := q84 = true → True;
  let q86 : Prop := (q84 && q66) = true → True;
  let q87 : Bool := bif q83 then q68 else false;
  let q88 : Bool := true && bif q87 then true else false;
  let q89 : Prop := q88 = true;
  let q90 : Prop := q89 → True;
  let q91 : Prop := (q88 && bif q82 then false else true) = true;
  let q92 : Prop := q91 → True;
  let q93 : Bool := bif q87 then bif q82 then true else q81 == q21 else false;
  let q94 : Prop := q40 = false;
  let q95 : Int × Int × Unit := (q50.1, q52);
  let q96 : List (List (Int × Int × Int × Unit)) := q26.set q31 (q32.set q47 (q48, q95));
  let q97 : Prop := Sp.total q96 ≤ q18;
  let q98 : List (List (Int × Int × Int × Unit)) × Unit := (q96, ());
  let q99 : Int := Sp.errA q98;
  let q100 : Bool := Sp.validR q98;
  let q101 : Bool := bif q57 then (q99 == q7) == q100 else false;
  let q102 : Bool := true && bif q101 then true else false;
  let q103 : Prop := q102 = true → True;
  let q104 : Prop := (q102 && q66) = true → True;
  let q105 : Bool := bif q101 then q68 else false;
  let q106 : Bool := true && bif q105 then true else false;
  let q107 : Prop := q106 = true;
  let q108 : Prop := q107 → True;
  let q109 : Prop := (q106 && bif q100 then false else true) = true;
  let q110 : Prop := q109 → True;
  let q111 : Bool := bif q105 then bif q100 then true else q99 == q21 else false;
  let q112 : List (List (Int × Int × Int × Unit)) := q26.set q31 (q32.set q47 (q48, q50));
  let q113 : Prop := Sp.total q112 ≤ q18;
  let q114 : List (List (Int × Int × Int × Unit)) × Unit := (q112, ());
  let q115 : Int := Sp.errA q114;
  let q116 : Bool := Sp.validR q114;
  let q117 : Bool := bif q57 then (q115 == q7) == q116 else false;
  let q118 : Bool := true && bif q117 then true else false;
  let q119 : Prop := q118 = true → True;
  let q120 : Prop := (q118 && q66) = true → True;
  let q121 : Bool := bif q117 then q68 else false;
  let q122 : Bool := true && bif q121 then true else false;
  let q123 : Prop := q122 = true;
  let q124 : Prop := q123 → True;
  let q125 : Prop := (q122 && bif q116 then false else true) = true;
  let q126 : Prop := q125 → True;
  let q127 : Bool := bif q121 then bif q116 then true else q115 == q21 else false;
  let q128 : Int := q49.1;
  let q129 : List (List (Int × Int × Int × Unit)) := q26.set q31 (q32.set q47 (q128, q53));
  let q130 : Prop := Sp.total q129 ≤ q18;
  let q131 : List (List (Int × Int × Int × Unit)) × Unit := (q129, ());
  let q132 : Int := Sp.errA q131;
  let q133 : Bool := Sp.validR q131;
  let q134 : Bool := bif q57 then (q132 == q7) == q133 else false;
  let q135 : Bool := true && bif q134 then true else false;
  let q136 : Prop := q135 = true → True;
  let q137 : Prop := (q135 && q66) = true → True;
  let q138 : Bool := bif q134 then q68 else false;
  let q139 : Bool := true && bif q138 then true else false;
  let q140 : Prop := q139 = true;
  let q141 : Prop := q140 → True;
  let q142 : Prop := (q139 && bif q133 then false else true) = true;
  let q143 : Prop := q142 → True;
  let q144 : Bool := bif q138 then bif q133 then true else q132 == q21 else false;
  let q145 : List (List (Int × Int × Int × Unit)) := q26.set q31 (q32.set q47 (q128, q77));
  let q146 : Prop := Sp.total q145 ≤ q18;
  let q147 : List (List (Int × Int × Int × Unit)) × Unit := (q145, ());
  let q148 : Int := Sp.errA q147;
  let q149 : Bool := Sp.validR q147;
  let q150 : Bool := bif q57 then (q148 == q7) == q149 else false;
  let q151 : Bool := true && bif q150 then true else false;
  let q152 : Prop := q151 = true → True;
  let q153 : Prop := (q151 && q66) = true → True;
  let q154 : Bool := bif q150 then q68 else false;
  let q155 : Bool := true && bif q154 then true else false;
  let q156 : Prop := q155 = true;
  let q157 : Prop := q156 → True;
  let q158 : Prop := (q155 && bif q149 then false else true) = true;
  let q159 : Prop := q158 → True;
  let q160 : Bool := bif q154 then bif q149 then true else q148 == q21 else false;
  let q161 : List (List (Int × Int × Int × Unit)) := q26.set q31 (q32.set q47 (q128, q95));
  let q162 : Prop := Sp.total q161 ≤ q18;
  let q163 : List (List (Int × Int × Int × Unit)) × Unit := (q161, ());
  let q164 : Int := Sp.errA q163;
  let q165 : Bool := Sp.validR q163;
  let q166 : Bool := bif q57 then (q164 == q7) == q165 else false;
  let q167 : Bool := true && bif q166 then true else false;
  let q168 : Prop := q167 = true → True;
  let q169 : Prop := (q167 && q66) = true → True;
  let q170 : Bool := bif q166 then q68 else false;
  let q171 : Bool := true && bif q170 then true else false;
  let q172 : Prop := q171 = true;
  let q173 : Prop := q172 → True;
  let q174 : Prop := (q171 && bif q165 then false else true) = true;
  let q175 : Prop := q174 → True;
  let q176 : Bool := bif q170 then bif q165 then true else q164 == q21 else false;
  let q177 : List (List (Int × Int × Int × Unit)) := q26.set q31 (q32.set q47 q49);
  let q178 : Prop := Sp.total q177 ≤ q18;
  let q179 : List (List (Int × Int × Int × Unit)) × Unit := (q177, ());
  let q180 : Int := Sp.errA q179;
  let q181 : Bool := Sp.validR q179;
  let q182 : Bool := bif q57 then (q180 == q7) == q181 else false;
  let q183 : Bool := true && bif q182 then true else false;
  let q184 : Prop := q183 = true → True;
  let q185 : Prop := (q183 && q66) = true → True;
  let q186 : Bool := bif q182 then q68 else false;
  let q187 : Bool := true && bif q186 then true else false;
  let q188 : Prop := q187 = true;
  let q189 : Prop := q188 → True;
  let q190 : Prop := (q187 && bif q181 then false else true) = true;
  let q191 : Prop := q190 → True;
  let q192 : Bool := bif q186 then bif q181 then true else q180 == q21 else false;
  let q193 : Prop := Sp.total q26 ≤ q18;
  let q194 : List (List (Int × Int × Int × Unit)) × Unit := Sp.made x.2.1 q10;
  let q195 : Int := Sp.errA q194;
  let q196 : Bool := Sp.validR q194;
  let q197 : Bool := bif q57 then (q195 == q7) == q196 else false;
  let q198 : Bool := true && bif q197 then true else false;
  let q199 : Prop := q198 = true → True;
  let q200 : Prop := (q198 && q66) = true → True;
  let q201 : Bool := bif q197 then q68 else false;
  let q202 : Bool := true && bif q201 then true else false;
  let q203 : Prop := q202 = true;
  let q204 : Prop := q203 → True;
  let q205 : Prop := (q202 && bif q196 then false else true) = true;
  let q206 : Prop := q205 → True;
  let q207 : Bool := bif q201 then bif q196 then true else q195 == q21 else false;
  True →
    dFact (((Ty.int IntKind.i64).prod ((Ty.int IntKind.i64).prod ((Ty.int IntKind.i64).prod Ty.unit))).slice.slice.prod Ty.unit) x.1 ∧ dFact (Ty.arr q0 (Ty.int IntKind.u8)).slice x.2.1 ∧ dFact (Ty.arr q0 (Ty.int IntKind.i64)) x.2.2.1 ∧ True →
      (q2 ∧ True) ∧
        q3 ∧
          q3 ∧
            ((!Sp.exOK) = true → q4 ∧ false = true) ∧
              ((!Sp.exOK) = false →
                (q5 ∧ True) ∧
                  (q24 = true → q6) ∧
                    (q24 = false →
                      q4 ∧
                        (∃ (x_1 : Nat), (x_1 ≤ q22 ∧ ∀ (l : List (Int × Int × Int × Unit)), l ∈ List.take x_1 x.1.1 → l.length ≤ (8 : Nat)) ∧ q7 = (↑x_1 : Int) ∧ q25) ∧
                          ∀ (x_1 : Nat),
                            let q208 : Bool := decide ((↑x_1 : Int) < q23);
                            let q209 : Bool := decide ((↑(List.length (x.1.1.getD (↑x_1 : Int).toNat (([] : List tLOp.den)))) : Int) > (8 : Int));
                            let q210 : Int := (↑x_1 : Int) + q9;
                            (x_1 ≤ q22 ∧ ∀ (l : List (Int × Int × Int × Unit)), l ∈ List.take x_1 x.1.1 → l.length ≤ (8 : Nat)) → dFact (Ty.int IntKind.i64) (↑x_1 : Int) ∧ True → ((True ∧ q5) ∧ True) ∧ (q208 = true → ((True ∧ True ∧ True ∧ inN (↑x_1 : Int) q22 ∧ q2) ∧ True) ∧ (q209 = true → q6) ∧ (q209 = false → ((True ∧ inK IntKind.i64 q210 ∧ True ∧ True) ∧ True) ∧ ∃ (y : Nat), (y ≤ q22 ∧ ∀ (l : List (Int × Int × Int × Unit)), l ∈ List.take y x.1.1 → l.length ≤ (8 : Nat)) ∧ q22 - y < q22 - x_1 ∧ q210 = (↑y : Int) ∧ q25)) ∧ (q208 = false → ((True ∧ ((0 : (AK.val tI).den) ≤ q10 ∧ q10 ≤ (6 : (AK.val tI).den)) ∧ True ∧ True) ∧ True ∧ True) ∧ ((inN q7 q0 ∧ True ∧ True ∧ True ∧ True ∧ True ∧ q28 ≠ q7 ∧ True ∧ True) ∧ True) ∧ ((True ∧ True ∧ True ∧ q30 ∧ q2) ∧ True) ∧ (q35 = true → ((inN q9 q0 ∧ True ∧ True ∧ True ∧ True ∧ True ∧ q30 ∧ True ∧ True ∧ q34 ≠ q7 ∧ True ∧ True) ∧ True) ∧ ((True ∧ True ∧ True ∧ q30 ∧ True ∧ True ∧ q37 ∧ q1) ∧ True ∧ True) ∧ q15 ∧ (q39 = true → q17 ∧ q15 ∧ (q41 → q17 ∧ q15 ∧ (q43 → q17 ∧ q44 ∧ q46 ∧ ((True ∧ q55 ∧ q5) ∧ q1) ∧ ((True ∧ True ∧ True ∧ q45 ∧ True ∧ True ∧ q59 ∧ q59 ∧ q59 ∧ (q58 → q55) ∧ q59 ∧ True ∧ True ∧ q65 ∧ q65 ∧ q65 ∧ q67 ∧ q67 ∧ q65 ∧ True ∧ True ∧ q72 ∧ (q71 → q55) ∧ q72 ∧ q74 ∧ (q73 → q55) ∧ q74 ∧ q74 ∧ q72 ∧ True ∧ True ∧ ((true && bif q75 then true else false) = true → True) ∧ q1) ∧ True) ∧ (bif q75 then Sp.exOK else false) = true) ∧ (q76 → q44 ∧ q46 ∧ ((True ∧ q79 ∧ q5) ∧ q1) ∧ ((True ∧ True ∧ True ∧ q45 ∧ True ∧ True ∧ q59 ∧ q59 ∧ q59 ∧ (q58 → q79) ∧ q59 ∧ True ∧ True ∧ q85 ∧ q85 ∧ q85 ∧ q86 ∧ q86 ∧ q85 ∧ True ∧ True ∧ q90 ∧ (q89 → q79) ∧ q90 ∧ q92 ∧ (q91 → q79) ∧ q92 ∧ q92 ∧ q90 ∧ True ∧ True ∧ ((true && bif q93 then true else false) = true → True) ∧ q1) ∧ True) ∧ (bif q93 then Sp.exOK else false) = true)) ∧ (q94 → q15 ∧ (q43 → q17 ∧ q44 ∧ q46 ∧ ((True ∧ q97 ∧ q5) ∧ q1) ∧ ((True ∧ True ∧ True ∧ q45 ∧ True ∧ True ∧ q59 ∧ q59 ∧ q59 ∧ (q58 → q97) ∧ q59 ∧ True ∧ True ∧ q103 ∧ q103 ∧ q103 ∧ q104 ∧ q104 ∧ q103 ∧ True ∧ True ∧ q108 ∧ (q107 → q97) ∧ q108 ∧ q110 ∧ (q109 → q97) ∧ q110 ∧ q110 ∧ q108 ∧ True ∧ True ∧ ((true && bif q111 then true else false) = true → True) ∧ q1) ∧ True) ∧ (bif q111 then Sp.exOK else false) = true) ∧ (q76 → q44 ∧ q46 ∧ ((True ∧ q113 ∧ q5) ∧ q1) ∧ ((True ∧ True ∧ True ∧ q45 ∧ True ∧ True ∧ q59 ∧ q59 ∧ q59 ∧ (q58 → q113) ∧ q59 ∧ True ∧ True ∧ q119 ∧ q119 ∧ q119 ∧ q120 ∧ q120 ∧ q119 ∧ True ∧ True ∧ q124 ∧ (q123 → q113) ∧ q124 ∧ q126 ∧ (q125 → q113) ∧ q126 ∧ q126 ∧ q124 ∧ True ∧ True ∧ ((true && bif q127 then true else false) = true → True) ∧ q1) ∧ True) ∧ (bif q127 then Sp.exOK else false) = true))) ∧ (q39 = false → q15 ∧ (q41 → q17 ∧ q15 ∧ (q43 → q17 ∧ q44 ∧ q46 ∧ ((True ∧ q130 ∧ q5) ∧ q1) ∧ ((True ∧ True ∧ True ∧ q45 ∧ True ∧ True ∧ q59 ∧ q59 ∧ q59 ∧ (q58 → q130) ∧ q59 ∧ True ∧ True ∧ q136 ∧ q136 ∧ q136 ∧ q137 ∧ q137 ∧ q136 ∧ True ∧ True ∧ q141 ∧ (q140 → q130) ∧ q141 ∧ q143 ∧ (q142 → q130) ∧ q143 ∧ q143 ∧ q141 ∧ True ∧ True ∧ ((true && bif q144 then true else false) = true → True) ∧ q1) ∧ True) ∧ (bif q144 then Sp.exOK else false) = true) ∧ (q76 → q44 ∧ q46 ∧ ((True ∧ q146 ∧ q5) ∧ q1) ∧ ((True ∧ True ∧ True ∧ q45 ∧ True ∧ True ∧ q59 ∧ q59 ∧ q59 ∧ (q58 → q146) ∧ q59 ∧ True ∧ True ∧ q152 ∧ q152 ∧ q152 ∧ q153 ∧ q153 ∧ q152 ∧ True ∧ True ∧ q157 ∧ (q156 → q146) ∧ q157 ∧ q159 ∧ (q158 → q146) ∧ q159 ∧ q159 ∧ q157 ∧ True ∧ True ∧ ((true && bif q160 then true else false) = true → True) ∧ q1) ∧ True) ∧ (bif q160 then Sp.exOK else false) = true)) ∧ (q94 → q15 ∧ (q43 → q17 ∧ q44 ∧ q46 ∧ ((True ∧ q162 ∧ q5) ∧ q1) ∧ ((True ∧ True ∧ True ∧ q45 ∧ True ∧ True ∧ q59 ∧ q59 ∧ q59 ∧ (q58 → q162) ∧ q59 ∧ True ∧ True ∧ q168 ∧ q168 ∧ q168 ∧ q169 ∧ q169 ∧ q168 ∧ True ∧ True ∧ q173 ∧ (q172 → q162) ∧ q173 ∧ q175 ∧ (q174 → q162) ∧ q175 ∧ q175 ∧ q173 ∧ True ∧ True ∧ ((true && bif q176 then true else false) = true → True) ∧ q1) ∧ True) ∧ (bif q176 then Sp.exOK else false) = true) ∧ (q76 → q44 ∧ q46 ∧ ((True ∧ q178 ∧ q5) ∧ q1) ∧ ((True ∧ True ∧ True ∧ q45 ∧ True ∧ True ∧ q59 ∧ q59 ∧ q59 ∧ (q58 → q178) ∧ q59 ∧ True ∧ True ∧ q184 ∧ q184 ∧ q184 ∧ q185 ∧ q185 ∧ q184 ∧ True ∧ True ∧ q189 ∧ (q188 → q178) ∧ q189 ∧ q191 ∧ (q190 → q178) ∧ q191 ∧ q191 ∧ q189 ∧ True ∧ True ∧ ((true && bif q192 then true else false) = true → True) ∧ q1) ∧ True) ∧ (bif q192 then Sp.exOK else false) = true)))) ∧ (q35 = false → q46 ∧ ((True ∧ q193 ∧ q5) ∧ q1) ∧ ((True ∧ True ∧ True ∧ q45 ∧ True ∧ True ∧ q59 ∧ q59 ∧ q59 ∧ (q58 → q193) ∧ q59 ∧ True ∧ True ∧ q199 ∧ q199 ∧ q199 ∧ q200 ∧ q200 ∧ q199 ∧ True ∧ True ∧ q204 ∧ (q203 → q193) ∧ q204 ∧ q206 ∧ (q205 → q193) ∧ q206 ∧ q206 ∧ q204 ∧ True ∧ True ∧ ((true && bif q207 then true else false) = true → True) ∧ q1) ∧ True) ∧ (bif q207 then Sp.exOK else false) = true))))) := by kernel_rfl
end Go.User
namespace Go.User
open Go.Lf Go.Proofs
theorem fin6 (t o : Sp.Lit) : ((((Sp.errA t == 0) = Sp.validR t ∧ (Sp.errA o == 0) = Sp.validR o) ∧ (Sp.errA t == 0 || Sp.errA t == 300) = true) ∧ (Sp.validR o || Sp.errA o == 300) = true) ∧ Sp.exOK = true := by
  rw [Sp.errA_eq t, Sp.errA_eq o]
  refine ⟨?_, ex_ok⟩
  cases Sp.validR t <;> cases Sp.validR o <;> decide
set_option maxRecDepth 100000 in
theorem ok6 : FOk Try.prog 6 S6 := by
  have hC : CtxOK Try.prog C6 := okC (fns_cons ok11 (fns_cons ok12o (fns_cons ok13 (fns_cons ok19 (fns_cons ok20 fns_nil))))) rfl rfl rfl rfl rfl rfl rfl
  refine FOk.intro hC (stpS_ok hC) Try.call6 Try.func6 (by kernel_rfl) (by kernel_rfl) L6 (vc6.mpr ?_)
  have hex := ex_ok
  simp only [z1, z2, z3, z4, z5, z6, z7, z8, z9, z10, z11, z12, z13, z14, z15, z16, z17, z18, z19, z20, z21, z22, z23, z24, z25, z26, z27, z28, z29, z30, z31, z32, z33, z34, z35, z36, z37, z38]
  rintro ⟨t, x, z, u⟩ _
  have hM := Sp.total_made (x := x) (n := 3) (by omega) (by omega)
  refine ⟨fun h => absurd hex (by rw [h]; decide), fun _ => ⟨fun _ => hex, fun h6 => ⟨⟨0, ⟨Nat.zero_le _, fun l hl => by cases hl⟩, rfl⟩, fun c hc _ => ⟨fun hlt => ⟨inN_of hlt, fun _ => hex, fun h8 => ⟨?_, c + 1, ⟨?_, ?_⟩, ?_, ?_⟩⟩, fun hge => ?_⟩⟩⟩⟩
  · have h6 : (t.1.length : Int) ≤ 6 := h6
    have hlt : (c : Int) < (t.1.length : Int) := hlt
    exact inK_mid (by omega) (by omega)
  · have hlt : (c : Int) < (t.1.length : Int) := hlt
    show c + 1 ≤ t.1.length; omega
  · have hlt : (c : Int) < (t.1.length : Int) := hlt
    intro l hl
    have hl : l ∈ t.1.take (c + 1) := hl
    have h8 : ((t.1.getD c []).length : Int) ≤ 8 := h8
    rw [Pl.take_succ (by omega : c < t.1.length) []] at hl
    rcases List.mem_append.1 hl with h | h
    · exact hc.2 l h
    · rw [List.mem_singleton] at h; subst h; omega
  · have hlt : (c : Int) < (t.1.length : Int) := hlt
    show t.1.length - (c + 1) < t.1.length - c; omega
  · show (c : Int) + 1 = ((c + 1 : Nat) : Int); omega
  · have h6 : (t.1.length : Int) ≤ 6 := h6
    have hge : (t.1.length : Int) ≤ (c : Int) := hge
    have hc1 : c ≤ t.1.length := hc.1
    have hc2 : ∀ l ∈ t.1, l.length ≤ 8 := by
      intro l hl
      refine hc.2 l ?_
      show l ∈ t.1.take c
      rw [List.take_of_length_le (by omega)]; exact hl
    have ht : Sp.total t.1 ≤ 1000 := by
      have := Sp.total_le (n := 8) hc2
      have : t.1.length ≤ 6 := by omega
      omega
    clear hge hc hc1 hc2 h6
    dsimp only
    generalize hP : Sp.madeP x 3 = P
    rw [hP] at hM
    obtain ⟨hM1, hM2, hM3, hM4⟩ := hM
    have ha := Sp.low_in (z.getD (Int.toNat 0) 0)
    have hb := Sp.low_in (z.getD (Int.toNat 1) 0)
    unfold Sp.low at ha hb
    generalize IntKind.i64.wrap ↑(BitVec.ofInt 64 (z.getD (Int.toNat 0) 0) &&& BitVec.ofInt 64 3).toNat = a at ha ⊢
    generalize IntKind.i64.wrap ↑(BitVec.ofInt 64 (z.getD (Int.toNat 1) 0) &&& BitVec.ofInt 64 3).toNat = b at hb ⊢
    generalize IntKind.i64.wrap ↑(BitVec.ofInt 64 (z.getD (Int.toNat 2) 0) &&& BitVec.ofInt 64 3).toNat = d
    generalize z.getD (Int.toNat 3) 0 = v
    have hi0 := Sp.tmod_in ha.1 hM3
    generalize a.tmod (P.length : Int) = i at hi0 ⊢
    have hs : ∀ j o, Sp.total (P.set i.toNat ((P.getD i.toNat []).set j o)) ≤ 1000 := by
      intro j o
      have := Sp.total_set P i.toNat ((P.getD i.toNat []).set j o) (by have h1 := hi0.1; have h2 := hi0.2; omega)
      rw [List.length_set] at this
      omega
    have leaf : ∀ o : List (List Sp.LOp), Sp.total o ≤ 1000 → _ := fun o ho => (⟨ht, ho, ⟨ht, fun _ => ho, fun _ => ho, fun _ => ho⟩, fin6 t (o, ())⟩ : Sp.total t.fst ≤ 1000 ∧ Sp.total o ≤ 1000 ∧ (Sp.total t.fst ≤ 1000 ∧ ((Sp.errA t == 0) = Sp.validR t → Sp.total o ≤ 1000) ∧ (((Sp.errA t == 0) = Sp.validR t ∧ (Sp.errA (o, ()) == 0) = Sp.validR (o, ())) ∧ (Sp.errA t == 0 || Sp.errA t == 300) = true → Sp.total o ≤ 1000) ∧ ((((Sp.errA t == 0) = Sp.validR t ∧ (Sp.errA (o, ()) == 0) = Sp.validR (o, ())) ∧ (Sp.errA t == 0 || Sp.errA t == 300) = true) ∧ Sp.validR (o, ()) = false → Sp.total o ≤ 1000)) ∧ ((((Sp.errA t == 0) = Sp.validR t ∧ (Sp.errA (o, ()) == 0) = Sp.validR (o, ())) ∧ (Sp.errA t == 0 || Sp.errA t == 300) = true) ∧ (Sp.validR (o, ()) || Sp.errA (o, ()) == 300) = true) ∧ Sp.exOK = true)
    have n1 : inN 1 4 := ⟨by decide, by decide⟩
    have n2 : inN 2 4 := ⟨by decide, by decide⟩
    have n3 : inN 3 4 := ⟨by decide, by decide⟩
    refine ⟨by decide, ⟨⟨by decide, by decide⟩, by omega⟩, hi0, fun hn => ?_, fun _ => ?_⟩
    · have hn : 0 < (((P.getD i.toNat []).length : Nat) : Int) := hn
      have hj := Sp.tmod_in (n := (P.getD i.toNat []).length) hb.1 (by omega)
      exact ⟨⟨n1, hi0, by omega⟩, ⟨hi0, hj⟩, n2, fun _ => ⟨n3, n2, fun _ => ⟨n3, n2, fun _ => ⟨n3, ⟨hi0, hj⟩, leaf _ (hs _ _)⟩, fun _ => ⟨⟨hi0, hj⟩, leaf _ (hs _ _)⟩⟩, fun _ => ⟨n2, fun _ => ⟨n3, ⟨hi0, hj⟩, leaf _ (hs _ _)⟩, fun _ => ⟨⟨hi0, hj⟩, leaf _ (hs _ _)⟩⟩⟩, fun _ => ⟨n2, fun _ => ⟨n3, n2, fun _ => ⟨n3, ⟨hi0, hj⟩, leaf _ (hs _ _)⟩, fun _ => ⟨⟨hi0, hj⟩, leaf _ (hs _ _)⟩⟩, fun _ => ⟨n2, fun _ => ⟨n3, ⟨hi0, hj⟩, leaf _ (hs _ _)⟩, fun _ => ⟨⟨hi0, hj⟩, leaf _ (hs _ _)⟩⟩⟩⟩
    · have hm : Sp.made x 3 = (P, ()) := by unfold Sp.made; rw [hP]
      simp only [hm]
      exact leaf P (by omega)
end Go.User
namespace Go.Proofs.Ythhclebbpbkgdaa
open Go.ChangeShapes Go.WideShapes Go.ChangeAt Go.RowKit Go.Proofs Go.Lf

set_option maxRecDepth 100000 in
theorem viewRefuses_lifted (hF : FOk Try.prog 6 Go.User.S6) (os : Os) (started : os.Started) (H : Type) (enc : TypeId × Value → H) :
    ReturnsInHanded {} Try.checked os 6 .any (Rows.viewRefusesSpec.pre6 enc Try.prog Try.f6 Rows.viewRefusesRow.domain false) (Rows.viewRefusesSpec.post enc Try.prog Try.f6 false true false false) := by
  refine returnsInHanded_of_change_sized (C := Try.checked) Try.own started (by kernel_rfl) Try.func6
    (ChangeSpec.witness6 (enc := enc) (C := Try.checked) false ⟨#[], #[.agg #[.slice none 0 0], .slice none 0 0, .agg #[.int .i64 0, .int .i64 0, .int .i64 0, .int .i64 0]], []⟩ 8 (by kernel_rfl) (by kernel_rfl) (by kernel_rfl) (by kernel_rfl)) ?_
  intro W base args ds gs before hval0 hW _ hsz0 _
  have hsz : (DataW.weightsEach Try.prog (Try.f6.params.toList ++ Rows.viewRefusesSpec.plain.varTypes Try.prog) (ds ++ gs)).all (· ≤ reachBytes) = true := hsz0
  clear hsz0
  have hval : ∀ (j : Nat) t v, Try.f6.params[j]? = some t → args[j]? = some v → Value.okWide Try.prog W .any base t v := hval0
  have hW' := hW
  obtain ⟨p, q, hA0, hV, rfl, _, _⟩ := hW
  have hA : DataW.TrodAll enc Try.prog W 0 (fun _ => true) true Try.f6.params.toList args.toList ds p := hA0
  rw [Try.params6] at hA hval hsz
  obtain ⟨v0, v1, v2, d0, d1, d2, p0, p1, p2, rfl, rfl, rfl, h0, h1, h2⟩ := trodAll_three hA
  obtain ⟨rfl, rfl⟩ := trodVars_none hV
  clear hA0 hval0
  simp only [List.append_nil, List.append_assoc] at hW'
  have hlt0 : ∀ x ∈ p0, x.block < W.heap.size := fun x hx => hW'.lt x (by simp [hx])
  have hlt1 : ∀ x ∈ p1, x.block < W.heap.size := fun x hx => hW'.lt x (by simp [hx])
  have hlt2 : ∀ x ∈ p2, x.block < W.heap.size := fun x hx => hW'.lt x (by simp [hx])
  obtain ⟨x0, hx0⟩ := arg_of (τ := Go.User.tLit) (by kernel_rfl) (hval 0 27 v0 rfl rfl) h0 hlt0 (sz_of hsz (j := 0) rfl rfl)
  obtain ⟨x1, hx1⟩ := arg_of (τ := Go.User.tRaw) (by kernel_rfl) (hval 1 23 v1 rfl rfl) h1 hlt1 (sz_of hsz (j := 1) rfl rfl)
  obtain ⟨x2, hx2⟩ := arg_of (τ := .arr 4 (.int .i64)) (by kernel_rfl) (hval 2 47 v2 rfl rfl) h2 hlt2 (sz_of hsz (j := 2) rfl rfl)
  have hcall := hF.2 W (fun b => b < W.heap.size) [v0, v1, v2] (x0, x1, x2, ()) (fun b h => h) ⟨v0, [v1, v2], rfl, hx0, v1, [v2], rfl, hx1, v2, [], rfl, hx2, rfl⟩ trivial
  refine hcall.mono ?_
  rintro e W' ⟨v, F', S', rfl, hb, _, _, _, _, hv⟩
  have hv : OwnV F' W' .bool .shr S' v true := hv
  have := hv.bool_eq
  subst this
  have hargs0 := Below.trod Try.laidOut (by kernel_rfl) (of_decide_eq_true (by kernel_rfl)) h0 hb hlt0
  have hargs1 := Below.trod Try.laidOut (by kernel_rfl) (of_decide_eq_true (by kernel_rfl)) h1 hb hlt1
  have hargs2 := Below.trod Try.laidOut (by kernel_rfl) (of_decide_eq_true (by kernel_rfl)) h2 hb hlt2
  refine ⟨_, rfl, _, _, _, [], p0 ++ (p1 ++ p2), [], hW', ?_, trodAll_mk3 hargs0 hargs1 hargs2, rfl, hb.frame _, fun h => by cases h⟩
  exact trodAll_mk1 (shut_bool Try.underlying4 true)

theorem viewRefuses_holds : Rows.ViewRefusesSaid :=
  OpenClaim.holds_of_wide 6 Try.f6 rfl rfl rfl rfl rfl rfl rfl ⟨rfl, rfl, rfl, rfl, rfl⟩ rfl rfl rfl rfl rfl (by kernel_rfl) Try.func6 (by kernel_rfl)
    (of_decide_eq_true (by kernel_rfl)) (by unfold Func.isWrapper; first | (rw [if_pos (by decide +kernel)]; kernel_rfl) | (rw [if_neg (by decide +kernel)]; exact ⟨rfl, rfl⟩))
    (fun os started H enc _ => viewRefuses_lifted Go.User.ok6 os started H enc)
end Go.Proofs.Ythhclebbpbkgdaa
