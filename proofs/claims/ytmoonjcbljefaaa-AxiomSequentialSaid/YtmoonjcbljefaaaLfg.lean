/- Written by gen.py: what is left to show of each function. Plain facts about lists, places, sums. The small functions compute what they should. Lists of events, the relations, whether lists are right: what is computed. -/
import Derived.Test.YtmoonjcbljefaaaLff
set_option linter.unusedVariables false
set_option linter.unusedSimpArgs false
namespace Go.User
open Go.Proofs Go.Lf
set_option maxRecDepth 100000
theorem vc22 (h : (
  ∀ (x : List Int × Int × Unit), (x.1.length ≤ lim ∧ ∀ (x_1 : Int), x_1 ∈ x.1 → inK IntKind.i64 x_1) ∧ inK IntKind.i64 x.2.1 → (∃ (x_1 : Nat), (x_1 ≤ x.1.length ∧ ¬x.2.1 ∈ List.take x_1 x.1) ∧ (0 : Int) = (↑x_1 : Int)) ∧ ∀ (x_1 : Nat), x_1 ≤ x.1.length ∧ ¬x.2.1 ∈ List.take x_1 x.1 → inK IntKind.i64 (↑x_1 : Int) → ((↑x_1 : Int) < (↑x.1.length : Int) → inN (↑x_1 : Int) x.1.length ∧ (x.1.getD x_1 (0 : Int) = x.2.1 → (↑x_1 : Int) = Sp.idx x.1 x.2.1) ∧ (¬x.1.getD x_1 (0 : Int) = x.2.1 → inK IntKind.i64 ((↑x_1 : Int) + (1 : Int)) ∧ ∃ (y : Nat), (y ≤ x.1.length ∧ ¬x.2.1 ∈ List.take y x.1) ∧ x.1.length - y < x.1.length - x_1 ∧ (↑x_1 : Int) + (1 : Int) = (↑y : Int))) ∧ ((↑x.1.length : Int) ≤ (↑x_1 : Int) → (-1 : Int) = Sp.idx x.1 x.2.1))) : funI C22 (stpP C22) S22 L22 Try.f22 := by
  have e : funI C22 (stpP C22) S22 L22 Try.f22 = (
  ∀ (x : List Int × Int × Unit), True → (x.1.length ≤ lim ∧ ∀ (x_1 : Int), x_1 ∈ x.1 → inK IntKind.i64 x_1) ∧ inK IntKind.i64 x.2.1 ∧ True → ((True ∧ True) ∧ True) ∧ ((True ∧ True) ∧ True) ∧ (∃ (x_1 : Nat), (x_1 ≤ x.1.length ∧ ¬x.2.1 ∈ List.take x_1 x.1) ∧ (0 : Int) = (↑x_1 : Int) ∧ x.1 = x.1 ∧ x.2.1 = x.2.1 ∧ True) ∧ ∀ (x_1 : Nat), x_1 ≤ x.1.length ∧ ¬x.2.1 ∈ List.take x_1 x.1 → inK IntKind.i64 (↑x_1 : Int) ∧ True → ((True ∧ True ∧ True ∧ True ∧ True) ∧ True) ∧ (decide ((↑x_1 : Int) < (↑x.1.length : Int)) = true → ((True ∧ True ∧ inN (↑x_1 : Int) x.1.length ∧ True ∧ True ∧ True ∧ True) ∧ True) ∧ ((x.1.getD (↑x_1 : Int).toNat (0 : Int) == x.2.1) = true → ((True ∧ True ∧ True) ∧ True) ∧ (↑x_1 : Int) = Sp.idx x.1 x.2.1) ∧ ((x.1.getD (↑x_1 : Int).toNat (0 : Int) == x.2.1) = false → ((True ∧ inK IntKind.i64 ((↑x_1 : Int) + (1 : Int)) ∧ True ∧ True) ∧ True) ∧ ∃ (y : Nat), (y ≤ x.1.length ∧ ¬x.2.1 ∈ List.take y x.1) ∧ x.1.length - y < x.1.length - x_1 ∧ (↑x_1 : Int) + (1 : Int) = (↑y : Int) ∧ x.1 = x.1 ∧ x.2.1 = x.2.1 ∧ True)) ∧ (decide ((↑x_1 : Int) < (↑x.1.length : Int)) = false → ((True ∧ True) ∧ True) ∧ (-1 : Int) = Sp.idx x.1 x.2.1)) := by kernel_rfl
  rw [e]
  simp only [true_and, and_true, eq_self, forall_const, decide_eq_true_eq, decide_eq_false_iff_not, Int.not_lt, Int.not_le, Bool.and_eq_true, true_implies, implies_true, Bool.not_eq_true', Bool.not_eq_false', false_implies, Bool.false_eq_true, Bool.true_eq_false, and_self, beq_iff_eq, beq_eq_false_iff_ne, ne_eq, Int.toNat_natCast, Bool.cond_false_right, Bool.cond_true_left, exists_prop, ge_iff_le, gt_iff_lt, List.length_singleton, List.length_nil, List.nil_append, List.append_eq, Bool.cond_false_left, Bool.cond_true_right, Bool.or_false, Bool.and_true, Bool.or_eq_false_iff, Bool.not_eq_true, bne_iff_ne, bne_eq_false_iff_eq]
  all_goals first | exact h | (simp only [true_and, and_true, eq_self, forall_const, decide_eq_true_eq, decide_eq_false_iff_not, Int.not_lt, Int.not_le, Bool.and_eq_true, true_implies, implies_true, Bool.not_eq_true', Bool.not_eq_false', false_implies, Bool.false_eq_true, Bool.true_eq_false, and_self, beq_iff_eq, beq_eq_false_iff_ne, ne_eq, Int.toNat_natCast, Bool.cond_false_right, Bool.cond_true_left, exists_prop, ge_iff_le, gt_iff_lt, List.length_singleton, List.length_nil, List.nil_append, List.append_eq, Bool.cond_false_left, Bool.cond_true_right, Bool.or_false, Bool.and_true, Bool.or_eq_false_iff, Bool.not_eq_true, bne_iff_ne, bne_eq_false_iff_eq] at h; exact h)
theorem vc39 (h : (
  ∀ (x : List Int × Int × Unit), (x.1.length ≤ lim ∧ ∀ (x_1 : Int), x_1 ∈ x.1 → inK IntKind.i64 x_1) ∧ inK IntKind.i64 x.2.1 → (∃ (x_1 : Nat), (x_1 ≤ x.1.length ∧ ¬x.2.1 ∈ List.take x_1 x.1) ∧ (0 : Int) = (↑x_1 : Int)) ∧ ∀ (x_1 : Nat), x_1 ≤ x.1.length ∧ ¬x.2.1 ∈ List.take x_1 x.1 → inK IntKind.i64 (↑x_1 : Int) → ((↑x_1 : Int) < (↑x.1.length : Int) → inN (↑x_1 : Int) x.1.length ∧ (x.1.getD x_1 (0 : Int) = x.2.1 → (↑x_1 : Int) = Sp.idx x.1 x.2.1) ∧ (¬x.1.getD x_1 (0 : Int) = x.2.1 → inK IntKind.i64 ((↑x_1 : Int) + (1 : Int)) ∧ ∃ (y : Nat), (y ≤ x.1.length ∧ ¬x.2.1 ∈ List.take y x.1) ∧ x.1.length - y < x.1.length - x_1 ∧ (↑x_1 : Int) + (1 : Int) = (↑y : Int))) ∧ ((↑x.1.length : Int) ≤ (↑x_1 : Int) → (-1 : Int) = Sp.idx x.1 x.2.1))) : funI C39 (stpP C39) S39 L39 Try.f39 := by
  have e : funI C39 (stpP C39) S39 L39 Try.f39 = (
  ∀ (x : List Int × Int × Unit), True → (x.1.length ≤ lim ∧ ∀ (x_1 : Int), x_1 ∈ x.1 → inK IntKind.i64 x_1) ∧ inK IntKind.i64 x.2.1 ∧ True → ((True ∧ True) ∧ True) ∧ ((True ∧ True) ∧ True) ∧ (∃ (x_1 : Nat), (x_1 ≤ x.1.length ∧ ¬x.2.1 ∈ List.take x_1 x.1) ∧ (0 : Int) = (↑x_1 : Int) ∧ x.1 = x.1 ∧ x.2.1 = x.2.1 ∧ True) ∧ ∀ (x_1 : Nat), x_1 ≤ x.1.length ∧ ¬x.2.1 ∈ List.take x_1 x.1 → inK IntKind.i64 (↑x_1 : Int) ∧ True → ((True ∧ True ∧ True ∧ True ∧ True) ∧ True) ∧ (decide ((↑x_1 : Int) < (↑x.1.length : Int)) = true → ((True ∧ True ∧ inN (↑x_1 : Int) x.1.length ∧ True ∧ True ∧ True ∧ True) ∧ True) ∧ ((x.1.getD (↑x_1 : Int).toNat (0 : Int) == x.2.1) = true → ((True ∧ True ∧ True) ∧ True) ∧ (↑x_1 : Int) = Sp.idx x.1 x.2.1) ∧ ((x.1.getD (↑x_1 : Int).toNat (0 : Int) == x.2.1) = false → ((True ∧ inK IntKind.i64 ((↑x_1 : Int) + (1 : Int)) ∧ True ∧ True) ∧ True) ∧ ∃ (y : Nat), (y ≤ x.1.length ∧ ¬x.2.1 ∈ List.take y x.1) ∧ x.1.length - y < x.1.length - x_1 ∧ (↑x_1 : Int) + (1 : Int) = (↑y : Int) ∧ x.1 = x.1 ∧ x.2.1 = x.2.1 ∧ True)) ∧ (decide ((↑x_1 : Int) < (↑x.1.length : Int)) = false → ((True ∧ True) ∧ True) ∧ (-1 : Int) = Sp.idx x.1 x.2.1)) := by kernel_rfl
  rw [e]
  simp only [true_and, and_true, eq_self, forall_const, decide_eq_true_eq, decide_eq_false_iff_not, Int.not_lt, Int.not_le, Bool.and_eq_true, true_implies, implies_true, Bool.not_eq_true', Bool.not_eq_false', false_implies, Bool.false_eq_true, Bool.true_eq_false, and_self, beq_iff_eq, beq_eq_false_iff_ne, ne_eq, Int.toNat_natCast, Bool.cond_false_right, Bool.cond_true_left, exists_prop, ge_iff_le, gt_iff_lt, List.length_singleton, List.length_nil, List.nil_append, List.append_eq, Bool.cond_false_left, Bool.cond_true_right, Bool.or_false, Bool.and_true, Bool.or_eq_false_iff, Bool.not_eq_true, bne_iff_ne, bne_eq_false_iff_eq]
  all_goals first | exact h | (simp only [true_and, and_true, eq_self, forall_const, decide_eq_true_eq, decide_eq_false_iff_not, Int.not_lt, Int.not_le, Bool.and_eq_true, true_implies, implies_true, Bool.not_eq_true', Bool.not_eq_false', false_implies, Bool.false_eq_true, Bool.true_eq_false, and_self, beq_iff_eq, beq_eq_false_iff_ne, ne_eq, Int.toNat_natCast, Bool.cond_false_right, Bool.cond_true_left, exists_prop, ge_iff_le, gt_iff_lt, List.length_singleton, List.length_nil, List.nil_append, List.append_eq, Bool.cond_false_left, Bool.cond_true_right, Bool.or_false, Bool.and_true, Bool.or_eq_false_iff, Bool.not_eq_true, bne_iff_ne, bne_eq_false_iff_eq] at h; exact h)
theorem vc63 (h : (
  ∀ (x : List Int × Int × Unit), (x.1.length ≤ lim ∧ ∀ (x_1 : Int), x_1 ∈ x.1 → inK IntKind.i64 x_1) ∧ inK IntKind.i64 x.2.1 → (∃ (x_1 : Nat), (x_1 ≤ x.1.length ∧ ¬x.2.1 ∈ List.take x_1 x.1) ∧ (0 : Int) = (↑x_1 : Int)) ∧ ∀ (x_1 : Nat), x_1 ≤ x.1.length ∧ ¬x.2.1 ∈ List.take x_1 x.1 → inK IntKind.i64 (↑x_1 : Int) → ((↑x_1 : Int) < (↑x.1.length : Int) → inN (↑x_1 : Int) x.1.length ∧ (x.2.1 = x.1.getD x_1 (0 : Int) → (↑x_1 : Int) = Sp.idx x.1 x.2.1) ∧ (¬x.2.1 = x.1.getD x_1 (0 : Int) → inK IntKind.i64 ((↑x_1 : Int) + (1 : Int)) ∧ ∃ (y : Nat), (y ≤ x.1.length ∧ ¬x.2.1 ∈ List.take y x.1) ∧ x.1.length - y < x.1.length - x_1 ∧ (↑x_1 : Int) + (1 : Int) = (↑y : Int))) ∧ ((↑x.1.length : Int) ≤ (↑x_1 : Int) → (-1 : Int) = Sp.idx x.1 x.2.1))) : funI C63 (stpP C63) S63 L63 Try.f63 := by
  have e : funI C63 (stpP C63) S63 L63 Try.f63 = (
  ∀ (x : List Int × Int × Unit), True → (x.1.length ≤ lim ∧ ∀ (x_1 : Int), x_1 ∈ x.1 → inK IntKind.i64 x_1) ∧ inK IntKind.i64 x.2.1 ∧ True → ((True ∧ True) ∧ True) ∧ ((True ∧ True ∧ True ∧ True) ∧ True) ∧ (∃ (x_1 : Nat), (x_1 ≤ x.1.length ∧ ¬x.2.1 ∈ List.take x_1 x.1) ∧ (0 : Int) = (↑x_1 : Int) ∧ x.1 = x.1 ∧ x.2.1 = x.2.1 ∧ (↑x.1.length : Int) = (↑x.1.length : Int) ∧ True) ∧ ∀ (x_1 : Nat), x_1 ≤ x.1.length ∧ ¬x.2.1 ∈ List.take x_1 x.1 → inK IntKind.i64 (↑x_1 : Int) ∧ True → ((True ∧ True) ∧ True) ∧ (decide ((↑x_1 : Int) < (↑x.1.length : Int)) = true → ((True ∧ True ∧ True) ∧ True) ∧ ((True ∧ True ∧ True ∧ inN (↑x_1 : Int) x.1.length ∧ True ∧ True ∧ True) ∧ True) ∧ ((x.2.1 == x.1.getD (↑x_1 : Int).toNat (0 : Int)) = true → ((True ∧ True ∧ True) ∧ True) ∧ (↑x_1 : Int) = Sp.idx x.1 x.2.1) ∧ ((x.2.1 == x.1.getD (↑x_1 : Int).toNat (0 : Int)) = false → ((inK IntKind.i64 ((↑x_1 : Int) + (1 : Int)) ∧ True ∧ True) ∧ True) ∧ ∃ (y : Nat), (y ≤ x.1.length ∧ ¬x.2.1 ∈ List.take y x.1) ∧ x.1.length - y < x.1.length - x_1 ∧ (↑x_1 : Int) + (1 : Int) = (↑y : Int) ∧ x.1 = x.1 ∧ x.2.1 = x.2.1 ∧ (↑x.1.length : Int) = (↑x.1.length : Int) ∧ True)) ∧ (decide ((↑x_1 : Int) < (↑x.1.length : Int)) = false → ((True ∧ True) ∧ True) ∧ (-1 : Int) = Sp.idx x.1 x.2.1)) := by kernel_rfl
  rw [e]
  simp only [true_and, and_true, eq_self, forall_const, decide_eq_true_eq, decide_eq_false_iff_not, Int.not_lt, Int.not_le, Bool.and_eq_true, true_implies, implies_true, Bool.not_eq_true', Bool.not_eq_false', false_implies, Bool.false_eq_true, Bool.true_eq_false, and_self, beq_iff_eq, beq_eq_false_iff_ne, ne_eq, Int.toNat_natCast, Bool.cond_false_right, Bool.cond_true_left, exists_prop, ge_iff_le, gt_iff_lt, List.length_singleton, List.length_nil, List.nil_append, List.append_eq, Bool.cond_false_left, Bool.cond_true_right, Bool.or_false, Bool.and_true, Bool.or_eq_false_iff, Bool.not_eq_true, bne_iff_ne, bne_eq_false_iff_eq]
  all_goals first | exact h | (simp only [true_and, and_true, eq_self, forall_const, decide_eq_true_eq, decide_eq_false_iff_not, Int.not_lt, Int.not_le, Bool.and_eq_true, true_implies, implies_true, Bool.not_eq_true', Bool.not_eq_false', false_implies, Bool.false_eq_true, Bool.true_eq_false, and_self, beq_iff_eq, beq_eq_false_iff_ne, ne_eq, Int.toNat_natCast, Bool.cond_false_right, Bool.cond_true_left, exists_prop, ge_iff_le, gt_iff_lt, List.length_singleton, List.length_nil, List.nil_append, List.append_eq, Bool.cond_false_left, Bool.cond_true_right, Bool.or_false, Bool.and_true, Bool.or_eq_false_iff, Bool.not_eq_true, bne_iff_ne, bne_eq_false_iff_eq] at h; exact h)
theorem vc42 (h : (
  ∀ (x : (Int × Int × Int × Unit) × Unit), inK IntKind.i64 x.1.1 ∧ inK IntKind.i64 x.1.2.1 ∧ inK IntKind.i64 x.1.2.2.1 → (x.1.1 == (1 : Int) || x.1.1 == (3 : Int)) = Sp.reads x.1)) : funI C42 (stpP C42) S42 L42 Try.f42 := by
  have e : funI C42 (stpP C42) S42 L42 Try.f42 = (
  ∀ (x : (Int × Int × Int × Unit) × Unit), True → (inK IntKind.i64 x.1.1 ∧ inK IntKind.i64 x.1.2.1 ∧ inK IntKind.i64 x.1.2.2.1 ∧ True) ∧ True → ((True ∧ True ∧ True) ∧ True) ∧ ((True ∧ True ∧ True ∧ True ∧ ((true && bif x.1.1 == (1 : Int) then false else true) = true → True) ∧ ((true && bif x.1.1 == (1 : Int) then false else true) = true → True) ∧ ((true && bif x.1.1 == (1 : Int) then false else true) = true → True) ∧ True ∧ True ∧ True) ∧ True) ∧ (bif x.1.1 == (1 : Int) then true else x.1.1 == (3 : Int)) = Sp.reads x.1) := by kernel_rfl
  rw [e]
  simp only [true_and, and_true, eq_self, forall_const, decide_eq_true_eq, decide_eq_false_iff_not, Int.not_lt, Int.not_le, Bool.and_eq_true, true_implies, implies_true, Bool.not_eq_true', Bool.not_eq_false', false_implies, Bool.false_eq_true, Bool.true_eq_false, and_self, beq_iff_eq, beq_eq_false_iff_ne, ne_eq, Int.toNat_natCast, Bool.cond_false_right, Bool.cond_true_left, exists_prop, ge_iff_le, gt_iff_lt, List.length_singleton, List.length_nil, List.nil_append, List.append_eq, Bool.cond_false_left, Bool.cond_true_right, Bool.or_false, Bool.and_true, Bool.or_eq_false_iff, Bool.not_eq_true, bne_iff_ne, bne_eq_false_iff_eq]
  all_goals first | exact h | (simp only [true_and, and_true, eq_self, forall_const, decide_eq_true_eq, decide_eq_false_iff_not, Int.not_lt, Int.not_le, Bool.and_eq_true, true_implies, implies_true, Bool.not_eq_true', Bool.not_eq_false', false_implies, Bool.false_eq_true, Bool.true_eq_false, and_self, beq_iff_eq, beq_eq_false_iff_ne, ne_eq, Int.toNat_natCast, Bool.cond_false_right, Bool.cond_true_left, exists_prop, ge_iff_le, gt_iff_lt, List.length_singleton, List.length_nil, List.nil_append, List.append_eq, Bool.cond_false_left, Bool.cond_true_right, Bool.or_false, Bool.and_true, Bool.or_eq_false_iff, Bool.not_eq_true, bne_iff_ne, bne_eq_false_iff_eq] at h; exact h)
theorem vc43 (h : (
  ∀ (x : (Int × Int × Int × Unit) × Unit), inK IntKind.i64 x.1.1 ∧ inK IntKind.i64 x.1.2.1 ∧ inK IntKind.i64 x.1.2.2.1 → (x.1.1 == (2 : Int) || x.1.1 == (3 : Int)) = Sp.writes x.1)) : funI C43 (stpP C43) S43 L43 Try.f43 := by
  have e : funI C43 (stpP C43) S43 L43 Try.f43 = (
  ∀ (x : (Int × Int × Int × Unit) × Unit), True → (inK IntKind.i64 x.1.1 ∧ inK IntKind.i64 x.1.2.1 ∧ inK IntKind.i64 x.1.2.2.1 ∧ True) ∧ True → ((True ∧ True ∧ True) ∧ True) ∧ ((True ∧ True ∧ True ∧ True ∧ ((true && bif x.1.1 == (2 : Int) then false else true) = true → True) ∧ ((true && bif x.1.1 == (2 : Int) then false else true) = true → True) ∧ ((true && bif x.1.1 == (2 : Int) then false else true) = true → True) ∧ True ∧ True ∧ True) ∧ True) ∧ (bif x.1.1 == (2 : Int) then true else x.1.1 == (3 : Int)) = Sp.writes x.1) := by kernel_rfl
  rw [e]
  simp only [true_and, and_true, eq_self, forall_const, decide_eq_true_eq, decide_eq_false_iff_not, Int.not_lt, Int.not_le, Bool.and_eq_true, true_implies, implies_true, Bool.not_eq_true', Bool.not_eq_false', false_implies, Bool.false_eq_true, Bool.true_eq_false, and_self, beq_iff_eq, beq_eq_false_iff_ne, ne_eq, Int.toNat_natCast, Bool.cond_false_right, Bool.cond_true_left, exists_prop, ge_iff_le, gt_iff_lt, List.length_singleton, List.length_nil, List.nil_append, List.append_eq, Bool.cond_false_left, Bool.cond_true_right, Bool.or_false, Bool.and_true, Bool.or_eq_false_iff, Bool.not_eq_true, bne_iff_ne, bne_eq_false_iff_eq]
  all_goals first | exact h | (simp only [true_and, and_true, eq_self, forall_const, decide_eq_true_eq, decide_eq_false_iff_not, Int.not_lt, Int.not_le, Bool.and_eq_true, true_implies, implies_true, Bool.not_eq_true', Bool.not_eq_false', false_implies, Bool.false_eq_true, Bool.true_eq_false, and_self, beq_iff_eq, beq_eq_false_iff_ne, ne_eq, Int.toNat_natCast, Bool.cond_false_right, Bool.cond_true_left, exists_prop, ge_iff_le, gt_iff_lt, List.length_singleton, List.length_nil, List.nil_append, List.append_eq, Bool.cond_false_left, Bool.cond_true_right, Bool.or_false, Bool.and_true, Bool.or_eq_false_iff, Bool.not_eq_true, bne_iff_ne, bne_eq_false_iff_eq] at h; exact h)
theorem vc37 (h : (
  ∀ (x : (Int × Int × Int × Unit) × Unit), inK IntKind.i64 x.1.1 ∧ inK IntKind.i64 x.1.2.1 ∧ inK IntKind.i64 x.1.2.2.1 → (x.1.1 == (1 : Int) || x.1.1 == (3 : Int)) = Sp.reads x.1)) : funI C37 (stpP C37) S37 L37 Try.f37 := by
  have e : funI C37 (stpP C37) S37 L37 Try.f37 = (
  ∀ (x : (Int × Int × Int × Unit) × Unit), True → (inK IntKind.i64 x.1.1 ∧ inK IntKind.i64 x.1.2.1 ∧ inK IntKind.i64 x.1.2.2.1 ∧ True) ∧ True → ((True ∧ True ∧ True) ∧ True) ∧ ((True ∧ True ∧ True ∧ True ∧ ((true && bif x.1.1 == (1 : Int) then false else true) = true → True) ∧ ((true && bif x.1.1 == (1 : Int) then false else true) = true → True) ∧ ((true && bif x.1.1 == (1 : Int) then false else true) = true → True) ∧ True ∧ True ∧ True) ∧ True) ∧ (bif x.1.1 == (1 : Int) then true else x.1.1 == (3 : Int)) = Sp.reads x.1) := by kernel_rfl
  rw [e]
  simp only [true_and, and_true, eq_self, forall_const, decide_eq_true_eq, decide_eq_false_iff_not, Int.not_lt, Int.not_le, Bool.and_eq_true, true_implies, implies_true, Bool.not_eq_true', Bool.not_eq_false', false_implies, Bool.false_eq_true, Bool.true_eq_false, and_self, beq_iff_eq, beq_eq_false_iff_ne, ne_eq, Int.toNat_natCast, Bool.cond_false_right, Bool.cond_true_left, exists_prop, ge_iff_le, gt_iff_lt, List.length_singleton, List.length_nil, List.nil_append, List.append_eq, Bool.cond_false_left, Bool.cond_true_right, Bool.or_false, Bool.and_true, Bool.or_eq_false_iff, Bool.not_eq_true, bne_iff_ne, bne_eq_false_iff_eq]
  all_goals first | exact h | (simp only [true_and, and_true, eq_self, forall_const, decide_eq_true_eq, decide_eq_false_iff_not, Int.not_lt, Int.not_le, Bool.and_eq_true, true_implies, implies_true, Bool.not_eq_true', Bool.not_eq_false', false_implies, Bool.false_eq_true, Bool.true_eq_false, and_self, beq_iff_eq, beq_eq_false_iff_ne, ne_eq, Int.toNat_natCast, Bool.cond_false_right, Bool.cond_true_left, exists_prop, ge_iff_le, gt_iff_lt, List.length_singleton, List.length_nil, List.nil_append, List.append_eq, Bool.cond_false_left, Bool.cond_true_right, Bool.or_false, Bool.and_true, Bool.or_eq_false_iff, Bool.not_eq_true, bne_iff_ne, bne_eq_false_iff_eq] at h; exact h)
theorem vc32 (h : (
  ∀ (x : (Int × Int × Int × Unit) × Unit), inK IntKind.i64 x.1.1 ∧ inK IntKind.i64 x.1.2.1 ∧ inK IntKind.i64 x.1.2.2.1 → (x.1.1 == (2 : Int) || x.1.1 == (3 : Int)) = Sp.writes x.1)) : funI C32 (stpP C32) S32 L32 Try.f32 := by
  have e : funI C32 (stpP C32) S32 L32 Try.f32 = (
  ∀ (x : (Int × Int × Int × Unit) × Unit), True → (inK IntKind.i64 x.1.1 ∧ inK IntKind.i64 x.1.2.1 ∧ inK IntKind.i64 x.1.2.2.1 ∧ True) ∧ True → ((True ∧ True ∧ True) ∧ True) ∧ ((True ∧ True ∧ True ∧ True ∧ ((true && bif x.1.1 == (2 : Int) then false else true) = true → True) ∧ ((true && bif x.1.1 == (2 : Int) then false else true) = true → True) ∧ ((true && bif x.1.1 == (2 : Int) then false else true) = true → True) ∧ True ∧ True ∧ True) ∧ True) ∧ (bif x.1.1 == (2 : Int) then true else x.1.1 == (3 : Int)) = Sp.writes x.1) := by kernel_rfl
  rw [e]
  simp only [true_and, and_true, eq_self, forall_const, decide_eq_true_eq, decide_eq_false_iff_not, Int.not_lt, Int.not_le, Bool.and_eq_true, true_implies, implies_true, Bool.not_eq_true', Bool.not_eq_false', false_implies, Bool.false_eq_true, Bool.true_eq_false, and_self, beq_iff_eq, beq_eq_false_iff_ne, ne_eq, Int.toNat_natCast, Bool.cond_false_right, Bool.cond_true_left, exists_prop, ge_iff_le, gt_iff_lt, List.length_singleton, List.length_nil, List.nil_append, List.append_eq, Bool.cond_false_left, Bool.cond_true_right, Bool.or_false, Bool.and_true, Bool.or_eq_false_iff, Bool.not_eq_true, bne_iff_ne, bne_eq_false_iff_eq]
  all_goals first | exact h | (simp only [true_and, and_true, eq_self, forall_const, decide_eq_true_eq, decide_eq_false_iff_not, Int.not_lt, Int.not_le, Bool.and_eq_true, true_implies, implies_true, Bool.not_eq_true', Bool.not_eq_false', false_implies, Bool.false_eq_true, Bool.true_eq_false, and_self, beq_iff_eq, beq_eq_false_iff_ne, ne_eq, Int.toNat_natCast, Bool.cond_false_right, Bool.cond_true_left, exists_prop, ge_iff_le, gt_iff_lt, List.length_singleton, List.length_nil, List.nil_append, List.append_eq, Bool.cond_false_left, Bool.cond_true_right, Bool.or_false, Bool.and_true, Bool.or_eq_false_iff, Bool.not_eq_true, bne_iff_ne, bne_eq_false_iff_eq] at h; exact h)
theorem vc62 (h : (
  ∀ (x : (Int × Int × Int × Unit) × Unit), inK IntKind.i64 x.1.1 ∧ inK IntKind.i64 x.1.2.1 ∧ inK IntKind.i64 x.1.2.2.1 → (x.1.1 = (4 : Int) → (decide (x.1.1 = (4 : Int)) && (decide (x.1.2.1 = (0 : Int)) && decide (x.1.2.2.1 = (0 : Int)))) = Sp.usual x.1) ∧ (¬x.1.1 = (4 : Int) → (x.1.1 = (1 : Int) → (decide ((0 : Int) ≤ x.1.2.1) && decide (x.1.2.1 < (3 : Int)) && x.1.2.2.1 == (0 : Int)) = Sp.usual x.1) ∧ (¬x.1.1 = (1 : Int) → (x.1.1 = (2 : Int) → (x.1.1 = (2 : Int) → (decide ((0 : Int) ≤ x.1.2.1) && decide (x.1.2.1 < (3 : Int)) && decide ((-100 : Int) ≤ x.1.2.2.1) && decide (x.1.2.2.1 ≤ (100 : Int))) = Sp.usual x.1) ∧ (¬x.1.1 = (2 : Int) → false = Sp.usual x.1)) ∧ (¬x.1.1 = (2 : Int) → (x.1.1 = (3 : Int) → (decide ((0 : Int) ≤ x.1.2.1) && decide (x.1.2.1 < (3 : Int)) && decide ((-100 : Int) ≤ x.1.2.2.1) && decide (x.1.2.2.1 ≤ (100 : Int))) = Sp.usual x.1) ∧ (¬x.1.1 = (3 : Int) → false = Sp.usual x.1)))))) : funI C62 (stpP C62) S62 L62 Try.f62 := by
  have e : funI C62 (stpP C62) S62 L62 Try.f62 = (
  ∀ (x : (Int × Int × Int × Unit) × Unit), True → (inK IntKind.i64 x.1.1 ∧ inK IntKind.i64 x.1.2.1 ∧ inK IntKind.i64 x.1.2.2.1 ∧ True) ∧ True → ((True ∧ True ∧ True) ∧ True) ∧ ((True ∧ True ∧ True) ∧ True) ∧ ((True ∧ True ∧ True) ∧ True) ∧ ((x.1.1 == (4 : Int)) = true → ((True ∧ True ∧ True ∧ True ∧ True) ∧ True) ∧ (decide (x.1.1 = (4 : Int)) && (decide (x.1.2.1 = (0 : Int)) && (decide (x.1.2.2.1 = (0 : Int)) && true))) = Sp.usual x.1) ∧ ((x.1.1 == (4 : Int)) = false → ((True ∧ True ∧ True) ∧ True) ∧ ((x.1.1 == (1 : Int)) = true → ((True ∧ True ∧ True ∧ True ∧ ((true && bif decide ((0 : Int) ≤ x.1.2.1) then true else false) = true → True) ∧ ((true && bif decide ((0 : Int) ≤ x.1.2.1) then true else false) = true → True) ∧ ((true && bif decide ((0 : Int) ≤ x.1.2.1) then true else false) = true → True) ∧ True ∧ True ∧ ((true && bif bif decide ((0 : Int) ≤ x.1.2.1) then decide (x.1.2.1 < (3 : Int)) else false then true else false) = true → True) ∧ ((true && bif bif decide ((0 : Int) ≤ x.1.2.1) then decide (x.1.2.1 < (3 : Int)) else false then true else false) = true → True) ∧ ((true && bif bif decide ((0 : Int) ≤ x.1.2.1) then decide (x.1.2.1 < (3 : Int)) else false then true else false) = true → True) ∧ True ∧ True ∧ True) ∧ True) ∧ (bif bif decide ((0 : Int) ≤ x.1.2.1) then decide (x.1.2.1 < (3 : Int)) else false then x.1.2.2.1 == (0 : Int) else false) = Sp.usual x.1) ∧ ((x.1.1 == (1 : Int)) = false → ((True ∧ True ∧ True) ∧ True) ∧ ((x.1.1 == (2 : Int)) = true → ((x.1.1 == (2 : Int)) = true → ((True ∧ True ∧ True ∧ True ∧ ((true && bif decide ((0 : Int) ≤ x.1.2.1) then true else false) = true → True) ∧ ((true && bif decide ((0 : Int) ≤ x.1.2.1) then true else false) = true → True) ∧ ((true && bif decide ((0 : Int) ≤ x.1.2.1) then true else false) = true → True) ∧ True ∧ True ∧ ((true && bif bif decide ((0 : Int) ≤ x.1.2.1) then decide (x.1.2.1 < (3 : Int)) else false then true else false) = true → True) ∧ ((true && bif bif decide ((0 : Int) ≤ x.1.2.1) then decide (x.1.2.1 < (3 : Int)) else false then true else false) = true → True) ∧ ((true && bif bif decide ((0 : Int) ≤ x.1.2.1) then decide (x.1.2.1 < (3 : Int)) else false then true else false) = true → True) ∧ True ∧ True ∧ ((true && bif bif bif decide ((0 : Int) ≤ x.1.2.1) then decide (x.1.2.1 < (3 : Int)) else false then decide ((-100 : Int) ≤ x.1.2.2.1) else false then true else false) = true → True) ∧ ((true && bif bif bif decide ((0 : Int) ≤ x.1.2.1) then decide (x.1.2.1 < (3 : Int)) else false then decide ((-100 : Int) ≤ x.1.2.2.1) else false then true else false) = true → True) ∧ ((true && bif bif bif decide ((0 : Int) ≤ x.1.2.1) then decide (x.1.2.1 < (3 : Int)) else false then decide ((-100 : Int) ≤ x.1.2.2.1) else false then true else false) = true → True) ∧ True ∧ True ∧ True) ∧ True) ∧ (bif bif bif decide ((0 : Int) ≤ x.1.2.1) then decide (x.1.2.1 < (3 : Int)) else false then decide ((-100 : Int) ≤ x.1.2.2.1) else false then decide (x.1.2.2.1 ≤ (100 : Int)) else false) = Sp.usual x.1) ∧ ((x.1.1 == (2 : Int)) = false → ((True ∧ True) ∧ True) ∧ false = Sp.usual x.1)) ∧ ((x.1.1 == (2 : Int)) = false → ((True ∧ True ∧ True) ∧ True) ∧ ((x.1.1 == (3 : Int)) = true → ((True ∧ True ∧ True ∧ True ∧ ((true && bif decide ((0 : Int) ≤ x.1.2.1) then true else false) = true → True) ∧ ((true && bif decide ((0 : Int) ≤ x.1.2.1) then true else false) = true → True) ∧ ((true && bif decide ((0 : Int) ≤ x.1.2.1) then true else false) = true → True) ∧ True ∧ True ∧ ((true && bif bif decide ((0 : Int) ≤ x.1.2.1) then decide (x.1.2.1 < (3 : Int)) else false then true else false) = true → True) ∧ ((true && bif bif decide ((0 : Int) ≤ x.1.2.1) then decide (x.1.2.1 < (3 : Int)) else false then true else false) = true → True) ∧ ((true && bif bif decide ((0 : Int) ≤ x.1.2.1) then decide (x.1.2.1 < (3 : Int)) else false then true else false) = true → True) ∧ True ∧ True ∧ ((true && bif bif bif decide ((0 : Int) ≤ x.1.2.1) then decide (x.1.2.1 < (3 : Int)) else false then decide ((-100 : Int) ≤ x.1.2.2.1) else false then true else false) = true → True) ∧ ((true && bif bif bif decide ((0 : Int) ≤ x.1.2.1) then decide (x.1.2.1 < (3 : Int)) else false then decide ((-100 : Int) ≤ x.1.2.2.1) else false then true else false) = true → True) ∧ ((true && bif bif bif decide ((0 : Int) ≤ x.1.2.1) then decide (x.1.2.1 < (3 : Int)) else false then decide ((-100 : Int) ≤ x.1.2.2.1) else false then true else false) = true → True) ∧ True ∧ True ∧ True) ∧ True) ∧ (bif bif bif decide ((0 : Int) ≤ x.1.2.1) then decide (x.1.2.1 < (3 : Int)) else false then decide ((-100 : Int) ≤ x.1.2.2.1) else false then decide (x.1.2.2.1 ≤ (100 : Int)) else false) = Sp.usual x.1) ∧ ((x.1.1 == (3 : Int)) = false → ((True ∧ True) ∧ True) ∧ false = Sp.usual x.1))))) := by kernel_rfl
  rw [e]
  simp only [true_and, and_true, eq_self, forall_const, decide_eq_true_eq, decide_eq_false_iff_not, Int.not_lt, Int.not_le, Bool.and_eq_true, true_implies, implies_true, Bool.not_eq_true', Bool.not_eq_false', false_implies, Bool.false_eq_true, Bool.true_eq_false, and_self, beq_iff_eq, beq_eq_false_iff_ne, ne_eq, Int.toNat_natCast, Bool.cond_false_right, Bool.cond_true_left, exists_prop, ge_iff_le, gt_iff_lt, List.length_singleton, List.length_nil, List.nil_append, List.append_eq, Bool.cond_false_left, Bool.cond_true_right, Bool.or_false, Bool.and_true, Bool.or_eq_false_iff, Bool.not_eq_true, bne_iff_ne, bne_eq_false_iff_eq]
  all_goals first | exact h | (simp only [true_and, and_true, eq_self, forall_const, decide_eq_true_eq, decide_eq_false_iff_not, Int.not_lt, Int.not_le, Bool.and_eq_true, true_implies, implies_true, Bool.not_eq_true', Bool.not_eq_false', false_implies, Bool.false_eq_true, Bool.true_eq_false, and_self, beq_iff_eq, beq_eq_false_iff_ne, ne_eq, Int.toNat_natCast, Bool.cond_false_right, Bool.cond_true_left, exists_prop, ge_iff_le, gt_iff_lt, List.length_singleton, List.length_nil, List.nil_append, List.append_eq, Bool.cond_false_left, Bool.cond_true_right, Bool.or_false, Bool.and_true, Bool.or_eq_false_iff, Bool.not_eq_true, bne_iff_ne, bne_eq_false_iff_eq] at h; exact h)
theorem vc61 (h : (
  ∀ (x : (Int × (Int × Int × Int × Unit) × Int × Unit) × Unit), inK IntKind.i64 x.1.1 ∧ (inK IntKind.i64 x.1.2.1.1 ∧ inK IntKind.i64 x.1.2.1.2.1 ∧ inK IntKind.i64 x.1.2.1.2.2.1) ∧ inK IntKind.i64 x.1.2.2.1 → (!Sp.usual x.1.2.1) = !Sp.usual x.1.2.1)) : funI C61 (stpP C61) S61 L61 Try.f61 := by
  have e : funI C61 (stpP C61) S61 L61 Try.f61 = (
  ∀ (x : (Int × (Int × Int × Int × Unit) × Int × Unit) × Unit), True → (inK IntKind.i64 x.1.1 ∧ (inK IntKind.i64 x.1.2.1.1 ∧ inK IntKind.i64 x.1.2.1.2.1 ∧ inK IntKind.i64 x.1.2.1.2.2.1 ∧ True) ∧ inK IntKind.i64 x.1.2.2.1 ∧ True) ∧ True → ((True ∧ True ∧ True) ∧ True) ∧ ((True ∧ True ∧ True ∧ True ∧ True ∧ True) ∧ True) ∧ (!Sp.usual x.1.2.1) = !Sp.usual x.1.2.1) := by kernel_rfl
  rw [e]
  simp only [true_and, and_true, eq_self, forall_const, decide_eq_true_eq, decide_eq_false_iff_not, Int.not_lt, Int.not_le, Bool.and_eq_true, true_implies, implies_true, Bool.not_eq_true', Bool.not_eq_false', false_implies, Bool.false_eq_true, Bool.true_eq_false, and_self, beq_iff_eq, beq_eq_false_iff_ne, ne_eq, Int.toNat_natCast, Bool.cond_false_right, Bool.cond_true_left, exists_prop, ge_iff_le, gt_iff_lt, List.length_singleton, List.length_nil, List.nil_append, List.append_eq, Bool.cond_false_left, Bool.cond_true_right, Bool.or_false, Bool.and_true, Bool.or_eq_false_iff, Bool.not_eq_true, bne_iff_ne, bne_eq_false_iff_eq]
  all_goals first | exact h | (simp only [true_and, and_true, eq_self, forall_const, decide_eq_true_eq, decide_eq_false_iff_not, Int.not_lt, Int.not_le, Bool.and_eq_true, true_implies, implies_true, Bool.not_eq_true', Bool.not_eq_false', false_implies, Bool.false_eq_true, Bool.true_eq_false, and_self, beq_iff_eq, beq_eq_false_iff_ne, ne_eq, Int.toNat_natCast, Bool.cond_false_right, Bool.cond_true_left, exists_prop, ge_iff_le, gt_iff_lt, List.length_singleton, List.length_nil, List.nil_append, List.append_eq, Bool.cond_false_left, Bool.cond_true_right, Bool.or_false, Bool.and_true, Bool.or_eq_false_iff, Bool.not_eq_true, bne_iff_ne, bne_eq_false_iff_eq] at h; exact h)
theorem vc64 (h : (
  ∀ (x : List (Int × (Int × Int × Int × Unit) × Int × Unit) × Fun (tLEv :: ([] : List Ty)) Ty.bool × Unit), (∀ (e : Int × (Int × Int × Int × Unit) × Int × Unit), x.2.1.1 (e, ())) → (x.1.length ≤ lim ∧ ∀ (x_1 : Int × (Int × Int × Int × Unit) × Int × Unit), x_1 ∈ x.1 → inK IntKind.i64 x_1.1 ∧ (inK IntKind.i64 x_1.2.1.1 ∧ inK IntKind.i64 x_1.2.1.2.1 ∧ inK IntKind.i64 x_1.2.1.2.2.1) ∧ inK IntKind.i64 x_1.2.2.1) → (∃ (x_1 : Nat), (x_1 ≤ x.1.length ∧ ∀ (e : Int × (Int × Int × Int × Unit) × Int × Unit), e ∈ List.take x_1 x.1 → x.2.1.2 (e, ()) = false) ∧ (0 : Int) = (↑x_1 : Int)) ∧ ∀ (x_1 : Nat), (x_1 ≤ x.1.length ∧ ∀ (e : Int × (Int × Int × Int × Unit) × Int × Unit), e ∈ List.take x_1 x.1 → x.2.1.2 (e, ()) = false) → inK IntKind.i64 (↑x_1 : Int) → ((↑x_1 : Int) < (↑x.1.length : Int) → (inN (↑x_1 : Int) x.1.length ∧ x.2.1.1 (x.1.getD x_1 ((0 : Int), ((0 : Int), (0 : Int), (0 : Int), ()), (0 : Int), ()), ())) ∧ (x.2.1.2 (x.1.getD x_1 ((0 : Int), ((0 : Int), (0 : Int), (0 : Int), ()), (0 : Int), ()), ()) = true → (↑x_1 : Int) = Sp.findI (fun (e : Sp.LEv) => x.2.1.2 (e, ())) x.1) ∧ (x.2.1.2 (x.1.getD x_1 ((0 : Int), ((0 : Int), (0 : Int), (0 : Int), ()), (0 : Int), ()), ()) = false → inK IntKind.i64 ((↑x_1 : Int) + (1 : Int)) ∧ ∃ (y : Nat), (y ≤ x.1.length ∧ ∀ (e : Int × (Int × Int × Int × Unit) × Int × Unit), e ∈ List.take y x.1 → x.2.1.2 (e, ()) = false) ∧ x.1.length - y < x.1.length - x_1 ∧ (↑x_1 : Int) + (1 : Int) = (↑y : Int))) ∧ ((↑x.1.length : Int) ≤ (↑x_1 : Int) → (-1 : Int) = Sp.findI (fun (e : Sp.LEv) => x.2.1.2 (e, ())) x.1))) : funI C64 (stpP C64) S64 L64 Try.f64 := by
  have e : funI C64 (stpP C64) S64 L64 Try.f64 = (
  ∀ (x : List (Int × (Int × Int × Int × Unit) × Int × Unit) × Fun (tLEv :: ([] : List Ty)) Ty.bool × Unit), (∀ (e : Int × (Int × Int × Int × Unit) × Int × Unit), x.2.1.1 (e, ())) → (x.1.length ≤ lim ∧ ∀ (x_1 : Int × (Int × Int × Int × Unit) × Int × Unit), x_1 ∈ x.1 → inK IntKind.i64 x_1.1 ∧ (inK IntKind.i64 x_1.2.1.1 ∧ inK IntKind.i64 x_1.2.1.2.1 ∧ inK IntKind.i64 x_1.2.1.2.2.1 ∧ True) ∧ inK IntKind.i64 x_1.2.2.1 ∧ True) ∧ True → ((True ∧ True) ∧ True) ∧ ((True ∧ True ∧ True ∧ True) ∧ True) ∧ (∃ (x_1 : Nat), (x_1 ≤ x.1.length ∧ ∀ (e : Int × (Int × Int × Int × Unit) × Int × Unit), e ∈ List.take x_1 x.1 → x.2.1.2 (e, ()) = false) ∧ (0 : Int) = (↑x_1 : Int) ∧ x.1 = x.1 ∧ (∃ (h1 : tLEv :: ([] : List Ty) = tLEv :: ([] : List Ty)), ∃ (h2 : Ty.bool = Ty.bool), x.2.1 = x.2.1) ∧ (↑x.1.length : Int) = (↑x.1.length : Int) ∧ True) ∧ ∀ (x_1 : Nat), (x_1 ≤ x.1.length ∧ ∀ (e : Int × (Int × Int × Int × Unit) × Int × Unit), e ∈ List.take x_1 x.1 → x.2.1.2 (e, ()) = false) → inK IntKind.i64 (↑x_1 : Int) ∧ True → ((True ∧ True) ∧ True) ∧ (decide ((↑x_1 : Int) < (↑x.1.length : Int)) = true → ((True ∧ True ∧ True) ∧ True) ∧ ((True ∧ True ∧ True ∧ inN (↑x_1 : Int) x.1.length ∧ True ∧ x.2.1.1 (x.1.getD (↑x_1 : Int).toNat ((0 : Int), ((0 : Int), (0 : Int), (0 : Int), ()), (0 : Int), ()), ()) ∧ True) ∧ True) ∧ (x.2.1.2 (x.1.getD (↑x_1 : Int).toNat ((0 : Int), ((0 : Int), (0 : Int), (0 : Int), ()), (0 : Int), ()), ()) = true → ((True ∧ True ∧ True) ∧ True) ∧ (↑x_1 : Int) = Sp.findI (fun (e : Sp.LEv) => x.2.1.2 (e, ())) x.1) ∧ (x.2.1.2 (x.1.getD (↑x_1 : Int).toNat ((0 : Int), ((0 : Int), (0 : Int), (0 : Int), ()), (0 : Int), ()), ()) = false → ((inK IntKind.i64 ((↑x_1 : Int) + (1 : Int)) ∧ True ∧ True) ∧ True) ∧ ∃ (y : Nat), (y ≤ x.1.length ∧ ∀ (e : Int × (Int × Int × Int × Unit) × Int × Unit), e ∈ List.take y x.1 → x.2.1.2 (e, ()) = false) ∧ x.1.length - y < x.1.length - x_1 ∧ (↑x_1 : Int) + (1 : Int) = (↑y : Int) ∧ x.1 = x.1 ∧ (∃ (h1 : tLEv :: ([] : List Ty) = tLEv :: ([] : List Ty)), ∃ (h2 : Ty.bool = Ty.bool), x.2.1 = x.2.1) ∧ (↑x.1.length : Int) = (↑x.1.length : Int) ∧ True)) ∧ (decide ((↑x_1 : Int) < (↑x.1.length : Int)) = false → ((True ∧ True) ∧ True) ∧ (-1 : Int) = Sp.findI (fun (e : Sp.LEv) => x.2.1.2 (e, ())) x.1)) := by kernel_rfl
  rw [e]
  simp only [true_and, and_true, eq_self, forall_const, decide_eq_true_eq, decide_eq_false_iff_not, Int.not_lt, Int.not_le, Bool.and_eq_true, true_implies, implies_true, Bool.not_eq_true', Bool.not_eq_false', false_implies, Bool.false_eq_true, Bool.true_eq_false, and_self, beq_iff_eq, beq_eq_false_iff_ne, ne_eq, Int.toNat_natCast, Bool.cond_false_right, Bool.cond_true_left, exists_prop, ge_iff_le, gt_iff_lt, List.length_singleton, List.length_nil, List.nil_append, List.append_eq, Bool.cond_false_left, Bool.cond_true_right, Bool.or_false, Bool.and_true, Bool.or_eq_false_iff, Bool.not_eq_true, bne_iff_ne, bne_eq_false_iff_eq]
  all_goals first | exact h | (simp only [true_and, and_true, eq_self, forall_const, decide_eq_true_eq, decide_eq_false_iff_not, Int.not_lt, Int.not_le, Bool.and_eq_true, true_implies, implies_true, Bool.not_eq_true', Bool.not_eq_false', false_implies, Bool.false_eq_true, Bool.true_eq_false, and_self, beq_iff_eq, beq_eq_false_iff_ne, ne_eq, Int.toNat_natCast, Bool.cond_false_right, Bool.cond_true_left, exists_prop, ge_iff_le, gt_iff_lt, List.length_singleton, List.length_nil, List.nil_append, List.append_eq, Bool.cond_false_left, Bool.cond_true_right, Bool.or_false, Bool.and_true, Bool.or_eq_false_iff, Bool.not_eq_true, bne_iff_ne, bne_eq_false_iff_eq] at h; exact h)
theorem vc60 (h : (
  ∀ (x : List (Int × (Int × Int × Int × Unit) × Int × Unit) × Fun (tLEv :: ([] : List Ty)) Ty.bool × Unit), (∀ (e : Int × (Int × Int × Int × Unit) × Int × Unit), x.2.1.1 (e, ())) → (x.1.length ≤ lim ∧ ∀ (x_1 : Int × (Int × Int × Int × Unit) × Int × Unit), x_1 ∈ x.1 → inK IntKind.i64 x_1.1 ∧ (inK IntKind.i64 x_1.2.1.1 ∧ inK IntKind.i64 x_1.2.1.2.1 ∧ inK IntKind.i64 x_1.2.1.2.2.1) ∧ inK IntKind.i64 x_1.2.2.1) → (∀ (e : Int × (Int × Int × Int × Unit) × Int × Unit), x.2.1.1 (e, ())) ∧ decide ((0 : Int) ≤ Sp.findI (fun (e : Sp.LEv) => x.2.1.2 (e, ())) x.1) = x.1.any fun (e : tLEv.den) => x.2.1.2 (e, ()))) : funI C60 (stpP C60) S60 L60 Try.f60 := by
  have e : funI C60 (stpP C60) S60 L60 Try.f60 = (
  ∀ (x : List (Int × (Int × Int × Int × Unit) × Int × Unit) × Fun (tLEv :: ([] : List Ty)) Ty.bool × Unit), (∀ (e : Int × (Int × Int × Int × Unit) × Int × Unit), x.2.1.1 (e, ())) → (x.1.length ≤ lim ∧ ∀ (x_1 : Int × (Int × Int × Int × Unit) × Int × Unit), x_1 ∈ x.1 → inK IntKind.i64 x_1.1 ∧ (inK IntKind.i64 x_1.2.1.1 ∧ inK IntKind.i64 x_1.2.1.2.1 ∧ inK IntKind.i64 x_1.2.1.2.2.1 ∧ True) ∧ inK IntKind.i64 x_1.2.2.1 ∧ True) ∧ True → ((True ∧ True) ∧ True) ∧ ((True ∧ True ∧ (∀ (e : Int × (Int × Int × Int × Unit) × Int × Unit), x.2.1.1 (e, ())) ∧ True ∧ True ∧ True) ∧ True) ∧ decide (Sp.findI (fun (e : Sp.LEv) => x.2.1.2 (e, ())) x.1 ≥ (0 : Int)) = x.1.any fun (e : tLEv.den) => x.2.1.2 (e, ())) := by kernel_rfl
  rw [e]
  simp only [true_and, and_true, eq_self, forall_const, decide_eq_true_eq, decide_eq_false_iff_not, Int.not_lt, Int.not_le, Bool.and_eq_true, true_implies, implies_true, Bool.not_eq_true', Bool.not_eq_false', false_implies, Bool.false_eq_true, Bool.true_eq_false, and_self, beq_iff_eq, beq_eq_false_iff_ne, ne_eq, Int.toNat_natCast, Bool.cond_false_right, Bool.cond_true_left, exists_prop, ge_iff_le, gt_iff_lt, List.length_singleton, List.length_nil, List.nil_append, List.append_eq, Bool.cond_false_left, Bool.cond_true_right, Bool.or_false, Bool.and_true, Bool.or_eq_false_iff, Bool.not_eq_true, bne_iff_ne, bne_eq_false_iff_eq]
  all_goals first | exact h | (simp only [true_and, and_true, eq_self, forall_const, decide_eq_true_eq, decide_eq_false_iff_not, Int.not_lt, Int.not_le, Bool.and_eq_true, true_implies, implies_true, Bool.not_eq_true', Bool.not_eq_false', false_implies, Bool.false_eq_true, Bool.true_eq_false, and_self, beq_iff_eq, beq_eq_false_iff_ne, ne_eq, Int.toNat_natCast, Bool.cond_false_right, Bool.cond_true_left, exists_prop, ge_iff_le, gt_iff_lt, List.length_singleton, List.length_nil, List.nil_append, List.append_eq, Bool.cond_false_left, Bool.cond_true_right, Bool.or_false, Bool.and_true, Bool.or_eq_false_iff, Bool.not_eq_true, bne_iff_ne, bne_eq_false_iff_eq] at h; exact h)
theorem vc40 (h : (
  ∀ (x : (List (Int × (Int × Int × Int × Unit) × Int × Unit) × List Int × List (List Int) × List Int × Unit) × Int × Unit), x.2.1 < (↑x.1.1.length : Int) → ((x.1.1.length ≤ lim ∧ ∀ (x_1 : Int × (Int × Int × Int × Unit) × Int × Unit), x_1 ∈ x.1.1 → inK IntKind.i64 x_1.1 ∧ (inK IntKind.i64 x_1.2.1.1 ∧ inK IntKind.i64 x_1.2.1.2.1 ∧ inK IntKind.i64 x_1.2.1.2.2.1) ∧ inK IntKind.i64 x_1.2.2.1) ∧ (x.1.2.1.length ≤ lim ∧ ∀ (x_1 : Int), x_1 ∈ x.1.2.1 → inK IntKind.i64 x_1) ∧ (x.1.2.2.1.length ≤ lim ∧ ∀ (x_1 : List Int), x_1 ∈ x.1.2.2.1 → x_1.length ≤ lim ∧ ∀ (x : Int), x ∈ x_1 → inK IntKind.i64 x) ∧ x.1.2.2.2.1.length ≤ lim ∧ ∀ (x_1 : Int), x_1 ∈ x.1.2.2.2.1 → inK IntKind.i64 x_1) ∧ inK IntKind.i64 x.2.1 → (x.2.1 < (0 : Int) → (0 : Int) = Sp.value x.1.1 x.2.1) ∧ ((0 : Int) ≤ x.2.1 → inN x.2.1 x.1.1.length ∧ ((x.1.1.getD x.2.1.toNat ((0 : Int), ((0 : Int), (0 : Int), (0 : Int), ()), (0 : Int), ())).2.1.1 = (3 : Int) → inN x.2.1 x.1.1.length ∧ IntKind.i64.wrap ((x.1.1.getD x.2.1.toNat ((0 : Int), ((0 : Int), (0 : Int), (0 : Int), ()), (0 : Int), ())).2.2.1 + (x.1.1.getD x.2.1.toNat ((0 : Int), ((0 : Int), (0 : Int), (0 : Int), ()), (0 : Int), ())).2.1.2.2.1) = Sp.value x.1.1 x.2.1) ∧ (¬(x.1.1.getD x.2.1.toNat ((0 : Int), ((0 : Int), (0 : Int), (0 : Int), ()), (0 : Int), ())).2.1.1 = (3 : Int) → inN x.2.1 x.1.1.length ∧ (x.1.1.getD x.2.1.toNat ((0 : Int), ((0 : Int), (0 : Int), (0 : Int), ()), (0 : Int), ())).2.1.2.2.1 = Sp.value x.1.1 x.2.1)))) : funI C40 (stpP C40) S40 L40 Try.f40 := by
  have e : funI C40 (stpP C40) S40 L40 Try.f40 = (
  ∀ (x : (List (Int × (Int × Int × Int × Unit) × Int × Unit) × List Int × List (List Int) × List Int × Unit) × Int × Unit), x.2.1 < (↑x.1.1.length : Int) → ((x.1.1.length ≤ lim ∧ ∀ (x_1 : Int × (Int × Int × Int × Unit) × Int × Unit), x_1 ∈ x.1.1 → inK IntKind.i64 x_1.1 ∧ (inK IntKind.i64 x_1.2.1.1 ∧ inK IntKind.i64 x_1.2.1.2.1 ∧ inK IntKind.i64 x_1.2.1.2.2.1 ∧ True) ∧ inK IntKind.i64 x_1.2.2.1 ∧ True) ∧ (x.1.2.1.length ≤ lim ∧ ∀ (x_1 : Int), x_1 ∈ x.1.2.1 → inK IntKind.i64 x_1) ∧ (x.1.2.2.1.length ≤ lim ∧ ∀ (x_1 : List Int), x_1 ∈ x.1.2.2.1 → x_1.length ≤ lim ∧ ∀ (x : Int), x ∈ x_1 → inK IntKind.i64 x) ∧ (x.1.2.2.2.1.length ≤ lim ∧ ∀ (x_1 : Int), x_1 ∈ x.1.2.2.2.1 → inK IntKind.i64 x_1) ∧ True) ∧ inK IntKind.i64 x.2.1 ∧ True → ((True ∧ True ∧ True) ∧ True) ∧ ((True ∧ True ∧ True) ∧ True) ∧ (decide (x.2.1 < (0 : Int)) = true → ((True ∧ True) ∧ True) ∧ (0 : Int) = Sp.value x.1.1 x.2.1) ∧ (decide (x.2.1 < (0 : Int)) = false → ((True ∧ True ∧ True ∧ inN x.2.1 x.1.1.length ∧ True ∧ True ∧ True ∧ True ∧ True) ∧ True) ∧ (((x.1.1.getD x.2.1.toNat ((0 : Int), ((0 : Int), (0 : Int), (0 : Int), ()), (0 : Int), ())).2.1.1 == (3 : Int)) = true → ((True ∧ True ∧ True ∧ inN x.2.1 x.1.1.length ∧ True ∧ True ∧ True ∧ True ∧ True ∧ inN x.2.1 x.1.1.length ∧ True ∧ True ∧ True ∧ True ∧ True ∧ True) ∧ True) ∧ IntKind.i64.wrap ((x.1.1.getD x.2.1.toNat ((0 : Int), ((0 : Int), (0 : Int), (0 : Int), ()), (0 : Int), ())).2.2.1 + (x.1.1.getD x.2.1.toNat ((0 : Int), ((0 : Int), (0 : Int), (0 : Int), ()), (0 : Int), ())).2.1.2.2.1) = Sp.value x.1.1 x.2.1) ∧ (((x.1.1.getD x.2.1.toNat ((0 : Int), ((0 : Int), (0 : Int), (0 : Int), ()), (0 : Int), ())).2.1.1 == (3 : Int)) = false → ((True ∧ True ∧ True ∧ inN x.2.1 x.1.1.length ∧ True ∧ True ∧ True ∧ True ∧ True) ∧ True) ∧ (x.1.1.getD x.2.1.toNat ((0 : Int), ((0 : Int), (0 : Int), (0 : Int), ()), (0 : Int), ())).2.1.2.2.1 = Sp.value x.1.1 x.2.1))) := by kernel_rfl
  rw [e]
  simp only [true_and, and_true, eq_self, forall_const, decide_eq_true_eq, decide_eq_false_iff_not, Int.not_lt, Int.not_le, Bool.and_eq_true, true_implies, implies_true, Bool.not_eq_true', Bool.not_eq_false', false_implies, Bool.false_eq_true, Bool.true_eq_false, and_self, beq_iff_eq, beq_eq_false_iff_ne, ne_eq, Int.toNat_natCast, Bool.cond_false_right, Bool.cond_true_left, exists_prop, ge_iff_le, gt_iff_lt, List.length_singleton, List.length_nil, List.nil_append, List.append_eq, Bool.cond_false_left, Bool.cond_true_right, Bool.or_false, Bool.and_true, Bool.or_eq_false_iff, Bool.not_eq_true, bne_iff_ne, bne_eq_false_iff_eq]
  all_goals first | exact h | (simp only [true_and, and_true, eq_self, forall_const, decide_eq_true_eq, decide_eq_false_iff_not, Int.not_lt, Int.not_le, Bool.and_eq_true, true_implies, implies_true, Bool.not_eq_true', Bool.not_eq_false', false_implies, Bool.false_eq_true, Bool.true_eq_false, and_self, beq_iff_eq, beq_eq_false_iff_ne, ne_eq, Int.toNat_natCast, Bool.cond_false_right, Bool.cond_true_left, exists_prop, ge_iff_le, gt_iff_lt, List.length_singleton, List.length_nil, List.nil_append, List.append_eq, Bool.cond_false_left, Bool.cond_true_right, Bool.or_false, Bool.and_true, Bool.or_eq_false_iff, Bool.not_eq_true, bne_iff_ne, bne_eq_false_iff_eq] at h; exact h)
theorem vc44 (h : (
  ∀ (x : (List (Int × (Int × Int × Int × Unit) × Int × Unit) × List Int × List (List Int) × List Int × Unit) × Int × Unit), x.2.1 < (↑x.1.1.length : Int) → ((x.1.1.length ≤ lim ∧ ∀ (x_1 : Int × (Int × Int × Int × Unit) × Int × Unit), x_1 ∈ x.1.1 → inK IntKind.i64 x_1.1 ∧ (inK IntKind.i64 x_1.2.1.1 ∧ inK IntKind.i64 x_1.2.1.2.1 ∧ inK IntKind.i64 x_1.2.1.2.2.1) ∧ inK IntKind.i64 x_1.2.2.1) ∧ (x.1.2.1.length ≤ lim ∧ ∀ (x_1 : Int), x_1 ∈ x.1.2.1 → inK IntKind.i64 x_1) ∧ (x.1.2.2.1.length ≤ lim ∧ ∀ (x_1 : List Int), x_1 ∈ x.1.2.2.1 → x_1.length ≤ lim ∧ ∀ (x : Int), x ∈ x_1 → inK IntKind.i64 x) ∧ x.1.2.2.2.1.length ≤ lim ∧ ∀ (x_1 : Int), x_1 ∈ x.1.2.2.2.1 → inK IntKind.i64 x_1) ∧ inK IntKind.i64 x.2.1 → (x.2.1 < (0 : Int) → (0 : Int) = Sp.value x.1.1 x.2.1) ∧ ((0 : Int) ≤ x.2.1 → inN x.2.1 x.1.1.length ∧ ((x.1.1.getD x.2.1.toNat ((0 : Int), ((0 : Int), (0 : Int), (0 : Int), ()), (0 : Int), ())).2.1.1 = (3 : Int) → inN x.2.1 x.1.1.length ∧ IntKind.i64.wrap ((x.1.1.getD x.2.1.toNat ((0 : Int), ((0 : Int), (0 : Int), (0 : Int), ()), (0 : Int), ())).2.2.1 + (x.1.1.getD x.2.1.toNat ((0 : Int), ((0 : Int), (0 : Int), (0 : Int), ()), (0 : Int), ())).2.1.2.2.1) = Sp.value x.1.1 x.2.1) ∧ (¬(x.1.1.getD x.2.1.toNat ((0 : Int), ((0 : Int), (0 : Int), (0 : Int), ()), (0 : Int), ())).2.1.1 = (3 : Int) → inN x.2.1 x.1.1.length ∧ (x.1.1.getD x.2.1.toNat ((0 : Int), ((0 : Int), (0 : Int), (0 : Int), ()), (0 : Int), ())).2.1.2.2.1 = Sp.value x.1.1 x.2.1)))) : funI C44 (stpP C44) S44 L44 Try.f44 := by
  have e : funI C44 (stpP C44) S44 L44 Try.f44 = (
  ∀ (x : (List (Int × (Int × Int × Int × Unit) × Int × Unit) × List Int × List (List Int) × List Int × Unit) × Int × Unit), x.2.1 < (↑x.1.1.length : Int) → ((x.1.1.length ≤ lim ∧ ∀ (x_1 : Int × (Int × Int × Int × Unit) × Int × Unit), x_1 ∈ x.1.1 → inK IntKind.i64 x_1.1 ∧ (inK IntKind.i64 x_1.2.1.1 ∧ inK IntKind.i64 x_1.2.1.2.1 ∧ inK IntKind.i64 x_1.2.1.2.2.1 ∧ True) ∧ inK IntKind.i64 x_1.2.2.1 ∧ True) ∧ (x.1.2.1.length ≤ lim ∧ ∀ (x_1 : Int), x_1 ∈ x.1.2.1 → inK IntKind.i64 x_1) ∧ (x.1.2.2.1.length ≤ lim ∧ ∀ (x_1 : List Int), x_1 ∈ x.1.2.2.1 → x_1.length ≤ lim ∧ ∀ (x : Int), x ∈ x_1 → inK IntKind.i64 x) ∧ (x.1.2.2.2.1.length ≤ lim ∧ ∀ (x_1 : Int), x_1 ∈ x.1.2.2.2.1 → inK IntKind.i64 x_1) ∧ True) ∧ inK IntKind.i64 x.2.1 ∧ True → ((True ∧ True ∧ True) ∧ True) ∧ ((True ∧ True ∧ True ∧ True) ∧ True) ∧ (decide (x.2.1 < (0 : Int)) = true → ((True ∧ True) ∧ True) ∧ (0 : Int) = Sp.value x.1.1 x.2.1) ∧ (decide (x.2.1 < (0 : Int)) = false → ((True ∧ True ∧ True ∧ inN x.2.1 x.1.1.length ∧ True ∧ True ∧ True ∧ True ∧ True ∧ True) ∧ True) ∧ (((x.1.1.getD x.2.1.toNat ((0 : Int), ((0 : Int), (0 : Int), (0 : Int), ()), (0 : Int), ())).2.1.1 == (3 : Int)) = true → ((True ∧ True ∧ True ∧ inN x.2.1 x.1.1.length ∧ True ∧ True ∧ True ∧ True ∧ True ∧ inN x.2.1 x.1.1.length ∧ True ∧ True ∧ True ∧ True ∧ True ∧ True) ∧ True) ∧ IntKind.i64.wrap ((x.1.1.getD x.2.1.toNat ((0 : Int), ((0 : Int), (0 : Int), (0 : Int), ()), (0 : Int), ())).2.2.1 + (x.1.1.getD x.2.1.toNat ((0 : Int), ((0 : Int), (0 : Int), (0 : Int), ()), (0 : Int), ())).2.1.2.2.1) = Sp.value x.1.1 x.2.1) ∧ (((x.1.1.getD x.2.1.toNat ((0 : Int), ((0 : Int), (0 : Int), (0 : Int), ()), (0 : Int), ())).2.1.1 == (3 : Int)) = false → ((True ∧ True ∧ True ∧ inN x.2.1 x.1.1.length ∧ True ∧ True ∧ True ∧ True ∧ True) ∧ True) ∧ (x.1.1.getD x.2.1.toNat ((0 : Int), ((0 : Int), (0 : Int), (0 : Int), ()), (0 : Int), ())).2.1.2.2.1 = Sp.value x.1.1 x.2.1))) := by kernel_rfl
  rw [e]
  simp only [true_and, and_true, eq_self, forall_const, decide_eq_true_eq, decide_eq_false_iff_not, Int.not_lt, Int.not_le, Bool.and_eq_true, true_implies, implies_true, Bool.not_eq_true', Bool.not_eq_false', false_implies, Bool.false_eq_true, Bool.true_eq_false, and_self, beq_iff_eq, beq_eq_false_iff_ne, ne_eq, Int.toNat_natCast, Bool.cond_false_right, Bool.cond_true_left, exists_prop, ge_iff_le, gt_iff_lt, List.length_singleton, List.length_nil, List.nil_append, List.append_eq, Bool.cond_false_left, Bool.cond_true_right, Bool.or_false, Bool.and_true, Bool.or_eq_false_iff, Bool.not_eq_true, bne_iff_ne, bne_eq_false_iff_eq]
  all_goals first | exact h | (simp only [true_and, and_true, eq_self, forall_const, decide_eq_true_eq, decide_eq_false_iff_not, Int.not_lt, Int.not_le, Bool.and_eq_true, true_implies, implies_true, Bool.not_eq_true', Bool.not_eq_false', false_implies, Bool.false_eq_true, Bool.true_eq_false, and_self, beq_iff_eq, beq_eq_false_iff_ne, ne_eq, Int.toNat_natCast, Bool.cond_false_right, Bool.cond_true_left, exists_prop, ge_iff_le, gt_iff_lt, List.length_singleton, List.length_nil, List.nil_append, List.append_eq, Bool.cond_false_left, Bool.cond_true_right, Bool.or_false, Bool.and_true, Bool.or_eq_false_iff, Bool.not_eq_true, bne_iff_ne, bne_eq_false_iff_eq] at h; exact h)
theorem vc38 (h : (
  ∀ (x : List Int × Int × Unit), (0 : (AK.val tI).den) ≤ x.2.1 → (x.1.length ≤ lim ∧ ∀ (x_1 : Int), x_1 ∈ x.1 → inK IntKind.u8 x_1) ∧ inK IntKind.i64 x.2.1 → (x.2.1 < (↑x.1.length : Int) → inN x.2.1 x.1.length ∧ x.1.getD x.2.1.toNat (0 : Int) = Sp.byteAt x.1 x.2.1) ∧ ((↑x.1.length : Int) ≤ x.2.1 → (0 : Int) = Sp.byteAt x.1 x.2.1))) : funI C38 (stpP C38) S38 L38 Try.f38 := by
  have e : funI C38 (stpP C38) S38 L38 Try.f38 = (
  ∀ (x : List Int × Int × Unit), (0 : (AK.val tI).den) ≤ x.2.1 → (x.1.length ≤ lim ∧ ∀ (x_1 : Int), x_1 ∈ x.1 → inK IntKind.u8 x_1) ∧ inK IntKind.i64 x.2.1 ∧ True → ((True ∧ True) ∧ True) ∧ ((True ∧ True ∧ True ∧ True ∧ True) ∧ True) ∧ (decide (x.2.1 < (↑x.1.length : Int)) = true → ((True ∧ True ∧ inN x.2.1 x.1.length ∧ True ∧ True ∧ True ∧ True) ∧ True) ∧ x.1.getD x.2.1.toNat (0 : Int) = Sp.byteAt x.1 x.2.1) ∧ (decide (x.2.1 < (↑x.1.length : Int)) = false → ((True ∧ True) ∧ True) ∧ (0 : Int) = Sp.byteAt x.1 x.2.1)) := by kernel_rfl
  rw [e]
  simp only [true_and, and_true, eq_self, forall_const, decide_eq_true_eq, decide_eq_false_iff_not, Int.not_lt, Int.not_le, Bool.and_eq_true, true_implies, implies_true, Bool.not_eq_true', Bool.not_eq_false', false_implies, Bool.false_eq_true, Bool.true_eq_false, and_self, beq_iff_eq, beq_eq_false_iff_ne, ne_eq, Int.toNat_natCast, Bool.cond_false_right, Bool.cond_true_left, exists_prop, ge_iff_le, gt_iff_lt, List.length_singleton, List.length_nil, List.nil_append, List.append_eq, Bool.cond_false_left, Bool.cond_true_right, Bool.or_false, Bool.and_true, Bool.or_eq_false_iff, Bool.not_eq_true, bne_iff_ne, bne_eq_false_iff_eq]
  all_goals first | exact h | (simp only [true_and, and_true, eq_self, forall_const, decide_eq_true_eq, decide_eq_false_iff_not, Int.not_lt, Int.not_le, Bool.and_eq_true, true_implies, implies_true, Bool.not_eq_true', Bool.not_eq_false', false_implies, Bool.false_eq_true, Bool.true_eq_false, and_self, beq_iff_eq, beq_eq_false_iff_ne, ne_eq, Int.toNat_natCast, Bool.cond_false_right, Bool.cond_true_left, exists_prop, ge_iff_le, gt_iff_lt, List.length_singleton, List.length_nil, List.nil_append, List.append_eq, Bool.cond_false_left, Bool.cond_true_right, Bool.or_false, Bool.and_true, Bool.or_eq_false_iff, Bool.not_eq_true, bne_iff_ne, bne_eq_false_iff_eq] at h; exact h)
theorem vc46 (h : (
  ∀ (x : (Int × Int × Int × Unit) × Int × Unit), (inK IntKind.i64 x.1.1 ∧ inK IntKind.i64 x.1.2.1 ∧ inK IntKind.i64 x.1.2.2.1) ∧ inK IntKind.i64 x.2.1 → (Sp.writes x.1 && x.1.2.1 == x.2.1) = (Sp.writes x.1 && decide (x.1.2.1 = x.2.1)))) : funI C46 (stpP C46) S46 L46 Try.f46 := by
  have e : funI C46 (stpP C46) S46 L46 Try.f46 = (
  ∀ (x : (Int × Int × Int × Unit) × Int × Unit), True → (inK IntKind.i64 x.1.1 ∧ inK IntKind.i64 x.1.2.1 ∧ inK IntKind.i64 x.1.2.2.1 ∧ True) ∧ inK IntKind.i64 x.2.1 ∧ True → ((True ∧ True ∧ True) ∧ True) ∧ ((True ∧ True ∧ True ∧ ((true && bif Sp.writes x.1 then true else false) = true → True) ∧ ((true && bif Sp.writes x.1 then true else false) = true → True) ∧ ((true && bif Sp.writes x.1 then true else false) = true → True) ∧ ((true && bif Sp.writes x.1 then true else false) = true → True) ∧ True ∧ True ∧ True) ∧ True) ∧ (bif Sp.writes x.1 then x.1.2.1 == x.2.1 else false) = (Sp.writes x.1 && decide (x.1.2.1 = x.2.1))) := by kernel_rfl
  rw [e]
  simp only [true_and, and_true, eq_self, forall_const, decide_eq_true_eq, decide_eq_false_iff_not, Int.not_lt, Int.not_le, Bool.and_eq_true, true_implies, implies_true, Bool.not_eq_true', Bool.not_eq_false', false_implies, Bool.false_eq_true, Bool.true_eq_false, and_self, beq_iff_eq, beq_eq_false_iff_ne, ne_eq, Int.toNat_natCast, Bool.cond_false_right, Bool.cond_true_left, exists_prop, ge_iff_le, gt_iff_lt, List.length_singleton, List.length_nil, List.nil_append, List.append_eq, Bool.cond_false_left, Bool.cond_true_right, Bool.or_false, Bool.and_true, Bool.or_eq_false_iff, Bool.not_eq_true, bne_iff_ne, bne_eq_false_iff_eq]
  all_goals first | exact h | (simp only [true_and, and_true, eq_self, forall_const, decide_eq_true_eq, decide_eq_false_iff_not, Int.not_lt, Int.not_le, Bool.and_eq_true, true_implies, implies_true, Bool.not_eq_true', Bool.not_eq_false', false_implies, Bool.false_eq_true, Bool.true_eq_false, and_self, beq_iff_eq, beq_eq_false_iff_ne, ne_eq, Int.toNat_natCast, Bool.cond_false_right, Bool.cond_true_left, exists_prop, ge_iff_le, gt_iff_lt, List.length_singleton, List.length_nil, List.nil_append, List.append_eq, Bool.cond_false_left, Bool.cond_true_right, Bool.or_false, Bool.and_true, Bool.or_eq_false_iff, Bool.not_eq_true, bne_iff_ne, bne_eq_false_iff_eq] at h; exact h)
theorem vc47 (h : (
  ∀ (x : (Int × Int × Int × Unit) × Unit), inK IntKind.i64 x.1.1 ∧ inK IntKind.i64 x.1.2.1 ∧ inK IntKind.i64 x.1.2.2.1 → (x.1.1 == (4 : Int)) = decide (x.1.1 = (4 : tI.den)))) : funI C47 (stpP C47) S47 L47 Try.f47 := by
  have e : funI C47 (stpP C47) S47 L47 Try.f47 = (
  ∀ (x : (Int × Int × Int × Unit) × Unit), True → (inK IntKind.i64 x.1.1 ∧ inK IntKind.i64 x.1.2.1 ∧ inK IntKind.i64 x.1.2.2.1 ∧ True) ∧ True → ((True ∧ True ∧ True) ∧ True) ∧ ((True ∧ True ∧ True ∧ True ∧ True) ∧ True) ∧ (x.1.1 == (4 : Int)) = decide (x.1.1 = (4 : tI.den))) := by kernel_rfl
  rw [e]
  simp only [true_and, and_true, eq_self, forall_const, decide_eq_true_eq, decide_eq_false_iff_not, Int.not_lt, Int.not_le, Bool.and_eq_true, true_implies, implies_true, Bool.not_eq_true', Bool.not_eq_false', false_implies, Bool.false_eq_true, Bool.true_eq_false, and_self, beq_iff_eq, beq_eq_false_iff_ne, ne_eq, Int.toNat_natCast, Bool.cond_false_right, Bool.cond_true_left, exists_prop, ge_iff_le, gt_iff_lt, List.length_singleton, List.length_nil, List.nil_append, List.append_eq, Bool.cond_false_left, Bool.cond_true_right, Bool.or_false, Bool.and_true, Bool.or_eq_false_iff, Bool.not_eq_true, bne_iff_ne, bne_eq_false_iff_eq]
  all_goals first | exact h | (simp only [true_and, and_true, eq_self, forall_const, decide_eq_true_eq, decide_eq_false_iff_not, Int.not_lt, Int.not_le, Bool.and_eq_true, true_implies, implies_true, Bool.not_eq_true', Bool.not_eq_false', false_implies, Bool.false_eq_true, Bool.true_eq_false, and_self, beq_iff_eq, beq_eq_false_iff_ne, ne_eq, Int.toNat_natCast, Bool.cond_false_right, Bool.cond_true_left, exists_prop, ge_iff_le, gt_iff_lt, List.length_singleton, List.length_nil, List.nil_append, List.append_eq, Bool.cond_false_left, Bool.cond_true_right, Bool.or_false, Bool.and_true, Bool.or_eq_false_iff, Bool.not_eq_true, bne_iff_ne, bne_eq_false_iff_eq] at h; exact h)
theorem vc27 (h : (
  ∀ (x : Int × Int × Unit), inK IntKind.i64 x.1 ∧ inK IntKind.i64 x.2.1 → ((2 : Int), x.1, x.2.1, ()) = ((2 : tI.den), x.1, x.2.1, ()))) : funI C27 (stpP C27) S27 L27 Try.f27 := by
  have e : funI C27 (stpP C27) S27 L27 Try.f27 = (
  ∀ (x : Int × Int × Unit), True → inK IntKind.i64 x.1 ∧ inK IntKind.i64 x.2.1 ∧ True → ((True ∧ True) ∧ True) ∧ ((True ∧ True ∧ True ∧ True) ∧ True ∧ True) ∧ ((2 : Int), x.1, x.2.1, ()) = ((2 : tI.den), x.1, x.2.1, ())) := by kernel_rfl
  rw [e]
  simp only [true_and, and_true, eq_self, forall_const, decide_eq_true_eq, decide_eq_false_iff_not, Int.not_lt, Int.not_le, Bool.and_eq_true, true_implies, implies_true, Bool.not_eq_true', Bool.not_eq_false', false_implies, Bool.false_eq_true, Bool.true_eq_false, and_self, beq_iff_eq, beq_eq_false_iff_ne, ne_eq, Int.toNat_natCast, Bool.cond_false_right, Bool.cond_true_left, exists_prop, ge_iff_le, gt_iff_lt, List.length_singleton, List.length_nil, List.nil_append, List.append_eq, Bool.cond_false_left, Bool.cond_true_right, Bool.or_false, Bool.and_true, Bool.or_eq_false_iff, Bool.not_eq_true, bne_iff_ne, bne_eq_false_iff_eq]
  all_goals first | exact h | (simp only [true_and, and_true, eq_self, forall_const, decide_eq_true_eq, decide_eq_false_iff_not, Int.not_lt, Int.not_le, Bool.and_eq_true, true_implies, implies_true, Bool.not_eq_true', Bool.not_eq_false', false_implies, Bool.false_eq_true, Bool.true_eq_false, and_self, beq_iff_eq, beq_eq_false_iff_ne, ne_eq, Int.toNat_natCast, Bool.cond_false_right, Bool.cond_true_left, exists_prop, ge_iff_le, gt_iff_lt, List.length_singleton, List.length_nil, List.nil_append, List.append_eq, Bool.cond_false_left, Bool.cond_true_right, Bool.or_false, Bool.and_true, Bool.or_eq_false_iff, Bool.not_eq_true, bne_iff_ne, bne_eq_false_iff_eq] at h; exact h)
theorem vc28 (h : (
  ∀ (x : Int × Unit), inK IntKind.i64 x.1 → ((1 : Int), x.1, (0 : Int), ()) = ((1 : tI.den), x.1, (0 : tI.den), ()))) : funI C28 (stpP C28) S28 L28 Try.f28 := by
  have e : funI C28 (stpP C28) S28 L28 Try.f28 = (
  ∀ (x : Int × Unit), True → inK IntKind.i64 x.1 ∧ True → ((True ∧ True) ∧ True) ∧ ((True ∧ True ∧ True) ∧ True ∧ True) ∧ ((1 : Int), x.1, (0 : Int), ()) = ((1 : tI.den), x.1, (0 : tI.den), ())) := by kernel_rfl
  rw [e]
  simp only [true_and, and_true, eq_self, forall_const, decide_eq_true_eq, decide_eq_false_iff_not, Int.not_lt, Int.not_le, Bool.and_eq_true, true_implies, implies_true, Bool.not_eq_true', Bool.not_eq_false', false_implies, Bool.false_eq_true, Bool.true_eq_false, and_self, beq_iff_eq, beq_eq_false_iff_ne, ne_eq, Int.toNat_natCast, Bool.cond_false_right, Bool.cond_true_left, exists_prop, ge_iff_le, gt_iff_lt, List.length_singleton, List.length_nil, List.nil_append, List.append_eq, Bool.cond_false_left, Bool.cond_true_right, Bool.or_false, Bool.and_true, Bool.or_eq_false_iff, Bool.not_eq_true, bne_iff_ne, bne_eq_false_iff_eq]
  all_goals first | exact h | (simp only [true_and, and_true, eq_self, forall_const, decide_eq_true_eq, decide_eq_false_iff_not, Int.not_lt, Int.not_le, Bool.and_eq_true, true_implies, implies_true, Bool.not_eq_true', Bool.not_eq_false', false_implies, Bool.false_eq_true, Bool.true_eq_false, and_self, beq_iff_eq, beq_eq_false_iff_ne, ne_eq, Int.toNat_natCast, Bool.cond_false_right, Bool.cond_true_left, exists_prop, ge_iff_le, gt_iff_lt, List.length_singleton, List.length_nil, List.nil_append, List.append_eq, Bool.cond_false_left, Bool.cond_true_right, Bool.or_false, Bool.and_true, Bool.or_eq_false_iff, Bool.not_eq_true, bne_iff_ne, bne_eq_false_iff_eq] at h; exact h)
theorem vc29 (h : (
  ((4 : Int), (0 : Int), (0 : Int), ()) = ((4 : tI.den), (0 : tI.den), (0 : tI.den), ()))) : funI C29 (stpP C29) S29 L29 Try.f29 := by
  have e : funI C29 (stpP C29) S29 L29 Try.f29 = (
  ∀ (x : Unit), True → True → ((True ∧ True) ∧ True) ∧ ((True ∧ True) ∧ True ∧ True) ∧ ((4 : Int), (0 : Int), (0 : Int), ()) = ((4 : tI.den), (0 : tI.den), (0 : tI.den), ())) := by kernel_rfl
  rw [e]
  simp only [true_and, and_true, eq_self, forall_const, decide_eq_true_eq, decide_eq_false_iff_not, Int.not_lt, Int.not_le, Bool.and_eq_true, true_implies, implies_true, Bool.not_eq_true', Bool.not_eq_false', false_implies, Bool.false_eq_true, Bool.true_eq_false, and_self, beq_iff_eq, beq_eq_false_iff_ne, ne_eq, Int.toNat_natCast, Bool.cond_false_right, Bool.cond_true_left, exists_prop, ge_iff_le, gt_iff_lt, List.length_singleton, List.length_nil, List.nil_append, List.append_eq, Bool.cond_false_left, Bool.cond_true_right, Bool.or_false, Bool.and_true, Bool.or_eq_false_iff, Bool.not_eq_true, bne_iff_ne, bne_eq_false_iff_eq]
  all_goals first | exact h | (simp only [true_and, and_true, eq_self, forall_const, decide_eq_true_eq, decide_eq_false_iff_not, Int.not_lt, Int.not_le, Bool.and_eq_true, true_implies, implies_true, Bool.not_eq_true', Bool.not_eq_false', false_implies, Bool.false_eq_true, Bool.true_eq_false, and_self, beq_iff_eq, beq_eq_false_iff_ne, ne_eq, Int.toNat_natCast, Bool.cond_false_right, Bool.cond_true_left, exists_prop, ge_iff_le, gt_iff_lt, List.length_singleton, List.length_nil, List.nil_append, List.append_eq, Bool.cond_false_left, Bool.cond_true_right, Bool.or_false, Bool.and_true, Bool.or_eq_false_iff, Bool.not_eq_true, bne_iff_ne, bne_eq_false_iff_eq] at h; exact h)
end Go.User
namespace Sp

theorem not_mem_take_succ {α : Type} {l : List α} {i : Nat} {n d : α} (h : n ∉ l.take i) (hi : i < l.length) (hn : l.getD i d ≠ n) : n ∉ l.take (i + 1) := by
  rw [List.take_succ_eq_append_getElem hi]
  simp only [List.mem_append, List.mem_singleton, not_or]
  refine ⟨h, fun e => hn ?_⟩
  rw [List.getD_eq_getElem?_getD, List.getElem?_eq_getElem hi]
  exact e.symm

theorem idx_at {l : List Int} {n : Int} {i : Nat} (h : n ∉ l.take i) (hi : i < l.length) (hn : l.getD i 0 = n) : (i : Int) = idx l n := by
  have hg : l[i] = n := by rw [List.getD_eq_getElem?_getD, List.getElem?_eq_getElem hi] at hn; exact hn
  have hm : n ∈ l := hg ▸ List.getElem_mem hi
  unfold idx
  rw [if_pos hm]
  have e : l.idxOf n = i := by
    have := List.idxOf_append (l₁ := l.take i) (l₂ := l.drop i) (a := n)
    rw [List.take_append_drop, if_neg h, List.drop_eq_getElem_cons hi, hg, List.idxOf_cons_self, List.length_take] at this
    omega
  rw [e]

theorem idx_none {l : List Int} {n : Int} (h : n ∉ l) : (-1 : Int) = idx l n := by unfold idx; rw [if_neg h]

theorem take_all {α : Type} {l : List α} {i : Nat} (h1 : i ≤ l.length) (h2 : (l.length : Int) ≤ (i : Int)) : l.take i = l := List.take_of_length_le (by omega)

theorem findI_at {l : List LEv} {p : LEv → Bool} {i : Nat} (h : ∀ e ∈ l.take i, p e = false) (hi : i < l.length) (hp : p (l.getD i ev0) = true) : (i : Int) = findI p l := by
  have hg : l.getD i ev0 = l[i] := by rw [List.getD_eq_getElem?_getD, List.getElem?_eq_getElem hi]; rfl
  rw [hg] at hp
  unfold findI
  have : l.findIdx? p = some i := by
    rw [List.findIdx?_eq_some_iff_getElem]
    refine ⟨hi, hp, fun j hj => ?_⟩
    have := h l[j] (List.mem_take_iff_getElem.2 ⟨j, by omega, rfl⟩)
    rw [this]; simp
  rw [this]
theorem findI_none {l : List LEv} {p : LEv → Bool} (h : ∀ e ∈ l, p e = false) : (-1 : Int) = findI p l := by
  unfold findI
  have : l.findIdx? p = none := by
    rw [List.findIdx?_eq_none_iff]; exact h
  rw [this]
theorem findI_any (l : List LEv) (p : LEv → Bool) : decide (0 ≤ findI p l) = l.any p := by
  unfold findI
  cases h : l.findIdx? p with
  | none =>
    rw [List.findIdx?_eq_none_iff] at h
    have : l.any p = false := by rw [List.any_eq_false]; intro x hx; rw [h x hx]; simp
    rw [this]; rfl
  | some i =>
    rw [List.findIdx?_eq_some_iff_getElem] at h
    obtain ⟨hi, hp, _⟩ := h
    have : l.any p = true := List.any_eq_true.2 ⟨_, List.getElem_mem hi, hp⟩
    rw [this]
    simp
end Sp
namespace Go.User
open Go.Lf
theorem lim_eq : lim = 140737488355328 := rfl
theorem inK_of {z : Int} (h1 : -9223372036854775808 ≤ z) (h2 : z ≤ 9223372036854775807) : inK .i64 z := ⟨h1, h2⟩
theorem inK_nat {n m : Nat} (h1 : n ≤ m) (h2 : m ≤ lim) : inK .i64 (n : Int) := by rw [lim_eq] at h2; exact inK_of (by omega) (by omega)
/-- A counter below a length may go on. -/
theorem inK_succ {i n : Nat} (h : (i : Int) < (n : Int)) (hn : n ≤ lim) : inK .i64 ((i : Int) + 1) := by rw [lim_eq] at hn; exact inK_of (by omega) (by omega)
theorem inN_of {i n : Nat} (h : (i : Int) < (n : Int)) : inN (i : Int) n := ⟨by omega, h⟩
end Go.User
namespace Go.User
open Go.Lf Go.Proofs

theorem okA {n : Nat} {fns : List (FuncId × FSpec)} (h : ∀ f s, Lf.look fns f = some s → FOk Try.prog f s) : CtxOK Try.prog (mkC n fns) := ctx_ok rfl rfl h ptrs_nil

theorem at_vc (x : List Int × Int × Unit) (h : (x.1.length ≤ Go.Lf.lim ∧ ∀ (x_1 : Int), x_1 ∈ x.1 → Go.Lf.inK Go.IntKind.i64 x_1) ∧ Go.Lf.inK Go.IntKind.i64 x.2.1) :
    (∃ (x_1 : Nat), (x_1 ≤ x.1.length ∧ ¬x.2.1 ∈ List.take x_1 x.1) ∧ (0 : Int) = (↑x_1 : Int)) := ⟨0, ⟨Nat.zero_le _, by simp⟩, rfl⟩

theorem ok22 : FOk Try.prog 22 S22 := by
  refine FOk.intro (okA fns_nil) (stpP_ok (okA fns_nil)) Try.call22 Try.func22 (by kernel_rfl) (by kernel_rfl) L22 (vc22 ?_)
  intro x hx
  refine ⟨⟨0, ⟨Nat.zero_le _, by simp⟩, rfl⟩, ?_⟩
  intro i hi hk
  refine ⟨fun hlt => ⟨inN_of hlt, fun h => Sp.idx_at hi.2 (by omega) h, fun h => ⟨inK_succ hlt hx.1.1, i + 1, ⟨by omega, Sp.not_mem_take_succ hi.2 (by omega) h⟩, by omega, by omega⟩⟩, fun hge => ?_⟩
  have := hi.2
  rw [Sp.take_all hi.1 hge] at this
  exact Sp.idx_none this
theorem ok39 : FOk Try.prog 39 S39 := by
  refine FOk.intro (okA fns_nil) (stpP_ok (okA fns_nil)) Try.call39 Try.func39 (by kernel_rfl) (by kernel_rfl) L39 (vc39 ?_)
  intro x hx
  refine ⟨⟨0, ⟨Nat.zero_le _, by simp⟩, rfl⟩, ?_⟩
  intro i hi hk
  refine ⟨fun hlt => ⟨inN_of hlt, fun h => Sp.idx_at hi.2 (by omega) h, fun h => ⟨inK_succ hlt hx.1.1, i + 1, ⟨by omega, Sp.not_mem_take_succ hi.2 (by omega) h⟩, by omega, by omega⟩⟩, fun hge => ?_⟩
  have := hi.2
  rw [Sp.take_all hi.1 hge] at this
  exact Sp.idx_none this
theorem ok63 : FOk Try.prog 63 S63 := by
  refine FOk.intro (okA fns_nil) (stpP_ok (okA fns_nil)) Try.call63 Try.func63 (by kernel_rfl) (by kernel_rfl) L63 (vc63 ?_)
  intro x hx
  refine ⟨⟨0, ⟨Nat.zero_le _, by simp⟩, rfl⟩, ?_⟩
  intro i hi hk
  refine ⟨fun hlt => ⟨inN_of hlt, fun h => Sp.idx_at hi.2 (by omega) h.symm, fun h => ⟨inK_succ hlt hx.1.1, i + 1, ⟨by omega, Sp.not_mem_take_succ hi.2 (by omega) (fun e => h e.symm)⟩, by omega, by omega⟩⟩, fun hge => ?_⟩
  have := hi.2
  rw [Sp.take_all hi.1 hge] at this
  exact Sp.idx_none this
theorem ok42 : FOk Try.prog 42 S42 := FOk.intro (okA fns_nil) (stpP_ok (okA fns_nil)) Try.call42 Try.func42 (by kernel_rfl) (by kernel_rfl) L42 (vc42 (fun x hx => rfl))
theorem ok43 : FOk Try.prog 43 S43 := FOk.intro (okA fns_nil) (stpP_ok (okA fns_nil)) Try.call43 Try.func43 (by kernel_rfl) (by kernel_rfl) L43 (vc43 (fun x hx => rfl))
theorem ok37 : FOk Try.prog 37 S37 := FOk.intro (okA fns_nil) (stpP_ok (okA fns_nil)) Try.call37 Try.func37 (by kernel_rfl) (by kernel_rfl) L37 (vc37 (fun x hx => rfl))
theorem ok32 : FOk Try.prog 32 S32 := FOk.intro (okA fns_nil) (stpP_ok (okA fns_nil)) Try.call32 Try.func32 (by kernel_rfl) (by kernel_rfl) L32 (vc32 (fun x hx => rfl))
theorem ok62 : FOk Try.prog 62 S62 := by
  refine FOk.intro (okA fns_nil) (stpP_ok (okA fns_nil)) Try.call62 Try.func62 (by kernel_rfl) (by kernel_rfl) L62 (vc62 ?_)
  intro x hx
  refine ⟨fun h => ?_, fun h => ⟨fun h1 => ?_, fun h1 => ⟨fun h2 => ⟨fun _ => ?_, fun h3 => absurd h2 h3⟩, fun h2 => ⟨fun h3 => ?_, fun h3 => ?_⟩⟩⟩⟩
  · simp [Sp.usual, h]
  · simp [Sp.usual, h1]; rfl
  · simp [Sp.usual, h2]
  · simp [Sp.usual, h3]
  · simp [Sp.usual, h, h1, h2, h3]
theorem ok61 : FOk Try.prog 61 S61 :=
  have hC : CtxOK Try.prog C61 := okA (fns_cons ok62 fns_nil)
  FOk.intro hC (stpP_ok hC) Try.call61 Try.func61 (by kernel_rfl) (by kernel_rfl) L61 (vc61 (fun x hx => rfl))
theorem ok64 : FOk Try.prog 64 S64 := by
  refine FOk.intro (okA fns_nil) (stpP_ok (okA fns_nil)) Try.call64 Try.func64 (by kernel_rfl) (by kernel_rfl) L64 (vc64 ?_)
  intro x hp hx
  refine ⟨⟨0, ⟨Nat.zero_le _, by simp⟩, rfl⟩, ?_⟩
  intro i hi hk
  refine ⟨fun hlt => ⟨⟨inN_of hlt, hp _⟩, fun h => Sp.findI_at hi.2 (by omega) h, fun h => ⟨inK_succ hlt hx.1, i + 1, ⟨by omega, ?_⟩, by omega, by omega⟩⟩, fun hge => ?_⟩
  · intro e he
    rw [List.take_succ_eq_append_getElem (by omega)] at he
    rcases List.mem_append.1 he with he | he
    · exact hi.2 e he
    · simp only [List.mem_singleton] at he
      rw [List.getD_eq_getElem?_getD, List.getElem?_eq_getElem (by omega)] at h
      rw [he]; exact h
  · have := hi.2
    rw [Sp.take_all hi.1 hge] at this
    exact Sp.findI_none this
theorem ok60 : FOk Try.prog 60 S60 :=
  have hC : CtxOK Try.prog C60 := okA (fns_cons ok64 fns_nil)
  FOk.intro hC (stpP_ok hC) Try.call60 Try.func60 (by kernel_rfl) (by kernel_rfl) L60 (vc60 (fun x hp hx => ⟨hp, Sp.findI_any _ _⟩))
theorem value_vc {e : List Sp.LEv} {n : Int} : (n < 0 → (0 : Int) = Sp.value e n) ∧ (0 ≤ n → (Sp.ev e n).2.1.1 = 3 → IntKind.wrap .i64 ((Sp.ev e n).2.2.1 + (Sp.ev e n).2.1.2.2.1) = Sp.value e n) ∧
    (0 ≤ n → ¬ (Sp.ev e n).2.1.1 = 3 → (Sp.ev e n).2.1.2.2.1 = Sp.value e n) := by
  refine ⟨fun h => ?_, fun h h1 => ?_, fun h h1 => ?_⟩
  · unfold Sp.value; rw [if_pos h]
  · unfold Sp.value; rw [if_neg (by omega), if_pos h1]
  · unfold Sp.value; rw [if_neg (by omega), if_neg h1]
theorem okW {n : Nat} {fns : List (FuncId × FSpec)} {wr : List Nat} (h : ∀ f s, Lf.look fns f = some s → FOk Try.prog f s) : CtxOK Try.prog { mkC n fns with wrp := wr } := ctx_ok rfl rfl h ptrs_nil
theorem ok40 : FOk Try.prog 40 S40 := by
  refine FOk.intro (okW fns_nil) (stpP_ok (okW fns_nil)) Try.call40 Try.func40 (by kernel_rfl) (by kernel_rfl) L40 (vc40 ?_)
  intro x hp hx
  have hv := value_vc (e := x.1.1) (n := x.2.1)
  exact ⟨fun h => hv.1 h, fun h => ⟨⟨h, hp⟩, fun h1 => ⟨⟨h, hp⟩, hv.2.1 h h1⟩, fun h1 => ⟨⟨h, hp⟩, hv.2.2 h h1⟩⟩⟩
theorem ok44 : FOk Try.prog 44 S44 := by
  refine FOk.intro (okW fns_nil) (stpP_ok (okW fns_nil)) Try.call44 Try.func44 (by kernel_rfl) (by kernel_rfl) L44 (vc44 ?_)
  intro x hp hx
  have hv := value_vc (e := x.1.1) (n := x.2.1)
  exact ⟨fun h => hv.1 h, fun h => ⟨⟨h, hp⟩, fun h1 => ⟨⟨h, hp⟩, hv.2.1 h h1⟩, fun h1 => ⟨⟨h, hp⟩, hv.2.2 h h1⟩⟩⟩
theorem ok38 : FOk Try.prog 38 S38 := by
  refine FOk.intro (okA fns_nil) (stpP_ok (okA fns_nil)) Try.call38 Try.func38 (by kernel_rfl) (by kernel_rfl) L38 (vc38 ?_)
  intro x hp hx
  refine ⟨fun h => ⟨⟨hp, h⟩, ?_⟩, fun h => ?_⟩
  · unfold Sp.byteAt; rw [if_pos h]
  · unfold Sp.byteAt; rw [if_neg (by omega)]
theorem ok46 : FOk Try.prog 46 S46 :=
  have hC : CtxOK Try.prog C46 := okA (fns_cons ok43 fns_nil)
  FOk.intro hC (stpP_ok hC) Try.call46 Try.func46 (by kernel_rfl) (by kernel_rfl) L46 (vc46 (fun x hx => rfl))
theorem ok47 : FOk Try.prog 47 S47 := FOk.intro (okA fns_nil) (stpP_ok (okA fns_nil)) Try.call47 Try.func47 (by kernel_rfl) (by kernel_rfl) L47 (vc47 (fun x hx => rfl))
theorem ok27 : FOk Try.prog 27 S27 := FOk.intro (okA fns_nil) (stpP_ok (okA fns_nil)) Try.call27 Try.func27 (by kernel_rfl) (by kernel_rfl) L27 (vc27 (fun x hx => rfl))
theorem ok28 : FOk Try.prog 28 S28 := FOk.intro (okA fns_nil) (stpP_ok (okA fns_nil)) Try.call28 Try.func28 (by kernel_rfl) (by kernel_rfl) L28 (vc28 (fun x hx => rfl))
theorem ok29 : FOk Try.prog 29 S29 := FOk.intro (okA fns_nil) (stpP_ok (okA fns_nil)) Try.call29 Try.func29 (by kernel_rfl) (by kernel_rfl) L29 (vc29 rfl)
end Go.User
namespace Sp
def mkEv (c : Int) (o : LOp) : LEv := (c, o, 0, ())
def evs : Int → List (List LOp) → List LEv
  | _, [] => []
  | c, l :: ls => l.map (mkEv c) ++ evs (c + 1) ls
/-- The numbers below n with a property. -/
def sel (p : Nat → Bool) (n : Nat) : List Int := ((List.range n).filter p).map (fun (i : Nat) => (i : Int))
def wr (e : List LEv) (x : Int) : List Int := sel (fun i => writes (ev e i).2.1 && decide ((ev e i).2.1.2.1 = x)) e.length
def fen (e : List LEv) : List Int := sel (fun i => decide ((ev e i).2.1.1 = 4)) e.length
def shuf : Nat → List Int → List Int → Int → List Int
  | 0, _, _, _ => []
  | n + 1, l, b, i => l.getD ((byteAt b i).tmod (l.length : Int)).toNat 0 :: shuf n (l.eraseIdx ((byteAt b i).tmod (l.length : Int)).toNat) b (i + 1)
def shuffled (l b : List Int) (i : Int) : List Int := shuf l.length l b i
def get2 (r : Rel) (a b : Nat) : Bool := (r.getD a (List.replicate 6 false)).getD b false
def upd2 (r : Rel) (a b : Nat) (v : Bool) : Rel := r.set a ((r.getD a (List.replicate 6 false)).set b v)
def stepB (k a : Nat) (r : Rel) (b : Nat) : Rel := upd2 r a b (get2 r a b || (get2 r a k && get2 r k b))
def rowB (k a : Nat) (r : Rel) (n : Nat) : Rel := (List.range n).foldl (stepB k a) r
def rowA (k : Nat) (r : Rel) (n : Nat) : Rel := (List.range n).foldl (fun r a => rowB k a r 6) r
def closeN (r : Rel) (n : Nat) : Rel := (List.range n).foldl (fun r k => rowA k r 6) r
def close (r : Rel) : Rel := closeN r 6
def round (r : Rel) : Bool := (List.range 6).any fun a => get2 r a a
def mat (f : Nat → Nat → Bool) : Rel := (List.range 6).map fun a => (List.range 6).map fun b => f a b
/-- Ordered by the program, or by the fences. -/
def ordF (e : List LEv) (fo : List Int) (a b : Nat) : Bool :=
  (decide (a < b) && decide (b < e.length) && decide ((ev e a).1 = (ev e b).1)) || (List.range fo.length).any fun j => (List.range j).any fun i => decide (fo.getD i 0 = a) && decide (fo.getD j 0 = b)
def oA (e : List LEv) (i a b : Nat) : Bool := decide (a < i) && ordF e [] a b
def oB (e : List LEv) (i k a b : Nat) : Bool := (decide (a < i) || (decide (a = i) && decide (b < k))) && ordF e [] a b
def fo2 (fo : List Int) (p q a b : Nat) : Bool := decide (fo.getD p 0 = (a : Int)) && decide (fo.getD q 0 = (b : Int))
def oC (e : List LEv) (fo : List Int) (i a b : Nat) : Bool := ordF e [] a b || (List.range i).any fun p => (List.range fo.length).any fun q => decide (p < q) && fo2 fo p q a b
def oD (e : List LEv) (fo : List Int) (i k a b : Nat) : Bool := oC e fo i a b || (List.range k).any fun q => fo2 fo i (i + 1 + q) a b
def order (g : Gr) : Rel := mat (ordF g.1 g.2.2.2.1)
def plc (g : Gr) (n : Int) : Int × Int × Unit :=
  (idx (g.2.2.1.getD (ev g.1 n).2.1.2.1.toNat []) n, idx (g.2.2.1.getD (ev g.1 n).2.1.2.1.toNat []) (g.2.1.getD n.toNat 0), ())
/-- A list has exactly the events of a kind, each once. -/
def isList (l : List Int) (e : List LEv) (is : LOp → Bool) : Bool :=
  decide (l.Nodup ∧ ∀ n ∈ l, 0 ≤ n ∧ n < e.length ∧ is (ev e n).2.1 = true) && decide (∀ n < e.length, is (ev e n).2.1 = true → (n : Int) ∈ l)
def valid (t : Lit) : Bool :=
  decide (1 ≤ t.1.length) && decide (t.1.length ≤ 4) && decide (1 ≤ (evs 0 t.1).length) && decide ((evs 0 t.1).length ≤ 6) && (evs 0 t.1).all fun x => usual x.2.1
end Sp
namespace Go.User
open Go.Lf
-- events, Events
def S41 : FSpec := { args := [.val tLit], multi := false, res := .slice tLEv, mode := .own .shr, pre := fun x => (Sp.evs 0 x.1.1).length ≤ 1000, fn := fun x => Sp.evs 0 x.1.1 }
def C41 : Ctx := mkC 31 []
def L41 (x : kdens S41.args) : List LoopI := [
  { ι := Nat × List Sp.LEv, inv := fun i => i.1 ≤ x.1.1.length ∧ i.2 = Sp.evs 0 (x.1.1.take i.1), dec := fun i => x.1.1.length - i.1, ovr := fun i => [(11, .shr tI (i.1 : Int)), (3, .own (.slice tLEv) (.own .shr) i.2)], keep := [1, 9, 10], sub := fun i => [
    { ι := Nat × List Sp.LEv, inv := fun k => k.1 ≤ (x.1.1.getD i.1 []).length ∧ k.2 = Sp.evs 0 (x.1.1.take i.1) ++ ((x.1.1.getD i.1 []).take k.1).map (Sp.mkEv (i.1 : Int)), dec := fun k => (x.1.1.getD i.1 []).length - k.1, ovr := fun k => [(18, .shr tI (k.1 : Int)), (3, .own (.slice tLEv) (.own .shr) k.2)], keep := [1, 9, 10, 11, 4, 16, 17] }] }]
def S33 := S41
def C33 : Ctx := mkC 38 []
def L33 (x : kdens S41.args) : List LoopI := [
  { ι := Nat × List Sp.LEv, inv := fun i => i.1 ≤ x.1.1.length ∧ i.2 = Sp.evs 0 (x.1.1.take i.1), dec := fun i => x.1.1.length - i.1, ovr := fun i => [(4, .shr tI (i.1 : Int)), (3, .own (.slice tLEv) (.own .shr) i.2)], keep := [1], sub := fun i => [
    { ι := Nat × List Sp.LEv, inv := fun k => k.1 ≤ (x.1.1.getD i.1 []).length ∧ k.2 = Sp.evs 0 (x.1.1.take i.1) ++ ((x.1.1.getD i.1 []).take k.1).map (Sp.mkEv (i.1 : Int)), dec := fun k => (x.1.1.getD i.1 []).length - k.1, ovr := fun k => [(5, .shr tI (k.1 : Int)), (3, .own (.slice tLEv) (.own .shr) k.2)], keep := [1, 4] }] }]
-- Writes, Fences
def S34 : FSpec := { args := [.val (.slice tLEv), .val tI], multi := false, res := .slice tI, mode := .own .shr, pre := fun x => List.length x.1 ≤ 1000, fn := fun x => Sp.wr x.1 x.2.1 }
def C34 : Ctx := mkC 35 [(32, S32)]
def L34 (x : kdens S34.args) : List LoopI := [
  { ι := Nat × List Int, inv := fun i => i.1 ≤ List.length x.1 ∧ i.2 = Sp.sel (fun i => Sp.writes (Sp.ev x.1 i).2.1 && decide ((Sp.ev x.1 i).2.1.2.1 = x.2.1)) i.1, dec := fun i => List.length x.1 - i.1, ovr := fun i => [(6, .shr tI (i.1 : Int)), (5, .own (.slice tI) (.own .shr) i.2)], keep := [0, 1] }]
def S36 : FSpec := { args := [.val (.slice tLEv)], multi := false, res := .slice tI, mode := .own .shr, pre := fun x => List.length x.1 ≤ 1000, fn := fun x => Sp.fen x.1 }
def C36 : Ctx := mkC 24 []
def L36 (x : kdens S36.args) : List LoopI := [
  { ι := Nat × List Int, inv := fun i => i.1 ≤ List.length x.1 ∧ i.2 = Sp.sel (fun i => decide ((Sp.ev x.1 i).2.1.1 = 4)) i.1, dec := fun i => List.length x.1 - i.1, ovr := fun i => [(4, .shr tI (i.1 : Int)), (3, .own (.slice tI) (.own .shr) i.2)], keep := [0] }]
-- shuffled
def S35 : FSpec := { args := [.val (.slice tI), .val (.slice (.int .u8)), .val tI], multi := false, res := .slice tI, mode := .own .shr, pre := fun x => List.length x.1 ≤ 1000 ∧ (0 : Int) ≤ x.2.2.1 ∧ (x.2.2.1 : Int) ≤ 1000, fn := fun x => Sp.shuffled x.1 x.2.1 x.2.2.1 }
def C35 : Ctx := mkC 43 [(38, S38)]
def L35 (x : kdens S35.args) : List LoopI := [
  { ι := List Int × List Int × Int, inv := fun i => i.1.length + i.2.1.length = List.length x.1 ∧ (0 : Int) ≤ i.2.2 ∧ i.2.2 + i.2.1.length = x.2.2.1 + List.length x.1 ∧ i.1 ++ Sp.shuf i.2.1.length i.2.1 x.2.1 i.2.2 = Sp.shuffled x.1 x.2.1 x.2.2.1, dec := fun i => i.2.1.length, ovr := fun i => [(7, .own (.slice tI) (.own .shr) i.1), (8, .own (.slice tI) (.own .shr) i.2.1), (2, .shr tI i.2.2)], keep := [0, 1] }]
-- where
def S53 : FSpec := { args := [.val tGr, .val tI], multi := false, res := tPl, mode := .shr, pre := fun x => inN x.2.1 (List.length x.1.1) ∧ inN x.2.1 (List.length x.1.2.1) ∧ inN (Sp.ev x.1.1 x.2.1).2.1.2.1 (List.length x.1.2.2.1), fn := fun x => Sp.plc x.1 x.2.1 }
def C53 : Ctx := mkC 31 [(63, S63)]
def L53 (x : kdens S53.args) : List LoopI := []
-- close, round
def S51 : PSpec := { τ := tRel, pre := fun _ => True, fn := fun r => Sp.close r }
def C51 : Ctx := { mkC 48 [] with p0 := true }
def L51 (x : S51.τ.den) : List LoopI := [
  { ι := Nat × Sp.Rel, inv := fun i => i.1 ≤ 6 ∧ i.2 = Sp.closeN x i.1, dec := fun i => 6 - i.1, ovr := fun i => [(5, .shr tI (i.1 : Int)), (0, .box tRel .shr i.2)], keep := [], sub := fun i => [
    { ι := Nat × Sp.Rel, inv := fun a => a.1 ≤ 6 ∧ a.2 = Sp.rowA i.1 (Sp.closeN x i.1) a.1, dec := fun a => 6 - a.1, ovr := fun a => [(8, .shr tI (a.1 : Int)), (0, .box tRel .shr a.2)], keep := [5, 2], sub := fun a => [
      { ι := Nat × Sp.Rel, inv := fun b => b.1 ≤ 6 ∧ b.2 = Sp.rowB i.1 a.1 (Sp.rowA i.1 (Sp.closeN x i.1) a.1) b.1, dec := fun b => 6 - b.1, ovr := fun b => [(11, .shr tI (b.1 : Int)), (0, .box tRel .shr b.2)], keep := [5, 2, 8, 3] }] }] }]
def S52 : FSpec := { args := [.sptr tRel], multi := false, res := .bool, mode := .shr, pre := fun _ => True, fn := fun x => Sp.round x.1 }
def C52 : Ctx := mkC 15 []
def L52 (x : kdens S52.args) : List LoopI := [
  { ι := Nat, inv := fun i => i ≤ 6 ∧ ∀ a < i, Sp.get2 x.1 a a = false, dec := fun i => 6 - i, ovr := fun i => [(4, .shr tI (i : Int))], keep := [0] }]
-- order
def S50 : FSpec := { args := [.val tGr], multi := false, res := tRel, mode := .shr, pre := fun x => List.length x.1.1 ≤ 6 ∧ ∀ n ∈ (x.1.2.2.2.1 : List Int), inN n 6, fn := fun x => Sp.order x.1 }
def mRel : Md := .own (.own .shr)
def C50 : Ctx := mkC 68 []
def L50 (x : kdens S50.args) : List LoopI := [
  { ι := Nat, inv := fun i => i ≤ List.length x.1.1, dec := fun i => List.length x.1.1 - i, ovr := fun i => [(13, .shr tI (i : Int)), (3, .box tRel mRel (Sp.mat (Sp.oA x.1.1 i)))], keep := [1, 2, 11, 12], sub := fun i => [
    { ι := Nat, inv := fun k => i < k ∧ k ≤ List.length x.1.1, dec := fun k => List.length x.1.1 - k, ovr := fun k => [(5, .shr tI (k : Int)), (3, .box tRel mRel (Sp.mat (Sp.oB x.1.1 i k)))], keep := [1, 2, 11, 12, 13, 4] }] },
  { ι := Nat, inv := fun i => i ≤ List.length x.1.2.2.2.1, dec := fun i => List.length x.1.2.2.2.1 - i, ovr := fun i => [(46, .shr tI (i : Int)), (3, .box tRel mRel (Sp.mat (Sp.oC x.1.1 x.1.2.2.2.1 i)))], keep := [1, 2, 44, 45], sub := fun i => [
    { ι := Nat, inv := fun k => i + 1 + k ≤ List.length x.1.2.2.2.1, dec := fun k => List.length x.1.2.2.2.1 - k, ovr := fun k => [(57, .shr tI (k : Int)), (3, .box tRel mRel (Sp.mat (Sp.oD x.1.1 x.1.2.2.2.1 i k)))], keep := [1, 2, 44, 45, 46, 6, 7, 55, 56] }] }]
-- isList
def S45 : FSpec := { args := [.val (.slice tI), .val (.slice tLEv), .fn [tLOp] .bool], multi := false, res := .bool, mode := .shr, pre := fun x => List.length x.2.1 ≤ 1000 ∧ ∀ o, x.2.2.1.pre (o, ()), fn := fun x => Sp.isList x.1 x.2.1 (fun o => x.2.2.1.fn (o, ())) }
def C45 : Ctx := mkC 68 []
def L45 (x : kdens S45.args) : List LoopI := [
  { ι := Nat × List Bool, inv := fun i => i.1 ≤ List.length x.1 ∧ i.2.length = List.length x.2.1 ∧ (List.take i.1 x.1).Nodup ∧ (∀ n ∈ (List.take i.1 x.1 : List Int), 0 ≤ n ∧ n < (List.length x.2.1 : Int) ∧ x.2.2.1.fn ((Sp.ev x.2.1 n).2.1, ()) = true) ∧ ∀ n < List.length x.2.1, (i.2.getD n false = true ↔ (n : Int) ∈ (List.take i.1 x.1 : List Int)), dec := fun i => List.length x.1 - i.1, ovr := fun i => [(16, .shr tI (i.1 : Int)), (7, .own (.slice .bool) (.own .shr) i.2)], keep := [0, 1, 2, 14, 15] },
  { ι := Nat, inv := fun i => i ≤ List.length x.2.1 ∧ ∀ n < i, x.2.2.1.fn ((Sp.ev x.2.1 n).2.1, ()) = true → (n : Int) ∈ (x.1 : List Int), dec := fun i => List.length x.2.1 - i, ovr := fun i => [(50, .shr tI (i : Int))], keep := [0, 1, 2, 7, 48, 49] }]
-- Valid
def S21 : FSpec := { args := [.val tLit], multi := false, res := .bool, mode := .shr, pre := fun x => (Sp.evs 0 x.1.1).length ≤ 1000, fn := fun x => Sp.valid x.1 }
def C21 : Ctx := mkC 31 [(41, S41), (60, S60), (61, S61)]
def L21 (x : kdens S21.args) : List LoopI := []
end Go.User
