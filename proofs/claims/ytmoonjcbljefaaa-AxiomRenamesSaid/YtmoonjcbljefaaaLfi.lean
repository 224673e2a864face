/- Written by gen.py: what is left to show of each function. Plain facts about lists, places, sums. The small functions compute what they should. Plain facts about the lists of events and the relations. Lists of events, relations: the functions compute what they should. The order of the program and the fences; lists of events of a kind. -/
import Derived.Test.YtmoonjcbljefaaaLfh
set_option linter.unusedVariables false
set_option linter.unusedSimpArgs false
namespace Go.User
open Go.Proofs Go.Lf
set_option maxRecDepth 100000
theorem vc22 (h : (
  ∀ (x : List Int × Int × Unit), (x.1.length ≤ lim ∧ ∀ (x_1 : Int), x_1 ∈ x.1 → inK IntKind.i64 x_1) ∧ inK IntKind.i64 x.2.1 → (∃ (x_1 : Nat), (x_1 ≤ x.1.length ∧ ¬x.2.1 ∈ List.take x_1 x.1) ∧ (0 : Int) = (↑x_1 : Int)) ∧ ∀ (x_1 : Nat), x_1 ≤ x.1.length ∧ ¬x.2.1 ∈ List.take x_1 x.1 → inK IntKind.i64 (↑x_1 : Int) → ((↑x_1 : Int) < (↑x.1.length : Int) → inN (↑x_1 : Int) x.1.length ∧ (x.1.getD x_1 (0 : Int) = x.2.1 → (↑x_1 : Int) = Sp.idx x.1 x.2.1) ∧ (¬x.1.getD x_1 (0 : Int) = x.2.1 → inK IntKind.i64 ((↑x_1 : Int) + (1 : Int)) ∧ ∃ (y : Nat), (y ≤ x.1.length ∧ ¬x.2.1 ∈ List.take y x.1) ∧ x.1.length - y < x.1.length - x_1 ∧ (↑x_1 : Int) + (1 : Int) = (↑y : Int))) ∧ ((↑x.1.length : Int) ≤ (↑x_1 : Int) → (-1 : Int) = Sp.idx x.1 x.2.1))) : funI C22 (stpP C22) S22 L22 Try.f22 := by
  have e : funI C22 (stpP C22) S22 L22 Try.f22 = (
  ∀ (x : List Int × Int × Unit), True → (x.1.length ≤ lim ∧ ∀ (x_1 : Int), x_1 ∈ x.1 → inK IntKind.i64 x_1) ∧ inK IntKind.i64 x.2.1 ∧ True → ((True ∧ True) ∧ True) ∧ ((True ∧ True) ∧ True) ∧ (∃ (x_1 : Nat), (x_1 ≤ x.1.length ∧ ¬x.2.1 ∈ List.take x_1 x.1) ∧ (0 : Int) = (↑x_1 : Int) ∧ x.1 = x.1 ∧ x.2.1 = x.2.1 ∧ True) ∧ ∀ (x_1 : Nat), x_1 ≤ x.1.length ∧ ¬x.2.1 ∈ List.take x_1 x.1 → inK IntKind.i64 (↑x_1 : Int) ∧ True → ((True ∧ True ∧ True ∧ True ∧ True) ∧ True) ∧ (decide ((↑x_1 : Int) < (↑x.1.length : Int)) = true → ((True ∧ True ∧ inN (↑x_1 : Int) x.1.length ∧ True ∧ True ∧ True ∧ True) ∧ True) ∧ ((x.1.getD (↑x_1 : Int).toNat (0 : Int) == x.2.1) = true → ((True ∧ True ∧ True) ∧ True) ∧ (↑x_1 : Int) = Sp.idx x.1 x.2.1) ∧ ((x.1.getD (↑x_1 : Int).toNat (0 : Int) == x.2.1) = false → ((True ∧ inK IntKind.i64 ((↑x_1 : Int) + (1 : Int)) ∧ True ∧ True) ∧ True) ∧ ∃ (y : Nat), (y ≤ x.1.length ∧ ¬x.2.1 ∈ List.take y x.1) ∧ x.1.length - y < x.1.length - x_1 ∧ (↑x_1 : Int) + (1 : Int) = (↑y : Int) ∧ x.1 = x.1 ∧ x.2.1 = x.2.1 ∧ True)) ∧ (decide ((↑x_1 : Int) < (↑x.1.length : Int)) = false → ((True ∧ True) ∧ True) ∧ (-1 : Int) = Sp.idx x.1 x.2.1)) := by kernel_rfl
  rw [e]
  simp only [true_and, and_true, eq_self, forall_const, decide_eq_true_eq, decide_eq_false_iff_not, Int.not_lt, Int.not_le, Bool.and_eq_true, true_implies, implies_true, Bool.not_eq_true', Bool.not_eq_false', false_implies, Bool.false_eq_true, Bool.true_eq_false, and_self, beq_iff_eq, beq_eq_false_iff_ne, ne_eq, Int.toNat_natCast, Bool.cond_false_right, Bool.cond_true_left, exists_prop, ge_iff_le, gt_iff_lt, List.length_singleton, List.length_nil, List.nil_append, List.append_eq, Bool.cond_false_left, Bool.cond_true_right, Bool.or_false, Bool.and_true, Bool.or_eq_false_iff, Bool.not_eq_true, bne_iff_ne, bne_eq_false_iff_eq]
  all_goals first | exact h | (simp only [true_and, and_true, eq_self, forall_const, decide_eq_true_eq, decide_eq_false_iff_not, Int.not_lt, Int.not_le, Bool.and_eq_true, true_implies, implies_true, Bool.not_eq_true', Bool.not_eq_false', false_implies, Bool.false_eq_true, Bool.true_eq_false, and_self, beq_iff_eq, beq_eq_false_iff_ne, ne_eq, Int.toNat_natCast, Bool.cond_false_right, Bool.cond_true_left, exists_prop, ge_iff_le, gt_iff_lt, List.length_singleton, List.length_nil, List.nil_append, List.append_eq, Bool.cond_false_left, Bool.cond_true_right, Bool.or_false, Bool.and_true, Bool.or_eq_false_iff, Bool.not_eq_true, bne_iff_ne, bne_eq_false_iff_eq] at h; exact h)
theorem vc39 (h : (
  ∀ (x : List Int × Int × Unit), (x.1.length ≤ lim ∧ ∀ (x_1 : Int), x_1 ∈ x.1 → inK IntKind.i64 x_1) ∧ inK IntKind.i64 x.2.1 → (∃ (x_1 : Nat), (x_1 ≤ x.1.length ∧ ¬x.2.1 ∈ List.take x_1 x.1) ∧ (0 : Int) = (↑x_1 : Int)) ∧ ∀ (x_1 : Nat), x_1 ≤ x.1.length ∧ ¬x.2.1 ∈ List.take x_1 x.1 → inK IntKind.i64 (↑x_1 : Int) → ((↑x_1 : Int) < (↑x.1.length : Int) → inN (↑x_1 : Int) x.1.length ∧ (x.1.getD x_1 (0 : Int) = x.2.1 → (↑x_1 : Int) = Sp.idx x.1 x.2.1) ∧ (¬x.1.getD x_1 (0 : Int) = x.2.1 → inK IntKind.i64 ((↑x_1 : Int) + (1 : Int)) ∧ ∃ (y : Nat), (y ≤ x.1.length ∧ ¬x.2.1 ∈ List.take y x.1) ∧ x.1.length - y < x.1.length - x_1 ∧ (↑x_1 : Int) + (1 : Int) = (↑y : Int))) ∧ ((↑x.1.length : Int) ≤ (↑x_1 : Int) → (-1 : Int) = Sp.idx x.1 x.2.1))) : funI C39 (stpP C39) S39 L39 Try.f39 := by
  have e : funI C39 (stpP C39) S39 L39 Try.f39 = (
  ∀ (x : List Int × Int × Unit), True → (x.1.length ≤ lim ∧ ∀ (x_1 : Int), x_1 ∈ x.1 → inK IntKind.i64 x_1) ∧ inK IntKind.i64 x.2.1 ∧ True → ((True ∧ True) ∧ True) ∧ ((True ∧ True) ∧ True) ∧ (∃ (x_1 : Nat), (x_1 ≤ x.1.length ∧ ¬x.2.1 ∈ List.take x_1 x.1) ∧ (0 : Int) = (↑x_1 : Int) ∧ x.1 = x.1 ∧ x.2.1 = x.2.1 ∧ True) ∧ ∀ (x_1 : Nat), x_1 ≤ x.1.length ∧ ¬x.2.1 ∈ List.take x_1 x.1 → inK IntKind.i64 (↑x_1 : Int) ∧ True → ((True ∧ True ∧ True ∧ True ∧ True) ∧ True) ∧ (decide ((↑x_1 : Int) < (↑x.1.length : Int)) = true → ((True ∧ True ∧ inN (↑x_1 : Int) x.1.length ∧ True ∧ True ∧ True ∧ True) ∧ True) ∧ ((x.1.getD (↑x_1 : Int).toNat (0 : Int) == x.2.1) = true → ((True ∧ True ∧ True) ∧ True) ∧ (↑x_1 : Int) = Sp.idx x.1 x.2.1) ∧ ((x.1.getD (↑x_1 : Int).toNat (0 : Int) == x.2.1) = false → ((True ∧ inK IntKind.i64 ((↑x_1 : Int) + (1 : Int)) ∧ True ∧ True) ∧ True) ∧ ∃ (y : Nat), (y ≤ x.1.length ∧ ¬x.2.1 ∈ List.take y x.1) ∧ x.1.length - y < x.1.length - x_1 ∧ (↑x_1 : Int) + (1 : Int) = (↑y : Int) ∧ x.1 = x.1 ∧ x.2.1 = x.2.1 ∧ True)) ∧ (decide ((↑x_1 : Int) < (↑x.1.length : Int)) = false → ((True ∧ True) ∧ True) ∧ (-1 : Int) = Sp.idx x.1 x.2.1)) := by kernel_rfl
  rw [e]
  simp only [true_and, and_true, eq_self, forall_const, decide_eq_true_eq, decide_eq_false_iff_not, Int.not_lt, Int.not_le, Bool.and_eq_true, true_implies, implies_true, Bool.not_eq_true', Bool.not_eq_false', false_implies, Bool.false_eq_true, Bool.true_eq_false, and_self, beq_iff_eq, beq_eq_false_iff_ne, ne_eq, Int.toNat_natCast, Bool.cond_false_right, Bool.cond_true_left, exists_prop, ge_iff_le, gt_iff_lt, List.length_singleton, List.length_nil, List.nil_append, List.append_eq, Bool.cond_false_left, Bool.cond_true_right, Bool.or_false, Bool.and_true, Bool.or_eq_false_iff, Bool.not_eq_true, bne_iff_ne, bne_eq_false_iff_eq]
  all_goals first | exact h | (simp only [true_and, and_true, eq_self, forall_const, decide_eq_true_eq, decide_eq_false_iff_not, Int.not_lt, Int.not_le, Bool.and_eq_true, true_implies, implies_true, Bool.not_eq_true', Bool.not_eq_false', false_implies, Bool.false_eq_true, Bool.true_eq_false, and_self, beq_iff_eq, beq_eq_false_iff_ne, ne_eq, Int.toNat_natCast, Bool.cond_false_right, Bool.cond_true_left, exists_prop, ge_iff_le, gt_iff_lt, List.length_singleton, List.length_nil, List.nil_append, List.append_eq, Bool.cond_false_left, Bool.cond_true_right, Bool.or_false, Bool.and_true, Bool.or_eq_false_iff, Bool.not_eq_true, bne_iff_ne, bne_eq_false_iff_eq] at h; exact h)
theorem vc63 (h : (
  ∀ (x : List Int × Int × Unit), (x.1.length ≤ lim ∧ ∀ (x_1 : Int), x_1 ∈ x.1 → inK IntKind.i64 x_1) ∧ inK IntKind.i64 x.2.1 → (∃ (x_1 : Nat), (x_1 ≤ x.1.length ∧ ¬x.2.1 ∈ List.take x_1 x.1) ∧ (0 : Int) = (↑x_1 : Int)) ∧ ∀ (x_1 : Nat), x_1 ≤ x.1.length ∧ ¬x.2.1 ∈ List.take x_1 x.1 → inK IntKind.i64 (↑x_1 : Int) → ((↑x_1 : Int) < (↑x.1.length : Int) → inN (↑x_1 : Int) x.1.length ∧ (x.2.1 = x.1.getD x_1 (0 : Int) → (↑x_1 : Int) = Sp.idx x.1 x.2.1) ∧ (¬x.2.1 = x.1.getD x_1 (0 : Int) → inK IntKind.i64 ((↑x_1 : Int) + (1 : Int)) ∧ ∃ (y : Nat), (y ≤ x.1.length ∧ ¬x.2.1 ∈ List.take y x.1) ∧ x.1.length - y < x.1.length - x_1 ∧ (↑x_1 : Int) + (1 : Int) = (↑y : Int))) ∧ ((↑x.1.length : Int) ≤ (↑x_1 : Int) → (-1 : Int) = Sp.idx x.1 x.2.1))) : funI C63 (stpP C63) S63 L63 Try.f63 := by
  have e : funI C63 (stpP C63) S63 L63 Try.f63 = (
  ∀ (x : List Int × Int × Unit), True → (x.1.length ≤ lim ∧ ∀ (x_1 : Int), x_1 ∈ x.1 → inK IntKind.i64 x_1) ∧ inK IntKind.i64 x.2.1 ∧ True → ((True ∧ True) ∧ True) ∧ ((True ∧ True ∧ True ∧ True) ∧ True) ∧ (∃ (x_1 : Nat), (x_1 ≤ x.1.length ∧ ¬x.2.1 ∈ List.take x_1 x.1) ∧ (0 : Int) = (↑x_1 : Int) ∧ x.1 = x.1 ∧ x.2.1 = x.2.1 ∧ (↑x.1.length : Int) = (↑x.1.length : Int) ∧ True) ∧ ∀ (x_1 : Nat), x_1 ≤ x.1.length ∧ ¬x.2.1 ∈ List.take x_1 x.1 → inK IntKind.i64 (↑x_1 : Int) ∧ True → ((True ∧ True) ∧ True) ∧ (decide ((↑x_1 : Int) < (↑x.1.length : Int)) = true → ((True ∧ True ∧ True) ∧ True) ∧ ((True ∧ True ∧ True ∧ inN (↑x_1 : Int) x.1.length ∧ True ∧ True ∧ True) ∧ True) ∧ ((x.2.1 == x.1.getD (↑x_1 : Int).toNat (0 : Int)) = true → ((True ∧ True ∧ True) ∧ True) ∧ (↑x_1 : Int) = Sp.idx x.1 x.2.1) ∧ ((x.2.1 == x.1.getD (↑x_1 : Int).toNat (0 : Int)) = false → ((inK IntKind.i64 ((↑x_1 : Int) + (1 : Int)) ∧ True ∧ True) ∧ True) ∧ ∃ (y : Nat), (y ≤ x.1.length ∧ ¬x.2.1 ∈ List.take y x.1) ∧ x.1.length - y < x.1.length - x_1 ∧ (↑x_1 : Int) + (1 : Int) = (↑y : Int) ∧ x.1 = x.1 ∧ x.2.1 = x.2.1 ∧ (↑x.1.length : Int) = (↑x.1.length : Int) ∧ True)) ∧ (decide ((↑x_1 : Int) < (↑x.1.length : Int)) = false → ((True ∧ True) ∧ True) ∧ (-1 : Int) = Sp.idx x.1 x.2.1)) := by kernel_rfl
  rw [e]
  simp only [true_and, and_true, eq_self, forall_const, decide_eq_true_eq, decide_eq_false_iff_not, Int.not_lt, Int.not_le, Bool.and_eq_true, true_implies, implies_true, Bool.not_eq_true', Bool.not_eq_false', false_implies, Bool.false_eq_true, Bool.true_eq_false, and_self, beq_iff_eq, beq_eq_false_iff_ne, ne_eq, Int.toNat_natCast, Bool.cond_false_right, Bool.cond_true_left, exists_prop, ge_iff_le, gt_iff_lt, List.length_singleton, List.length_nil, List.nil_append, List.append_eq, Bool.cond_false_left, Bool.cond_true_right, Bool.or_false, Bool.and_true, Bool.or_eq_false_iff, Bool.not_eq_true, bne_iff_ne, bne_eq_false_iff_eq]
  all_goals first | exact h | (simp only [true_and, and_true, eq_self, forall_const, decide_eq_true_eq, decide_eq_false_iff_not, Int.not_lt, Int.not_le, Bool.and_eq_true, true_implies, implies_true, Bool.not_eq_true', Bool.not_eq_false', false_implies, Bool.false_eq_true, Bool.true_eq_false, and_self, beq_iff_eq, beq_eq_false_iff_ne, ne_eq, Int.toNat_natCast, Bool.cond_false_right, Bool.cond_true_left, exists_prop, ge_iff_le, gt_iff_lt, List.length_singleton, List.length_nil, List.nil_append, List.append_eq, Bool.cond_false_left, Bool.cond_true_right, Bool.or_false, Bool.and_true, Bool.or_eq_false_iff, Bool.not_eq_true, bne_iff_ne, bne_eq_false_iff_eq] at h; exact h)
theorem vc42 (h : (
  ∀ (x : (Int × Int × Int × Unit) × Unit), inK IntKind.i64 x.1.1 ∧ inK IntKind.i64 x.1.2.1 ∧ inK IntKind.i64 x.1.2.2.1 → (x.1.1 == (1 : Int) || x.1.1 == (3 : Int)) = Sp.reads x.1)) : funI C42 (stpP C42) S42 L42 Try.f42 := by
  have e : funI C42 (stpP C42) S42 L42 Try.f42 = (
  ∀ (x : (Int × Int × Int × Unit) × Unit), True → (inK IntKind.i64 x.1.1 ∧ inK IntKind.i64 x.1.2.1 ∧ inK IntKind.i64 x.1.2.2.1 ∧ True) ∧ True → ((True ∧ True ∧ True) ∧ True) ∧ ((True ∧ True ∧ True ∧ True ∧ ((true && bif x.1.1 == (1 : Int) then false else true) = true → True) ∧ ((true && bif x.1.1 == (1 : Int) then false else true) = true → True) ∧ ((true && bif x.1.1 == (1 : Int) then false else true) = true → True) ∧ True ∧ True ∧ True) ∧ True) ∧ (bif x.1.1 == (1 : Int) then true else x.1.1 == (3 : Int)) = Sp.reads x.1) := by kernel_rfl
  rw [e]
  simp only [true_and, and_true, eq_self, forall_const, decide_eq_true_eq, decide_eq_false_iff_not, Int.not_lt, Int.not_le, Bool.and_eq_true, true_implies, implies_true, Bool.not_eq_true', Bool.not_eq_false', false_implies, Bool.false_eq_true, Bool.true_eq_false, and_self, beq_iff_eq, beq_eq_false_iff_ne, ne_eq, Int.toNat_natCast, Bool.cond_false_right, Bool.cond_true_left, exists_prop, ge_iff_le, gt_iff_lt, List.length_singleton, List.length_nil, List.nil_append, List.append_eq, Bool.cond_false_left, Bool.cond_true_right, Bool.or_false, Bool.and_true, Bool.or_eq_false_iff, Bool.not_eq_true, bne_iff_ne, bne_eq_false_iff_eq]
  all_goals first | exact h | (simp only [true_and, and_true, eq_self, forall_const, decide_eq_true_eq, decide_eq_false_iff_not, Int.not_lt, Int.not_le, Bool.and_eq_true, true_implies, implies_true, Bool.not_eq_true', Bool.not_eq_false', false_implies, Bool.false_eq_true, Bool.true_eq_false, and_self, beq_iff_eq, beq_eq_false_iff_ne, ne_eq, Int.toNat_natCast, Bool.cond_false_right, Bool.cond_true_left, exists_prop, ge_iff_le, gt_iff_lt, List.length_singleton, List.length_nil, List.nil_append, List.append_eq, Bool.cond_false_left, Bool.cond_true_right, Bool.or_false, Bool.and_true, Bool.or_eq_false_iff, Bool.not_eq_true, bne_iff_ne, bne_eq_false_iff_eq] at h; exact h)
theorem vc43 (h : (
  ∀ (x : (Int × Int × Int × Unit) × Unit), inK IntKind.i64 x.1.1 ∧ inK IntKind.i64 x.1.2.1 ∧ inK IntKind.i64 x.1.2.2.1 → (x.1.1 == (2 : Int) || x.1.1 == (3 : Int)) = Sp.writes x.1)) : funI C43 (stpP C43) S43 L43 Try.f43 := by
  have e : funI C43 (stpP C43) S43 L43 Try.f43 = (
  ∀ (x : (Int × Int × Int × Unit) × Unit), True → (inK IntKind.i64 x.1.1 ∧ inK IntKind.i64 x.1.2.1 ∧ inK IntKind.i64 x.1.2.2.1 ∧ True) ∧ True → ((True ∧ True ∧ True) ∧ True) ∧ ((True ∧ True ∧ True ∧ True ∧ ((true && bif x.1.1 == (2 : Int) then false else true) = true → True) ∧ ((true && bif x.1.1 == (2 : Int) then false else true) = true → True) ∧ ((true && bif x.1.1 == (2 : Int) then false else true) = true → True) ∧ True ∧ True ∧ True) ∧ True) ∧ (bif x.1.1 == (2 : Int) then true else x.1.1 == (3 : Int)) = Sp.writes x.1) := by kernel_rfl
  rw [e]
  simp only [true_and, and_true, eq_self, forall_const, decide_eq_true_eq, decide_eq_false_iff_not, Int.not_lt, Int.not_le, Bool.and_eq_true, true_implies, implies_true, Bool.not_eq_true', Bool.not_eq_false', false_implies, Bool.false_eq_true, Bool.true_eq_false, and_self, beq_iff_eq, beq_eq_false_iff_ne, ne_eq, Int.toNat_natCast, Bool.cond_false_right, Bool.cond_true_left, exists_prop, ge_iff_le, gt_iff_lt, List.length_singleton, List.length_nil, List.nil_append, List.append_eq, Bool.cond_false_left, Bool.cond_true_right, Bool.or_false, Bool.and_true, Bool.or_eq_false_iff, Bool.not_eq_true, bne_iff_ne, bne_eq_false_iff_eq]
  all_goals first | exact h | (simp only [true_and, and_true, eq_self, forall_const, decide_eq_true_eq, decide_eq_false_iff_not, Int.not_lt, Int.not_le, Bool.and_eq_true, true_implies, implies_true, Bool.not_eq_true', Bool.not_eq_false', false_implies, Bool.false_eq_true, Bool.true_eq_false, and_self, beq_iff_eq, beq_eq_false_iff_ne, ne_eq, Int.toNat_natCast, Bool.cond_false_right, Bool.cond_true_left, exists_prop, ge_iff_le, gt_iff_lt, List.length_singleton, List.length_nil, List.nil_append, List.append_eq, Bool.cond_false_left, Bool.cond_true_right, Bool.or_false, Bool.and_true, Bool.or_eq_false_iff, Bool.not_eq_true, bne_iff_ne, bne_eq_false_iff_eq] at h; exact h)
theorem vc37 (h : (
  ∀ (x : (Int × Int × Int × Unit) × Unit), inK IntKind.i64 x.1.1 ∧ inK IntKind.i64 x.1.2.1 ∧ inK IntKind.i64 x.1.2.2.1 → (x.1.1 == (1 : Int) || x.1.1 == (3 : Int)) = Sp.reads x.1)) : funI C37 (stpP C37) S37 L37 Try.f37 := by
  have e : funI C37 (stpP C37) S37 L37 Try.f37 = (
  ∀ (x : (Int × Int × Int × Unit) × Unit), True → (inK IntKind.i64 x.1.1 ∧ inK IntKind.i64 x.1.2.1 ∧ inK IntKind.i64 x.1.2.2.1 ∧ True) ∧ True → ((True ∧ True ∧ True) ∧ True) ∧ ((True ∧ True ∧ True ∧ True ∧ ((true && bif x.1.1 == (1 : Int) then false else true) = true → True) ∧ ((true && bif x.1.1 == (1 : Int) then false else true) = true → True) ∧ ((true && bif x.1.1 == (1 : Int) then false else true) = true → True) ∧ True ∧ True ∧ True) ∧ True) ∧ (bif x.1.1 == (1 : Int) then true else x.1.1 == (3 : Int)) = Sp.reads x.1) := by kernel_rfl
  rw [e]
  simp only [true_and, and_true, eq_self, forall_const, decide_eq_true_eq, decide_eq_false_iff_not, Int.not_lt, Int.not_le, Bool.and_eq_true, true_implies, implies_true, Bool.not_eq_true', Bool.not_eq_false', false_implies, Bool.false_eq_true, Bool.true_eq_false, and_self, beq_iff_eq, beq_eq_false_iff_ne, ne_eq, Int.toNat_natCast, Bool.cond_false_right, Bool.cond_true_left, exists_prop, ge_iff_le, gt_iff_lt, List.length_singleton, List.length_nil, List.nil_append, List.append_eq, Bool.cond_false_left, Bool.cond_true_right, Bool.or_false, Bool.and_true, Bool.or_eq_false_iff, Bool.not_eq_true, bne_iff_ne, bne_eq_false_iff_eq]
  all_goals first | exact h | (simp only [true_and, and_true, eq_self, forall_const, decide_eq_true_eq, decide_eq_false_iff_not, Int.not_lt, Int.not_le, Bool.and_eq_true, true_implies, implies_true, Bool.not_eq_true', Bool.not_eq_false', false_implies, Bool.false_eq_true, Bool.true_eq_false, and_self, beq_iff_eq, beq_eq_false_iff_ne, ne_eq, Int.toNat_natCast, Bool.cond_false_right, Bool.cond_true_left, exists_prop, ge_iff_le, gt_iff_lt, List.length_singleton, List.length_nil, List.nil_append, List.append_eq, Bool.cond_false_left, Bool.cond_true_right, Bool.or_false, Bool.and_true, Bool.or_eq_false_iff, Bool.not_eq_true, bne_iff_ne, bne_eq_false_iff_eq] at h; exact h)
theorem vc32 (h : (
  ∀ (x : (Int × Int × Int × Unit) × Unit), inK IntKind.i64 x.1.1 ∧ inK IntKind.i64 x.1.2.1 ∧ inK IntKind.i64 x.1.2.2.1 → (x.1.1 == (2 : Int) || x.1.1 == (3 : Int)) = Sp.writes x.1)) : funI C32 (stpP C32) S32 L32 Try.f32 := by
  have e : funI C32 (stpP C32) S32 L32 Try.f32 = (
  ∀ (x : (Int × Int × Int × Unit) × Unit), True → (inK IntKind.i64 x.1.1 ∧ inK IntKind.i64 x.1.2.1 ∧ inK IntKind.i64 x.1.2.2.1 ∧ True) ∧ True → ((True ∧ True ∧ True) ∧ True) ∧ ((True ∧ True ∧ True ∧ True ∧ ((true && bif x.1.1 == (2 : Int) then false else true) = true → True) ∧ ((true && bif x.1.1 == (2 : Int) then false else true) = true → True) ∧ ((true && bif x.1.1 == (2 : Int) then false else true) = true → True) ∧ True ∧ True ∧ True) ∧ True) ∧ (bif x.1.1 == (2 : Int) then true else x.1.1 == (3 : Int)) = Sp.writes x.1) := by kernel_rfl
  rw [e]
  simp only [true_and, and_true, eq_self, forall_const, decide_eq_true_eq, decide_eq_false_iff_not, Int.not_lt, Int.not_le, Bool.and_eq_true, true_implies, implies_true, Bool.not_eq_true', Bool.not_eq_false', false_implies, Bool.false_eq_true, Bool.true_eq_false, and_self, beq_iff_eq, beq_eq_false_iff_ne, ne_eq, Int.toNat_natCast, Bool.cond_false_right, Bool.cond_true_left, exists_prop, ge_iff_le, gt_iff_lt, List.length_singleton, List.length_nil, List.nil_append, List.append_eq, Bool.cond_false_left, Bool.cond_true_right, Bool.or_false, Bool.and_true, Bool.or_eq_false_iff, Bool.not_eq_true, bne_iff_ne, bne_eq_false_iff_eq]
  all_goals first | exact h | (simp only [true_and, and_true, eq_self, forall_const, decide_eq_true_eq, decide_eq_false_iff_not, Int.not_lt, Int.not_le, Bool.and_eq_true, true_implies, implies_true, Bool.not_eq_true', Bool.not_eq_false', false_implies, Bool.false_eq_true, Bool.true_eq_false, and_self, beq_iff_eq, beq_eq_false_iff_ne, ne_eq, Int.toNat_natCast, Bool.cond_false_right, Bool.cond_true_left, exists_prop, ge_iff_le, gt_iff_lt, List.length_singleton, List.length_nil, List.nil_append, List.append_eq, Bool.cond_false_left, Bool.cond_true_right, Bool.or_false, Bool.and_true, Bool.or_eq_false_iff, Bool.not_eq_true, bne_iff_ne, bne_eq_false_iff_eq] at h; exact h)
theorem vc62 (h : (
  ∀ (x : (Int × Int × Int × Unit) × Unit), inK IntKind.i64 x.1.1 ∧ inK IntKind.i64 x.1.2.1 ∧ inK IntKind.i64 x.1.2.2.1 → (x.1.1 = (4 : Int) → (decide (x.1.1 = (4 : Int)) && (decide (x.1.2.1 = (0 : Int)) && decide (x.1.2.2.1 = (0 : Int)))) = Sp.usual x.1) ∧ (¬x.1.1 = (4 : Int) → (x.1.1 = (1 : Int) → (decide ((0 : Int) ≤ x.1.2.1) && decide (x.1.2.1 < (3 : Int)) && x.1.2.2.1 == (0 : Int)) = Sp.usual x.1) ∧ (¬x.1.1 = (1 : Int) → (x.1.1 = (2 : Int) → (x.1.1 = (2 : Int) → (decide ((0 : Int) ≤ x.1.2.1) && decide (x.1.2.1 < (3 : Int)) && decide ((-100 : Int) ≤ x.1.2.2.1) && decide (x.1.2.2.1 ≤ (100 : Int))) = Sp.usual x.1) ∧ (¬x.1.1 = (2 : Int) → false = Sp.usual x.1)) ∧ (¬x.1.1 = (2 : Int) → (x.1.1 = (3 : Int) → (decide ((0 : Int) ≤ x.1.2.1) && decide (x.1.2.1 < (3 : Int)) && decide ((-100 : Int) ≤ x.1.2.2.1) && decide (x.1.2.2.1 ≤ (100 : Int))) = Sp.usual x.1) ∧ (¬x.1.1 = (3 : Int) → false = Sp.usual x.1)))))) : funI C62 (stpP C62) S62 L62 Try.f62 := by
  have e : funI C62 (stpP C62) S62 L62 Try.f62 = (
  ∀ (x : (Int × Int × Int × Unit) × Unit), True → (inK IntKind.i64 x.1.1 ∧ inK IntKind.i64 x.1.2.1 ∧ inK IntKind.i64 x.1.2.2.1 ∧ True) ∧ True → ((True ∧ True ∧ True) ∧ True) ∧ ((True ∧ True ∧ True) ∧ True) ∧ ((True ∧ True ∧ True) ∧ True) ∧ ((x.1.1 == (4 : Int)) = true → ((True ∧ True ∧ True ∧ True ∧ True) ∧ True) ∧ (decide (x.1.1 = (4 : Int)) && (decide (x.1.2.1 = (0 : Int)) && (decide (x.1.2.2.1 = (0 : Int)) && true))) = Sp.usual x.1) ∧ ((x.1.1 == (4 : Int)) = false → ((True ∧ True ∧ True) ∧ True) ∧ ((x.1.1 == (1 : Int)) = true → ((True ∧ True ∧ True ∧ True ∧ ((true && bif decide ((0 : Int) ≤ x.1.2.1) then true else false) = true → True) ∧ ((true && bif decide ((0 : Int) ≤ x.1.2.1) then true else false) = true → True) ∧ ((true && bif decide ((0 : Int) ≤ x.1.2.1) then true else false) = true → True) ∧ True ∧ True ∧ ((true && bif bif decide ((0 : Int) ≤ x.1.2.1) then decide (x.1.2.1 < (3 : Int)) else false then true else false) = true → True) ∧ ((true && bif bif decide ((0 : Int) ≤ x.1.2.1) then decide (x.1.2.1 < (3 : Int)) else false then true else false) = true → True) ∧ ((true && bif bif decide ((0 : Int) ≤ x.1.2.1) then decide (x.1.2.1 < (3 : Int)) else false then true else false) = true → True) ∧ True ∧ True ∧ True) ∧ True) ∧ (bif bif decide ((0 : Int) ≤ x.1.2.1) then decide (x.1.2.1 < (3 : Int)) else false then x.1.2.2.1 == (0 : Int) else false) = Sp.usual x.1) ∧ ((x.1.1 == (1 : Int)) = false → ((True ∧ True ∧ True) ∧ True) ∧ ((x.1.1 == (2 : Int)) = true → ((x.1.1 == (2 : Int)) = true → ((True ∧ True ∧ True ∧ True ∧ ((true && bif decide ((0 : Int) ≤ x.1.2.1) then true else false) = true → True) ∧ ((true && bif decide ((0 : Int) ≤ x.1.2.1) then true else false) = true → True) ∧ ((true && bif decide ((0 : Int) ≤ x.1.2.1) then true else false) = true → True) ∧ True ∧ True ∧ ((true && bif bif decide ((0 : Int) ≤ x.1.2.1) then decide (x.1.2.1 < (3 : Int)) else false then true else false) = true → True) ∧ ((true && bif bif decide ((0 : Int) ≤ x.1.2.1) then decide (x.1.2.1 < (3 : Int)) else false then true else false) = true → True) ∧ ((true && bif bif decide ((0 : Int) ≤ x.1.2.1) then decide (x.1.2.1 < (3 : Int)) else false then true else false) = true → True) ∧ True ∧ True ∧ ((true && bif bif bif decide ((0 : Int) ≤ x.1.2.1) then decide (x.1.2.1 < (3 : Int)) else false then decide ((-100 : Int) ≤ x.1.2.2.1) else false then true else false) = true → True) ∧ ((true && bif bif bif decide ((0 : Int) ≤ x.1.2.1) then decide (x.1.2.1 < (3 : Int)) else false then decide ((-100 : Int) ≤ x.1.2.2.1) else false then true else false) = true → True) ∧ ((true && bif bif bif decide ((0 : Int) ≤ x.1.2.1) then decide (x.1.2.1 < (3 : Int)) else false then decide ((-100 : Int) ≤ x.1.2.2.1) else false then true else false) = true → True) ∧ True ∧ True ∧ True) ∧ True) ∧ (bif bif bif decide ((0 : Int) ≤ x.1.2.1) then decide (x.1.2.1 < (3 : Int)) else false then decide ((-100 : Int) ≤ x.1.2.2.1) else false then decide (x.1.2.2.1 ≤ (100 : Int)) else false) = Sp.usual x.1) ∧ ((x.1.1 == (2 : Int)) = false → ((True ∧ True) ∧ True) ∧ false = Sp.usual x.1)) ∧ ((x.1.1 == (2 : Int)) = false → ((True ∧ True ∧ True) ∧ True) ∧ ((x.1.1 == (3 : Int)) = true → ((True ∧ True ∧ True ∧ True ∧ ((true && bif decide ((0 : Int) ≤ x.1.2.1) then true else false) = true → True) ∧ ((true && bif decide ((0 : Int) ≤ x.1.2.1) then true else false) = true → True) ∧ ((true && bif decide ((0 : Int) ≤ x.1.2.1) then true else false) = true → True) ∧ True ∧ True ∧ ((true && bif bif decide ((0 : Int) ≤ x.1.2.1) then decide (x.1.2.1 < (3 : Int)) else false then true else false) = true → True) ∧ ((true && bif bif decide ((0 : Int) ≤ x.1.2.1) then decide (x.1.2.1 < (3 : Int)) else false then true else false) = true → True) ∧ ((true && bif bif decide ((0 : Int) ≤ x.1.2.1) then decide (x.1.2.1 < (3 : Int)) else false then true else false) = true → True) ∧ True ∧ True ∧ ((true && bif bif bif decide ((0 : Int) ≤ x.1.2.1) then decide (x.1.2.1 < (3 : Int)) else false then decide ((-100 : Int) ≤ x.1.2.2.1) else false then true else false) = true → True) ∧ ((true && bif bif bif decide ((0 : Int) ≤ x.1.2.1) then decide (x.1.2.1 < (3 : Int)) else false then decide ((-100 : Int) ≤ x.1.2.2.1) else false then true else false) = true → True) ∧ ((true && bif bif bif decide ((0 : Int) ≤ x.1.2.1) then decide (x.1.2.1 < (3 : Int)) else false then decide ((-100 : Int) ≤ x.1.2.2.1) else false then true else false) = true → True) ∧ True ∧ True ∧ True) ∧ True) ∧ (bif bif bif decide ((0 : Int) ≤ x.1.2.1) then decide (x.1.2.1 < (3 : Int)) else false then decide ((-100 : Int) ≤ x.1.2.2.1) else false then decide (x.1.2.2.1 ≤ (100 : Int)) else false) = Sp.usual x.1) ∧ ((x.1.1 == (3 : Int)) = false → ((True ∧ True) ∧ True) ∧ false = Sp.usual x.1))))) := by kernel_rfl
  rw [e]
  simp only [true_and, and_true, eq_self, forall_const, decide_eq_true_eq, decide_eq_false_iff_not, Int.not_lt, Int.not_le, Bool.and_eq_true, true_implies, implies_true, Bool.not_eq_true', Bool.not_eq_false', false_implies, Bool.false_eq_true, Bool.true_eq_false, and_self, beq_iff_eq, beq_eq_false_iff_ne, ne_eq, Int.toNat_natCast, Bool.cond_false_right, Bool.cond_true_left, exists_prop, ge_iff_le, gt_iff_lt, List.length_singleton, List.length_nil, List.nil_append, List.append_eq, Bool.cond_false_left, Bool.cond_true_right, Bool.or_false, Bool.and_true, Bool.or_eq_false_iff, Bool.not_eq_true, bne_iff_ne, bne_eq_false_iff_eq]
  all_goals first | exact h | (simp only [true_and, and_true, eq_self, forall_const, decide_eq_true_eq, decide_eq_false_iff_not, Int.not_lt, Int.not_le, Bool.and_eq_true, true_implies, implies_true, Bool.not_eq_true', Bool.not_eq_false', false_implies, Bool.false_eq_true, Bool.true_eq_false, and_self, beq_iff_eq, beq_eq_false_iff_ne, ne_eq, Int.toNat_natCast, Bool.cond_false_right, Bool.cond_true_left, exists_prop, ge_iff_le, gt_iff_lt, List.length_singleton, List.length_nil, List.nil_append, List.append_eq, Bool.cond_false_left, Bool.cond_true_right, Bool.or_false, Bool.and_true, Bool.or_eq_false_iff, Bool.not_eq_true, bne_iff_ne, bne_eq_false_iff_eq] at h; exact h)
theorem vc61 (h : (
  ∀ (x : (Int × (Int × Int × Int × Unit) × Int × Unit) × Unit), inK IntKind.i64 x.1.1 ∧ (inK IntKind.i64 x.1.2.1.1 ∧ inK IntKind.i64 x.1.2.1.2.1 ∧ inK IntKind.i64 x.1.2.1.2.2.1) ∧ inK IntKind.i64 x.1.2.2.1 → (!Sp.usual x.1.2.1) = !Sp.usual x.1.2.1)) : funI C61 (stpP C61) S61 L61 Try.f61 := by
  have e : funI C61 (stpP C61) S61 L61 Try.f61 = (
  ∀ (x : (Int × (Int × Int × Int × Unit) × Int × Unit) × Unit), True → (inK IntKind.i64 x.1.1 ∧ (inK IntKind.i64 x.1.2.1.1 ∧ inK IntKind.i64 x.1.2.1.2.1 ∧ inK IntKind.i64 x.1.2.1.2.2.1 ∧ True) ∧ inK IntKind.i64 x.1.2.2.1 ∧ True) ∧ True → ((True ∧ True ∧ True) ∧ True) ∧ ((True ∧ True ∧ True ∧ True ∧ True ∧ True) ∧ True) ∧ (!Sp.usual x.1.2.1) = !Sp.usual x.1.2.1) := by kernel_rfl
  rw [e]
  simp only [true_and, and_true, eq_self, forall_const, decide_eq_true_eq, decide_eq_false_iff_not, Int.not_lt, Int.not_le, Bool.and_eq_true, true_implies, implies_true, Bool.not_eq_true', Bool.not_eq_false', false_implies, Bool.false_eq_true, Bool.true_eq_false, and_self, beq_iff_eq, beq_eq_false_iff_ne, ne_eq, Int.toNat_natCast, Bool.cond_false_right, Bool.cond_true_left, exists_prop, ge_iff_le, gt_iff_lt, List.length_singleton, List.length_nil, List.nil_append, List.append_eq, Bool.cond_false_left, Bool.cond_true_right, Bool.or_false, Bool.and_true, Bool.or_eq_false_iff, Bool.not_eq_true, bne_iff_ne, bne_eq_false_iff_eq]
  all_goals first | exact h | (simp only [true_and, and_true, eq_self, forall_const, decide_eq_true_eq, decide_eq_false_iff_not, Int.not_lt, Int.not_le, Bool.and_eq_true, true_implies, implies_true, Bool.not_eq_true', Bool.not_eq_false', false_implies, Bool.false_eq_true, Bool.true_eq_false, and_self, beq_iff_eq, beq_eq_false_iff_ne, ne_eq, Int.toNat_natCast, Bool.cond_false_right, Bool.cond_true_left, exists_prop, ge_iff_le, gt_iff_lt, List.length_singleton, List.length_nil, List.nil_append, List.append_eq, Bool.cond_false_left, Bool.cond_true_right, Bool.or_false, Bool.and_true, Bool.or_eq_false_iff, Bool.not_eq_true, bne_iff_ne, bne_eq_false_iff_eq] at h; exact h)
theorem vc64 (h : (
  ∀ (x : List (Int × (Int × Int × Int × Unit) × Int × Unit) × Fun (tLEv :: ([] : List Ty)) Ty.bool × Unit), (∀ (e : Int × (Int × Int × Int × Unit) × Int × Unit), x.2.1.1 (e, ())) → (x.1.length ≤ lim ∧ ∀ (x_1 : Int × (Int × Int × Int × Unit) × Int × Unit), x_1 ∈ x.1 → inK IntKind.i64 x_1.1 ∧ (inK IntKind.i64 x_1.2.1.1 ∧ inK IntKind.i64 x_1.2.1.2.1 ∧ inK IntKind.i64 x_1.2.1.2.2.1) ∧ inK IntKind.i64 x_1.2.2.1) → (∃ (x_1 : Nat), (x_1 ≤ x.1.length ∧ ∀ (e : Int × (Int × Int × Int × Unit) × Int × Unit), e ∈ List.take x_1 x.1 → x.2.1.2 (e, ()) = false) ∧ (0 : Int) = (↑x_1 : Int)) ∧ ∀ (x_1 : Nat), (x_1 ≤ x.1.length ∧ ∀ (e : Int × (Int × Int × Int × Unit) × Int × Unit), e ∈ List.take x_1 x.1 → x.2.1.2 (e, ()) = false) → inK IntKind.i64 (↑x_1 : Int) → ((↑x_1 : Int) < (↑x.1.length : Int) → (inN (↑x_1 : Int) x.1.length ∧ x.2.1.1 (x.1.getD x_1 ((0 : Int), ((0 : Int), (0 : Int), (0 : Int), ()), (0 : Int), ()), ())) ∧ (x.2.1.2 (x.1.getD x_1 ((0 : Int), ((0 : Int), (0 : Int), (0 : Int), ()), (0 : Int), ()), ()) = true → (↑x_1 : Int) = Sp.findI (fun (e : Sp.LEv) => x.2.1.2 (e, ())) x.1) ∧ (x.2.1.2 (x.1.getD x_1 ((0 : Int), ((0 : Int), (0 : Int), (0 : Int), ()), (0 : Int), ()), ()) = false → inK IntKind.i64 ((↑x_1 : Int) + (1 : Int)) ∧ ∃ (y : Nat), (y ≤ x.1.length ∧ ∀ (e : Int × (Int × Int × Int × Unit) × Int × Unit), e ∈ List.take y x.1 → x.2.1.2 (e, ()) = false) ∧ x.1.length - y < x.1.length - x_1 ∧ (↑x_1 : Int) + (1 : Int) = (↑y : Int))) ∧ ((↑x.1.length : Int) ≤ (↑x_1 : Int) → (-1 : Int) = Sp.findI (fun (e : Sp.LEv) => x.2.1.2 (e, ())) x.1))) : funI C64 (stpP C64) S64 L64 Try.f64 := by
  have e : funI C64 (stpP C64) S64 L64 Try.f64 = (
  ∀ (x : List (Int × (Int × Int × Int × Unit) × Int × Unit) × Fun (tLEv :: ([] : List Ty)) Ty.bool × Unit), (∀ (e : Int × (Int × Int × Int × Unit) × Int × Unit), x.2.1.1 (e, ())) → (x.1.length ≤ lim ∧ ∀ (x_1 : Int × (Int × Int × Int × Unit) × Int × Unit), x_1 ∈ x.1 → inK IntKind.i64 x_1.1 ∧ (inK IntKind.i64 x_1.2.1.1 ∧ inK IntKind.i64 x_1.2.1.2.1 ∧ inK IntKind.i64 x_1.2.1.2.2.1 ∧ True) ∧ inK IntKind.i64 x_1.2.2.1 ∧ True) ∧ True → ((True ∧ True) ∧ True) ∧ ((True ∧ True ∧ True ∧ True) ∧ True) ∧ (∃ (x_1 : Nat), (x_1 ≤ x.1.length ∧ ∀ (e : Int × (Int × Int × Int × Unit) × Int × Unit), e ∈ List.take x_1 x.1 → x.2.1.2 (e, ()) = false) ∧ (0 : Int) = (↑x_1 : Int) ∧ x.1 = x.1 ∧ (∃ (h1 : tLEv :: ([] : List Ty) = tLEv :: ([] : List Ty)), ∃ (h2 : Ty.bool = Ty.bool), x.2.1 = x.2.1) ∧ (↑x.1.length : Int) = (↑x.1.length : Int) ∧ True) ∧ ∀ (x_1 : Nat), (x_1 ≤ x.1.length ∧ ∀ (e : Int × (Int × Int × Int × Unit) × Int × Unit), e ∈ List.take x_1 x.1 → x.2.1.2 (e, ()) = false) → inK IntKind.i64 (↑x_1 : Int) ∧ True → ((True ∧ True) ∧ True) ∧ (decide ((↑x_1 : Int) < (↑x.1.length : Int)) = true → ((True ∧ True ∧ True) ∧ True) ∧ ((True ∧ True ∧ True ∧ inN (↑x_1 : Int) x.1.length ∧ True ∧ x.2.1.1 (x.1.getD (↑x_1 : Int).toNat ((0 : Int), ((0 : Int), (0 : Int), (0 : Int), ()), (0 : Int), ()), ()) ∧ True) ∧ True) ∧ (x.2.1.2 (x.1.getD (↑x_1 : Int).toNat ((0 : Int), ((0 : Int), (0 : Int), (0 : Int), ()), (0 : Int), ()), ()) = true → ((True ∧ True ∧ True) ∧ True) ∧ (↑x_1 : Int) = Sp.findI (fun (e : Sp.LEv) => x.2.1.2 (e, ())) x.1) ∧ (x.2.1.2 (x.1.getD (↑x_1 : Int).toNat ((0 : Int), ((0 : Int), (0 : Int), (0 : Int), ()), (0 : Int), ()), ()) = false → ((inK IntKind.i64 ((↑x_1 : Int) + (1 : Int)) ∧ True ∧ True) ∧ True) ∧ ∃ (y : Nat), (y ≤ x.1.length ∧ ∀ (e : Int × (Int × Int × Int × Unit) × Int × Unit), e ∈ List.take y x.1 → x.2.1.2 (e, ()) = false) ∧ x.1.length - y < x.1.length - x_1 ∧ (↑x_1 : Int) + (1 : Int) = (↑y : Int) ∧ x.1 = x.1 ∧ (∃ (h1 : tLEv :: ([] : List Ty) = tLEv :: ([] : List Ty)), ∃ (h2 : Ty.bool = Ty.bool), x.2.1 = x.2.1) ∧ (↑x.1.length : Int) = (↑x.1.length : Int) ∧ True)) ∧ (decide ((↑x_1 : Int) < (↑x.1.length : Int)) = false → ((True ∧ True) ∧ True) ∧ (-1 : Int) = Sp.findI (fun (e : Sp.LEv) => x.2.1.2 (e, ())) x.1)) := by kernel_rfl
  rw [e]
  simp only [true_and, and_true, eq_self, forall_const, decide_eq_true_eq, decide_eq_false_iff_not, Int.not_lt, Int.not_le, Bool.and_eq_true, true_implies, implies_true, Bool.not_eq_true', Bool.not_eq_false', false_implies, Bool.false_eq_true, Bool.true_eq_false, and_self, beq_iff_eq, beq_eq_false_iff_ne, ne_eq, Int.toNat_natCast, Bool.cond_false_right, Bool.cond_true_left, exists_prop, ge_iff_le, gt_iff_lt, List.length_singleton, List.length_nil, List.nil_append, List.append_eq, Bool.cond_false_left, Bool.cond_true_right, Bool.or_false, Bool.and_true, Bool.or_eq_false_iff, Bool.not_eq_true, bne_iff_ne, bne_eq_false_iff_eq]
  all_goals first | exact h | (simp only [true_and, and_true, eq_self, forall_const, decide_eq_true_eq, decide_eq_false_iff_not, Int.not_lt, Int.not_le, Bool.and_eq_true, true_implies, implies_true, Bool.not_eq_true', Bool.not_eq_false', false_implies, Bool.false_eq_true, Bool.true_eq_false, and_self, beq_iff_eq, beq_eq_false_iff_ne, ne_eq, Int.toNat_natCast, Bool.cond_false_right, Bool.cond_true_left, exists_prop, ge_iff_le, gt_iff_lt, List.length_singleton, List.length_nil, List.nil_append, List.append_eq, Bool.cond_false_left, Bool.cond_true_right, Bool.or_false, Bool.and_true, Bool.or_eq_false_iff, Bool.not_eq_true, bne_iff_ne, bne_eq_false_iff_eq] at h; exact h)
theorem vc60 (h : (
  ∀ (x : List (Int × (Int × Int × Int × Unit) × Int × Unit) × Fun (tLEv :: ([] : List Ty)) Ty.bool × Unit), (∀ (e : Int × (Int × Int × Int × Unit) × Int × Unit), x.2.1.1 (e, ())) → (x.1.length ≤ lim ∧ ∀ (x_1 : Int × (Int × Int × Int × Unit) × Int × Unit), x_1 ∈ x.1 → inK IntKind.i64 x_1.1 ∧ (inK IntKind.i64 x_1.2.1.1 ∧ inK IntKind.i64 x_1.2.1.2.1 ∧ inK IntKind.i64 x_1.2.1.2.2.1) ∧ inK IntKind.i64 x_1.2.2.1) → (∀ (e : Int × (Int × Int × Int × Unit) × Int × Unit), x.2.1.1 (e, ())) ∧ decide ((0 : Int) ≤ Sp.findI (fun (e : Sp.LEv) => x.2.1.2 (e, ())) x.1) = x.1.any fun (e : tLEv.den) => x.2.1.2 (e, ()))) : funI C60 (stpP C60) S60 L60 Try.f60 := by
  have e : funI C60 (stpP C60) S60 L60 Try.f60 = (
  ∀ (x : List (Int × (Int × Int × Int × Unit) × Int × Unit) × Fun (tLEv :: ([] : List Ty)) Ty.bool × Unit), (∀ (e : Int × (Int × Int × Int × Unit) × Int × Unit), x.2.1.1 (e, ())) → (x.1.length ≤ lim ∧ ∀ (x_1 : Int × (Int × Int × Int × Unit) × Int × Unit), x_1 ∈ x.1 → inK IntKind.i64 x_1.1 ∧ (inK IntKind.i64 x_1.2.1.1 ∧ inK IntKind.i64 x_1.2.1.2.1 ∧ inK IntKind.i64 x_1.2.1.2.2.1 ∧ True) ∧ inK IntKind.i64 x_1.2.2.1 ∧ True) ∧ True → ((True ∧ True) ∧ True) ∧ ((True ∧ True ∧ (∀ (e : Int × (Int × Int × Int × Unit) × Int × Unit), x.2.1.1 (e, ())) ∧ True ∧ True ∧ True) ∧ True) ∧ decide (Sp.findI (fun (e : Sp.LEv) => x.2.1.2 (e, ())) x.1 ≥ (0 : Int)) = x.1.any fun (e : tLEv.den) => x.2.1.2 (e, ())) := by kernel_rfl
  rw [e]
  simp only [true_and, and_true, eq_self, forall_const, decide_eq_true_eq, decide_eq_false_iff_not, Int.not_lt, Int.not_le, Bool.and_eq_true, true_implies, implies_true, Bool.not_eq_true', Bool.not_eq_false', false_implies, Bool.false_eq_true, Bool.true_eq_false, and_self, beq_iff_eq, beq_eq_false_iff_ne, ne_eq, Int.toNat_natCast, Bool.cond_false_right, Bool.cond_true_left, exists_prop, ge_iff_le, gt_iff_lt, List.length_singleton, List.length_nil, List.nil_append, List.append_eq, Bool.cond_false_left, Bool.cond_true_right, Bool.or_false, Bool.and_true, Bool.or_eq_false_iff, Bool.not_eq_true, bne_iff_ne, bne_eq_false_iff_eq]
  all_goals first | exact h | (simp only [true_and, and_true, eq_self, forall_const, decide_eq_true_eq, decide_eq_false_iff_not, Int.not_lt, Int.not_le, Bool.and_eq_true, true_implies, implies_true, Bool.not_eq_true', Bool.not_eq_false', false_implies, Bool.false_eq_true, Bool.true_eq_false, and_self, beq_iff_eq, beq_eq_false_iff_ne, ne_eq, Int.toNat_natCast, Bool.cond_false_right, Bool.cond_true_left, exists_prop, ge_iff_le, gt_iff_lt, List.length_singleton, List.length_nil, List.nil_append, List.append_eq, Bool.cond_false_left, Bool.cond_true_right, Bool.or_false, Bool.and_true, Bool.or_eq_false_iff, Bool.not_eq_true, bne_iff_ne, bne_eq_false_iff_eq] at h; exact h)
theorem vc40 (h : (
  ∀ (x : (List (Int × (Int × Int × Int × Unit) × Int × Unit) × List Int × List (List Int) × List Int × Unit) × Int × Unit), x.2.1 < (↑x.1.1.length : Int) → ((x.1.1.length ≤ lim ∧ ∀ (x_1 : Int × (Int × Int × Int × Unit) × Int × Unit), x_1 ∈ x.1.1 → inK IntKind.i64 x_1.1 ∧ (inK IntKind.i64 x_1.2.1.1 ∧ inK IntKind.i64 x_1.2.1.2.1 ∧ inK IntKind.i64 x_1.2.1.2.2.1) ∧ inK IntKind.i64 x_1.2.2.1) ∧ (x.1.2.1.length ≤ lim ∧ ∀ (x_1 : Int), x_1 ∈ x.1.2.1 → inK IntKind.i64 x_1) ∧ (x.1.2.2.1.length ≤ lim ∧ ∀ (x_1 : List Int), x_1 ∈ x.1.2.2.1 → x_1.length ≤ lim ∧ ∀ (x : Int), x ∈ x_1 → inK IntKind.i64 x) ∧ x.1.2.2.2.1.length ≤ lim ∧ ∀ (x_1 : Int), x_1 ∈ x.1.2.2.2.1 → inK IntKind.i64 x_1) ∧ inK IntKind.i64 x.2.1 → (x.2.1 < (0 : Int) → (0 : Int) = Sp.value x.1.1 x.2.1) ∧ ((0 : Int) ≤ x.2.1 → inN x.2.1 x.1.1.length ∧ ((x.1.1.getD x.2.1.toNat ((0 : Int), ((0 : Int), (0 : Int), (0 : Int), ()), (0 : Int), ())).2.1.1 = (3 : Int) → inN x.2.1 x.1.1.length ∧ IntKind.i64.wrap ((x.1.1.getD x.2.1.toNat ((0 : Int), ((0 : Int), (0 : Int), (0 : Int), ()), (0 : Int), ())).2.2.1 + (x.1.1.getD x.2.1.toNat ((0 : Int), ((0 : Int), (0 : Int), (0 : Int), ()), (0 : Int), ())).2.1.2.2.1) = Sp.value x.1.1 x.2.1) ∧ (¬(x.1.1.getD x.2.1.toNat ((0 : Int), ((0 : Int), (0 : Int), (0 : Int), ()), (0 : Int), ())).2.1.1 = (3 : Int) → inN x.2.1 x.1.1.length ∧ (x.1.1.getD x.2.1.toNat ((0 : Int), ((0 : Int), (0 : Int), (0 : Int), ()), (0 : Int), ())).2.1.2.2.1 = Sp.value x.1.1 x.2.1)))) : funI C40 (stpP C40) S40 L40 Try.f40 := by
  have e : funI C40 (stpP C40) S40 L40 Try.f40 = (
  ∀ (x : (List (Int × (Int × Int × Int × Unit) × Int × Unit) × List Int × List (List Int) × List Int × Unit) × Int × Unit), x.2.1 < (↑x.1.1.length : Int) → ((x.1.1.length ≤ lim ∧ ∀ (x_1 : Int × (Int × Int × Int × Unit) × Int × Unit), x_1 ∈ x.1.1 → inK IntKind.i64 x_1.1 ∧ (inK IntKind.i64 x_1.2.1.1 ∧ inK IntKind.i64 x_1.2.1.2.1 ∧ inK IntKind.i64 x_1.2.1.2.2.1 ∧ True) ∧ inK IntKind.i64 x_1.2.2.1 ∧ True) ∧ (x.1.2.1.length ≤ lim ∧ ∀ (x_1 : Int), x_1 ∈ x.1.2.1 → inK IntKind.i64 x_1) ∧ (x.1.2.2.1.length ≤ lim ∧ ∀ (x_1 : List Int), x_1 ∈ x.1.2.2.1 → x_1.length ≤ lim ∧ ∀ (x : Int), x ∈ x_1 → inK IntKind.i64 x) ∧ (x.1.2.2.2.1.length ≤ lim ∧ ∀ (x_1 : Int), x_1 ∈ x.1.2.2.2.1 → inK IntKind.i64 x_1) ∧ True) ∧ inK IntKind.i64 x.2.1 ∧ True → ((True ∧ True ∧ True) ∧ True) ∧ ((True ∧ True ∧ True) ∧ True) ∧ (decide (x.2.1 < (0 : Int)) = true → ((True ∧ True) ∧ True) ∧ (0 : Int) = Sp.value x.1.1 x.2.1) ∧ (decide (x.2.1 < (0 : Int)) = false → ((True ∧ True ∧ True ∧ inN x.2.1 x.1.1.length ∧ True ∧ True ∧ True ∧ True ∧ True) ∧ True) ∧ (((x.1.1.getD x.2.1.toNat ((0 : Int), ((0 : Int), (0 : Int), (0 : Int), ()), (0 : Int), ())).2.1.1 == (3 : Int)) = true → ((True ∧ True ∧ True ∧ inN x.2.1 x.1.1.length ∧ True ∧ True ∧ True ∧ True ∧ True ∧ inN x.2.1 x.1.1.length ∧ True ∧ True ∧ True ∧ True ∧ True ∧ True) ∧ True) ∧ IntKind.i64.wrap ((x.1.1.getD x.2.1.toNat ((0 : Int), ((0 : Int), (0 : Int), (0 : Int), ()), (0 : Int), ())).2.2.1 + (x.1.1.getD x.2.1.toNat ((0 : Int), ((0 : Int), (0 : Int), (0 : Int), ()), (0 : Int), ())).2.1.2.2.1) = Sp.value x.1.1 x.2.1) ∧ (((x.1.1.getD x.2.1.toNat ((0 : Int), ((0 : Int), (0 : Int), (0 : Int), ()), (0 : Int), ())).2.1.1 == (3 : Int)) = false → ((True ∧ True ∧ True ∧ inN x.2.1 x.1.1.length ∧ True ∧ True ∧ True ∧ True ∧ True) ∧ True) ∧ (x.1.1.getD x.2.1.toNat ((0 : Int), ((0 : Int), (0 : Int), (0 : Int), ()), (0 : Int), ())).2.1.2.2.1 = Sp.value x.1.1 x.2.1))) := by kernel_rfl
  rw [e]
  simp only [true_and, and_true, eq_self, forall_const, decide_eq_true_eq, decide_eq_false_iff_not, Int.not_lt, Int.not_le, Bool.and_eq_true, true_implies, implies_true, Bool.not_eq_true', Bool.not_eq_false', false_implies, Bool.false_eq_true, Bool.true_eq_false, and_self, beq_iff_eq, beq_eq_false_iff_ne, ne_eq, Int.toNat_natCast, Bool.cond_false_right, Bool.cond_true_left, exists_prop, ge_iff_le, gt_iff_lt, List.length_singleton, List.length_nil, List.nil_append, List.append_eq, Bool.cond_false_left, Bool.cond_true_right, Bool.or_false, Bool.and_true, Bool.or_eq_false_iff, Bool.not_eq_true, bne_iff_ne, bne_eq_false_iff_eq]
  all_goals first | exact h | (simp only [true_and, and_true, eq_self, forall_const, decide_eq_true_eq, decide_eq_false_iff_not, Int.not_lt, Int.not_le, Bool.and_eq_true, true_implies, implies_true, Bool.not_eq_true', Bool.not_eq_false', false_implies, Bool.false_eq_true, Bool.true_eq_false, and_self, beq_iff_eq, beq_eq_false_iff_ne, ne_eq, Int.toNat_natCast, Bool.cond_false_right, Bool.cond_true_left, exists_prop, ge_iff_le, gt_iff_lt, List.length_singleton, List.length_nil, List.nil_append, List.append_eq, Bool.cond_false_left, Bool.cond_true_right, Bool.or_false, Bool.and_true, Bool.or_eq_false_iff, Bool.not_eq_true, bne_iff_ne, bne_eq_false_iff_eq] at h; exact h)
theorem vc44 (h : (
  ∀ (x : (List (Int × (Int × Int × Int × Unit) × Int × Unit) × List Int × List (List Int) × List Int × Unit) × Int × Unit), x.2.1 < (↑x.1.1.length : Int) → ((x.1.1.length ≤ lim ∧ ∀ (x_1 : Int × (Int × Int × Int × Unit) × Int × Unit), x_1 ∈ x.1.1 → inK IntKind.i64 x_1.1 ∧ (inK IntKind.i64 x_1.2.1.1 ∧ inK IntKind.i64 x_1.2.1.2.1 ∧ inK IntKind.i64 x_1.2.1.2.2.1) ∧ inK IntKind.i64 x_1.2.2.1) ∧ (x.1.2.1.length ≤ lim ∧ ∀ (x_1 : Int), x_1 ∈ x.1.2.1 → inK IntKind.i64 x_1) ∧ (x.1.2.2.1.length ≤ lim ∧ ∀ (x_1 : List Int), x_1 ∈ x.1.2.2.1 → x_1.length ≤ lim ∧ ∀ (x : Int), x ∈ x_1 → inK IntKind.i64 x) ∧ x.1.2.2.2.1.length ≤ lim ∧ ∀ (x_1 : Int), x_1 ∈ x.1.2.2.2.1 → inK IntKind.i64 x_1) ∧ inK IntKind.i64 x.2.1 → (x.2.1 < (0 : Int) → (0 : Int) = Sp.value x.1.1 x.2.1) ∧ ((0 : Int) ≤ x.2.1 → inN x.2.1 x.1.1.length ∧ ((x.1.1.getD x.2.1.toNat ((0 : Int), ((0 : Int), (0 : Int), (0 : Int), ()), (0 : Int), ())).2.1.1 = (3 : Int) → inN x.2.1 x.1.1.length ∧ IntKind.i64.wrap ((x.1.1.getD x.2.1.toNat ((0 : Int), ((0 : Int), (0 : Int), (0 : Int), ()), (0 : Int), ())).2.2.1 + (x.1.1.getD x.2.1.toNat ((0 : Int), ((0 : Int), (0 : Int), (0 : Int), ()), (0 : Int), ())).2.1.2.2.1) = Sp.value x.1.1 x.2.1) ∧ (¬(x.1.1.getD x.2.1.toNat ((0 : Int), ((0 : Int), (0 : Int), (0 : Int), ()), (0 : Int), ())).2.1.1 = (3 : Int) → inN x.2.1 x.1.1.length ∧ (x.1.1.getD x.2.1.toNat ((0 : Int), ((0 : Int), (0 : Int), (0 : Int), ()), (0 : Int), ())).2.1.2.2.1 = Sp.value x.1.1 x.2.1)))) : funI C44 (stpP C44) S44 L44 Try.f44 := by
  have e : funI C44 (stpP C44) S44 L44 Try.f44 = (
  ∀ (x : (List (Int × (Int × Int × Int × Unit) × Int × Unit) × List Int × List (List Int) × List Int × Unit) × Int × Unit), x.2.1 < (↑x.1.1.length : Int) → ((x.1.1.length ≤ lim ∧ ∀ (x_1 : Int × (Int × Int × Int × Unit) × Int × Unit), x_1 ∈ x.1.1 → inK IntKind.i64 x_1.1 ∧ (inK IntKind.i64 x_1.2.1.1 ∧ inK IntKind.i64 x_1.2.1.2.1 ∧ inK IntKind.i64 x_1.2.1.2.2.1 ∧ True) ∧ inK IntKind.i64 x_1.2.2.1 ∧ True) ∧ (x.1.2.1.length ≤ lim ∧ ∀ (x_1 : Int), x_1 ∈ x.1.2.1 → inK IntKind.i64 x_1) ∧ (x.1.2.2.1.length ≤ lim ∧ ∀ (x_1 : List Int), x_1 ∈ x.1.2.2.1 → x_1.length ≤ lim ∧ ∀ (x : Int), x ∈ x_1 → inK IntKind.i64 x) ∧ (x.1.2.2.2.1.length ≤ lim ∧ ∀ (x_1 : Int), x_1 ∈ x.1.2.2.2.1 → inK IntKind.i64 x_1) ∧ True) ∧ inK IntKind.i64 x.2.1 ∧ True → ((True ∧ True ∧ True) ∧ True) ∧ ((True ∧ True ∧ True ∧ True) ∧ True) ∧ (decide (x.2.1 < (0 : Int)) = true → ((True ∧ True) ∧ True) ∧ (0 : Int) = Sp.value x.1.1 x.2.1) ∧ (decide (x.2.1 < (0 : Int)) = false → ((True ∧ True ∧ True ∧ inN x.2.1 x.1.1.length ∧ True ∧ True ∧ True ∧ True ∧ True ∧ True) ∧ True) ∧ (((x.1.1.getD x.2.1.toNat ((0 : Int), ((0 : Int), (0 : Int), (0 : Int), ()), (0 : Int), ())).2.1.1 == (3 : Int)) = true → ((True ∧ True ∧ True ∧ inN x.2.1 x.1.1.length ∧ True ∧ True ∧ True ∧ True ∧ True ∧ inN x.2.1 x.1.1.length ∧ True ∧ True ∧ True ∧ True ∧ True ∧ True) ∧ True) ∧ IntKind.i64.wrap ((x.1.1.getD x.2.1.toNat ((0 : Int), ((0 : Int), (0 : Int), (0 : Int), ()), (0 : Int), ())).2.2.1 + (x.1.1.getD x.2.1.toNat ((0 : Int), ((0 : Int), (0 : Int), (0 : Int), ()), (0 : Int), ())).2.1.2.2.1) = Sp.value x.1.1 x.2.1) ∧ (((x.1.1.getD x.2.1.toNat ((0 : Int), ((0 : Int), (0 : Int), (0 : Int), ()), (0 : Int), ())).2.1.1 == (3 : Int)) = false → ((True ∧ True ∧ True ∧ inN x.2.1 x.1.1.length ∧ True ∧ True ∧ True ∧ True ∧ True) ∧ True) ∧ (x.1.1.getD x.2.1.toNat ((0 : Int), ((0 : Int), (0 : Int), (0 : Int), ()), (0 : Int), ())).2.1.2.2.1 = Sp.value x.1.1 x.2.1))) := by kernel_rfl
  rw [e]
  simp only [true_and, and_true, eq_self, forall_const, decide_eq_true_eq, decide_eq_false_iff_not, Int.not_lt, Int.not_le, Bool.and_eq_true, true_implies, implies_true, Bool.not_eq_true', Bool.not_eq_false', false_implies, Bool.false_eq_true, Bool.true_eq_false, and_self, beq_iff_eq, beq_eq_false_iff_ne, ne_eq, Int.toNat_natCast, Bool.cond_false_right, Bool.cond_true_left, exists_prop, ge_iff_le, gt_iff_lt, List.length_singleton, List.length_nil, List.nil_append, List.append_eq, Bool.cond_false_left, Bool.cond_true_right, Bool.or_false, Bool.and_true, Bool.or_eq_false_iff, Bool.not_eq_true, bne_iff_ne, bne_eq_false_iff_eq]
  all_goals first | exact h | (simp only [true_and, and_true, eq_self, forall_const, decide_eq_true_eq, decide_eq_false_iff_not, Int.not_lt, Int.not_le, Bool.and_eq_true, true_implies, implies_true, Bool.not_eq_true', Bool.not_eq_false', false_implies, Bool.false_eq_true, Bool.true_eq_false, and_self, beq_iff_eq, beq_eq_false_iff_ne, ne_eq, Int.toNat_natCast, Bool.cond_false_right, Bool.cond_true_left, exists_prop, ge_iff_le, gt_iff_lt, List.length_singleton, List.length_nil, List.nil_append, List.append_eq, Bool.cond_false_left, Bool.cond_true_right, Bool.or_false, Bool.and_true, Bool.or_eq_false_iff, Bool.not_eq_true, bne_iff_ne, bne_eq_false_iff_eq] at h; exact h)
theorem vc38 (h : (
  ∀ (x : List Int × Int × Unit), (0 : (AK.val tI).den) ≤ x.2.1 → (x.1.length ≤ lim ∧ ∀ (x_1 : Int), x_1 ∈ x.1 → inK IntKind.u8 x_1) ∧ inK IntKind.i64 x.2.1 → (x.2.1 < (↑x.1.length : Int) → inN x.2.1 x.1.length ∧ x.1.getD x.2.1.toNat (0 : Int) = Sp.byteAt x.1 x.2.1) ∧ ((↑x.1.length : Int) ≤ x.2.1 → (0 : Int) = Sp.byteAt x.1 x.2.1))) : funI C38 (stpP C38) S38 L38 Try.f38 := by
  have e : funI C38 (stpP C38) S38 L38 Try.f38 = (
  ∀ (x : List Int × Int × Unit), (0 : (AK.val tI).den) ≤ x.2.1 → (x.1.length ≤ lim ∧ ∀ (x_1 : Int), x_1 ∈ x.1 → inK IntKind.u8 x_1) ∧ inK IntKind.i64 x.2.1 ∧ True → ((True ∧ True) ∧ True) ∧ ((True ∧ True ∧ True ∧ True ∧ True) ∧ True) ∧ (decide (x.2.1 < (↑x.1.length : Int)) = true → ((True ∧ True ∧ inN x.2.1 x.1.length ∧ True ∧ True ∧ True ∧ True) ∧ True) ∧ x.1.getD x.2.1.toNat (0 : Int) = Sp.byteAt x.1 x.2.1) ∧ (decide (x.2.1 < (↑x.1.length : Int)) = false → ((True ∧ True) ∧ True) ∧ (0 : Int) = Sp.byteAt x.1 x.2.1)) := by kernel_rfl
  rw [e]
  simp only [true_and, and_true, eq_self, forall_const, decide_eq_true_eq, decide_eq_false_iff_not, Int.not_lt, Int.not_le, Bool.and_eq_true, true_implies, implies_true, Bool.not_eq_true', Bool.not_eq_false', false_implies, Bool.false_eq_true, Bool.true_eq_false, and_self, beq_iff_eq, beq_eq_false_iff_ne, ne_eq, Int.toNat_natCast, Bool.cond_false_right, Bool.cond_true_left, exists_prop, ge_iff_le, gt_iff_lt, List.length_singleton, List.length_nil, List.nil_append, List.append_eq, Bool.cond_false_left, Bool.cond_true_right, Bool.or_false, Bool.and_true, Bool.or_eq_false_iff, Bool.not_eq_true, bne_iff_ne, bne_eq_false_iff_eq]
  all_goals first | exact h | (simp only [true_and, and_true, eq_self, forall_const, decide_eq_true_eq, decide_eq_false_iff_not, Int.not_lt, Int.not_le, Bool.and_eq_true, true_implies, implies_true, Bool.not_eq_true', Bool.not_eq_false', false_implies, Bool.false_eq_true, Bool.true_eq_false, and_self, beq_iff_eq, beq_eq_false_iff_ne, ne_eq, Int.toNat_natCast, Bool.cond_false_right, Bool.cond_true_left, exists_prop, ge_iff_le, gt_iff_lt, List.length_singleton, List.length_nil, List.nil_append, List.append_eq, Bool.cond_false_left, Bool.cond_true_right, Bool.or_false, Bool.and_true, Bool.or_eq_false_iff, Bool.not_eq_true, bne_iff_ne, bne_eq_false_iff_eq] at h; exact h)
theorem vc46 (h : (
  ∀ (x : (Int × Int × Int × Unit) × Int × Unit), (inK IntKind.i64 x.1.1 ∧ inK IntKind.i64 x.1.2.1 ∧ inK IntKind.i64 x.1.2.2.1) ∧ inK IntKind.i64 x.2.1 → (Sp.writes x.1 && x.1.2.1 == x.2.1) = (Sp.writes x.1 && decide (x.1.2.1 = x.2.1)))) : funI C46 (stpP C46) S46 L46 Try.f46 := by
  have e : funI C46 (stpP C46) S46 L46 Try.f46 = (
  ∀ (x : (Int × Int × Int × Unit) × Int × Unit), True → (inK IntKind.i64 x.1.1 ∧ inK IntKind.i64 x.1.2.1 ∧ inK IntKind.i64 x.1.2.2.1 ∧ True) ∧ inK IntKind.i64 x.2.1 ∧ True → ((True ∧ True ∧ True) ∧ True) ∧ ((True ∧ True ∧ True ∧ ((true && bif Sp.writes x.1 then true else false) = true → True) ∧ ((true && bif Sp.writes x.1 then true else false) = true → True) ∧ ((true && bif Sp.writes x.1 then true else false) = true → True) ∧ ((true && bif Sp.writes x.1 then true else false) = true → True) ∧ True ∧ True ∧ True) ∧ True) ∧ (bif Sp.writes x.1 then x.1.2.1 == x.2.1 else false) = (Sp.writes x.1 && decide (x.1.2.1 = x.2.1))) := by kernel_rfl
  rw [e]
  simp only [true_and, and_true, eq_self, forall_const, decide_eq_true_eq, decide_eq_false_iff_not, Int.not_lt, Int.not_le, Bool.and_eq_true, true_implies, implies_true, Bool.not_eq_true', Bool.not_eq_false', false_implies, Bool.false_eq_true, Bool.true_eq_false, and_self, beq_iff_eq, beq_eq_false_iff_ne, ne_eq, Int.toNat_natCast, Bool.cond_false_right, Bool.cond_true_left, exists_prop, ge_iff_le, gt_iff_lt, List.length_singleton, List.length_nil, List.nil_append, List.append_eq, Bool.cond_false_left, Bool.cond_true_right, Bool.or_false, Bool.and_true, Bool.or_eq_false_iff, Bool.not_eq_true, bne_iff_ne, bne_eq_false_iff_eq]
  all_goals first | exact h | (simp only [true_and, and_true, eq_self, forall_const, decide_eq_true_eq, decide_eq_false_iff_not, Int.not_lt, Int.not_le, Bool.and_eq_true, true_implies, implies_true, Bool.not_eq_true', Bool.not_eq_false', false_implies, Bool.false_eq_true, Bool.true_eq_false, and_self, beq_iff_eq, beq_eq_false_iff_ne, ne_eq, Int.toNat_natCast, Bool.cond_false_right, Bool.cond_true_left, exists_prop, ge_iff_le, gt_iff_lt, List.length_singleton, List.length_nil, List.nil_append, List.append_eq, Bool.cond_false_left, Bool.cond_true_right, Bool.or_false, Bool.and_true, Bool.or_eq_false_iff, Bool.not_eq_true, bne_iff_ne, bne_eq_false_iff_eq] at h; exact h)
theorem vc47 (h : (
  ∀ (x : (Int × Int × Int × Unit) × Unit), inK IntKind.i64 x.1.1 ∧ inK IntKind.i64 x.1.2.1 ∧ inK IntKind.i64 x.1.2.2.1 → (x.1.1 == (4 : Int)) = decide (x.1.1 = (4 : tI.den)))) : funI C47 (stpP C47) S47 L47 Try.f47 := by
  have e : funI C47 (stpP C47) S47 L47 Try.f47 = (
  ∀ (x : (Int × Int × Int × Unit) × Unit), True → (inK IntKind.i64 x.1.1 ∧ inK IntKind.i64 x.1.2.1 ∧ inK IntKind.i64 x.1.2.2.1 ∧ True) ∧ True → ((True ∧ True ∧ True) ∧ True) ∧ ((True ∧ True ∧ True ∧ True ∧ True) ∧ True) ∧ (x.1.1 == (4 : Int)) = decide (x.1.1 = (4 : tI.den))) := by kernel_rfl
  rw [e]
  simp only [true_and, and_true, eq_self, forall_const, decide_eq_true_eq, decide_eq_false_iff_not, Int.not_lt, Int.not_le, Bool.and_eq_true, true_implies, implies_true, Bool.not_eq_true', Bool.not_eq_false', false_implies, Bool.false_eq_true, Bool.true_eq_false, and_self, beq_iff_eq, beq_eq_false_iff_ne, ne_eq, Int.toNat_natCast, Bool.cond_false_right, Bool.cond_true_left, exists_prop, ge_iff_le, gt_iff_lt, List.length_singleton, List.length_nil, List.nil_append, List.append_eq, Bool.cond_false_left, Bool.cond_true_right, Bool.or_false, Bool.and_true, Bool.or_eq_false_iff, Bool.not_eq_true, bne_iff_ne, bne_eq_false_iff_eq]
  all_goals first | exact h | (simp only [true_and, and_true, eq_self, forall_const, decide_eq_true_eq, decide_eq_false_iff_not, Int.not_lt, Int.not_le, Bool.and_eq_true, true_implies, implies_true, Bool.not_eq_true', Bool.not_eq_false', false_implies, Bool.false_eq_true, Bool.true_eq_false, and_self, beq_iff_eq, beq_eq_false_iff_ne, ne_eq, Int.toNat_natCast, Bool.cond_false_right, Bool.cond_true_left, exists_prop, ge_iff_le, gt_iff_lt, List.length_singleton, List.length_nil, List.nil_append, List.append_eq, Bool.cond_false_left, Bool.cond_true_right, Bool.or_false, Bool.and_true, Bool.or_eq_false_iff, Bool.not_eq_true, bne_iff_ne, bne_eq_false_iff_eq] at h; exact h)
theorem vc27 (h : (
  ∀ (x : Int × Int × Unit), inK IntKind.i64 x.1 ∧ inK IntKind.i64 x.2.1 → ((2 : Int), x.1, x.2.1, ()) = ((2 : tI.den), x.1, x.2.1, ()))) : funI C27 (stpP C27) S27 L27 Try.f27 := by
  have e : funI C27 (stpP C27) S27 L27 Try.f27 = (
  ∀ (x : Int × Int × Unit), True → inK IntKind.i64 x.1 ∧ inK IntKind.i64 x.2.1 ∧ True → ((True ∧ True) ∧ True) ∧ ((True ∧ True ∧ True ∧ True) ∧ True ∧ True) ∧ ((2 : Int), x.1, x.2.1, ()) = ((2 : tI.den), x.1, x.2.1, ())) := by kernel_rfl
  rw [e]
  simp only [true_and, and_true, eq_self, forall_const, decide_eq_true_eq, decide_eq_false_iff_not, Int.not_lt, Int.not_le, Bool.and_eq_true, true_implies, implies_true, Bool.not_eq_true', Bool.not_eq_false', false_implies, Bool.false_eq_true, Bool.true_eq_false, and_self, beq_iff_eq, beq_eq_false_iff_ne, ne_eq, Int.toNat_natCast, Bool.cond_false_right, Bool.cond_true_left, exists_prop, ge_iff_le, gt_iff_lt, List.length_singleton, List.length_nil, List.nil_append, List.append_eq, Bool.cond_false_left, Bool.cond_true_right, Bool.or_false, Bool.and_true, Bool.or_eq_false_iff, Bool.not_eq_true, bne_iff_ne, bne_eq_false_iff_eq]
  all_goals first | exact h | (simp only [true_and, and_true, eq_self, forall_const, decide_eq_true_eq, decide_eq_false_iff_not, Int.not_lt, Int.not_le, Bool.and_eq_true, true_implies, implies_true, Bool.not_eq_true', Bool.not_eq_false', false_implies, Bool.false_eq_true, Bool.true_eq_false, and_self, beq_iff_eq, beq_eq_false_iff_ne, ne_eq, Int.toNat_natCast, Bool.cond_false_right, Bool.cond_true_left, exists_prop, ge_iff_le, gt_iff_lt, List.length_singleton, List.length_nil, List.nil_append, List.append_eq, Bool.cond_false_left, Bool.cond_true_right, Bool.or_false, Bool.and_true, Bool.or_eq_false_iff, Bool.not_eq_true, bne_iff_ne, bne_eq_false_iff_eq] at h; exact h)
theorem vc28 (h : (
  ∀ (x : Int × Unit), inK IntKind.i64 x.1 → ((1 : Int), x.1, (0 : Int), ()) = ((1 : tI.den), x.1, (0 : tI.den), ()))) : funI C28 (stpP C28) S28 L28 Try.f28 := by
  have e : funI C28 (stpP C28) S28 L28 Try.f28 = (
  ∀ (x : Int × Unit), True → inK IntKind.i64 x.1 ∧ True → ((True ∧ True) ∧ True) ∧ ((True ∧ True ∧ True) ∧ True ∧ True) ∧ ((1 : Int), x.1, (0 : Int), ()) = ((1 : tI.den), x.1, (0 : tI.den), ())) := by kernel_rfl
  rw [e]
  simp only [true_and, and_true, eq_self, forall_const, decide_eq_true_eq, decide_eq_false_iff_not, Int.not_lt, Int.not_le, Bool.and_eq_true, true_implies, implies_true, Bool.not_eq_true', Bool.not_eq_false', false_implies, Bool.false_eq_true, Bool.true_eq_false, and_self, beq_iff_eq, beq_eq_false_iff_ne, ne_eq, Int.toNat_natCast, Bool.cond_false_right, Bool.cond_true_left, exists_prop, ge_iff_le, gt_iff_lt, List.length_singleton, List.length_nil, List.nil_append, List.append_eq, Bool.cond_false_left, Bool.cond_true_right, Bool.or_false, Bool.and_true, Bool.or_eq_false_iff, Bool.not_eq_true, bne_iff_ne, bne_eq_false_iff_eq]
  all_goals first | exact h | (simp only [true_and, and_true, eq_self, forall_const, decide_eq_true_eq, decide_eq_false_iff_not, Int.not_lt, Int.not_le, Bool.and_eq_true, true_implies, implies_true, Bool.not_eq_true', Bool.not_eq_false', false_implies, Bool.false_eq_true, Bool.true_eq_false, and_self, beq_iff_eq, beq_eq_false_iff_ne, ne_eq, Int.toNat_natCast, Bool.cond_false_right, Bool.cond_true_left, exists_prop, ge_iff_le, gt_iff_lt, List.length_singleton, List.length_nil, List.nil_append, List.append_eq, Bool.cond_false_left, Bool.cond_true_right, Bool.or_false, Bool.and_true, Bool.or_eq_false_iff, Bool.not_eq_true, bne_iff_ne, bne_eq_false_iff_eq] at h; exact h)
theorem vc29 (h : (
  ((4 : Int), (0 : Int), (0 : Int), ()) = ((4 : tI.den), (0 : tI.den), (0 : tI.den), ()))) : funI C29 (stpP C29) S29 L29 Try.f29 := by
  have e : funI C29 (stpP C29) S29 L29 Try.f29 = (
  ∀ (x : Unit), True → True → ((True ∧ True) ∧ True) ∧ ((True ∧ True) ∧ True ∧ True) ∧ ((4 : Int), (0 : Int), (0 : Int), ()) = ((4 : tI.den), (0 : tI.den), (0 : tI.den), ())) := by kernel_rfl
  rw [e]
  simp only [true_and, and_true, eq_self, forall_const, decide_eq_true_eq, decide_eq_false_iff_not, Int.not_lt, Int.not_le, Bool.and_eq_true, true_implies, implies_true, Bool.not_eq_true', Bool.not_eq_false', false_implies, Bool.false_eq_true, Bool.true_eq_false, and_self, beq_iff_eq, beq_eq_false_iff_ne, ne_eq, Int.toNat_natCast, Bool.cond_false_right, Bool.cond_true_left, exists_prop, ge_iff_le, gt_iff_lt, List.length_singleton, List.length_nil, List.nil_append, List.append_eq, Bool.cond_false_left, Bool.cond_true_right, Bool.or_false, Bool.and_true, Bool.or_eq_false_iff, Bool.not_eq_true, bne_iff_ne, bne_eq_false_iff_eq]
  all_goals first | exact h | (simp only [true_and, and_true, eq_self, forall_const, decide_eq_true_eq, decide_eq_false_iff_not, Int.not_lt, Int.not_le, Bool.and_eq_true, true_implies, implies_true, Bool.not_eq_true', Bool.not_eq_false', false_implies, Bool.false_eq_true, Bool.true_eq_false, and_self, beq_iff_eq, beq_eq_false_iff_ne, ne_eq, Int.toNat_natCast, Bool.cond_false_right, Bool.cond_true_left, exists_prop, ge_iff_le, gt_iff_lt, List.length_singleton, List.length_nil, List.nil_append, List.append_eq, Bool.cond_false_left, Bool.cond_true_right, Bool.or_false, Bool.and_true, Bool.or_eq_false_iff, Bool.not_eq_true, bne_iff_ne, bne_eq_false_iff_eq] at h; exact h)
end Go.User
namespace Sp

theorem not_mem_take_succ {α : Type} {l : List α} {i : Nat} {n d : α} (h : n ∉ l.take i) (hi : i < l.length) (hn : l.getD i d ≠ n) : n ∉ l.take (i + 1) := by
  rw [List.take_succ_eq_append_getElem hi]
  simp only [List.mem_append, List.mem_singleton, not_or]
  refine ⟨h, fun e => hn ?_⟩
  rw [List.getD_eq_getElem?_getD, List.getElem?_eq_getElem hi]
  exact e.symm

theorem idx_at {l : List Int} {n : Int} {i : Nat} (h : n ∉ l.take i) (hi : i < l.length) (hn : l.getD i 0 = n) : (i : Int) = idx l n := by
  have hg : l[i] = n := by rw [List.getD_eq_getElem?_getD, List.getElem?_eq_getElem hi] at hn; exact hn
  have hm : n ∈ l := hg ▸ List.getElem_mem hi
  unfold idx
  rw [if_pos hm]
  have e : l.idxOf n = i := by
    have := List.idxOf_append (l₁ := l.take i) (l₂ := l.drop i) (a := n)
    rw [List.take_append_drop, if_neg h, List.drop_eq_getElem_cons hi, hg, List.idxOf_cons_self, List.length_take] at this
    omega
  rw [e]

theorem idx_none {l : List Int} {n : Int} (h : n ∉ l) : (-1 : Int) = idx l n := by unfold idx; rw [if_neg h]

theorem take_all {α : Type} {l : List α} {i : Nat} (h1 : i ≤ l.length) (h2 : (l.length : Int) ≤ (i : Int)) : l.take i = l := List.take_of_length_le (by omega)

theorem findI_at {l : List LEv} {p : LEv → Bool} {i : Nat} (h : ∀ e ∈ l.take i, p e = false) (hi : i < l.length) (hp : p (l.getD i ev0) = true) : (i : Int) = findI p l := by
  have hg : l.getD i ev0 = l[i] := by rw [List.getD_eq_getElem?_getD, List.getElem?_eq_getElem hi]; rfl
  rw [hg] at hp
  unfold findI
  have : l.findIdx? p = some i := by
    rw [List.findIdx?_eq_some_iff_getElem]
    refine ⟨hi, hp, fun j hj => ?_⟩
    have := h l[j] (List.mem_take_iff_getElem.2 ⟨j, by omega, rfl⟩)
    rw [this]; simp
  rw [this]
theorem findI_none {l : List LEv} {p : LEv → Bool} (h : ∀ e ∈ l, p e = false) : (-1 : Int) = findI p l := by
  unfold findI
  have : l.findIdx? p = none := by
    rw [List.findIdx?_eq_none_iff]; exact h
  rw [this]
theorem findI_any (l : List LEv) (p : LEv → Bool) : decide (0 ≤ findI p l) = l.any p := by
  unfold findI
  cases h : l.findIdx? p with
  | none =>
    rw [List.findIdx?_eq_none_iff] at h
    have : l.any p = false := by rw [List.any_eq_false]; intro x hx; rw [h x hx]; simp
    rw [this]; rfl
  | some i =>
    rw [List.findIdx?_eq_some_iff_getElem] at h
    obtain ⟨hi, hp, _⟩ := h
    have : l.any p = true := List.any_eq_true.2 ⟨_, List.getElem_mem hi, hp⟩
    rw [this]
    simp
end Sp
namespace Go.User
open Go.Lf
theorem lim_eq : lim = 140737488355328 := rfl
theorem inK_of {z : Int} (h1 : -9223372036854775808 ≤ z) (h2 : z ≤ 9223372036854775807) : inK .i64 z := ⟨h1, h2⟩
theorem inK_nat {n m : Nat} (h1 : n ≤ m) (h2 : m ≤ lim) : inK .i64 (n : Int) := by rw [lim_eq] at h2; exact inK_of (by omega) (by omega)
/-- A counter below a length may go on. -/
theorem inK_succ {i n : Nat} (h : (i : Int) < (n : Int)) (hn : n ≤ lim) : inK .i64 ((i : Int) + 1) := by rw [lim_eq] at hn; exact inK_of (by omega) (by omega)
theorem inN_of {i n : Nat} (h : (i : Int) < (n : Int)) : inN (i : Int) n := ⟨by omega, h⟩
end Go.User
namespace Go.User
open Go.Lf Go.Proofs

theorem okA {n : Nat} {fns : List (FuncId × FSpec)} (h : ∀ f s, Lf.look fns f = some s → FOk Try.prog f s) : CtxOK Try.prog (mkC n fns) := ctx_ok rfl rfl h ptrs_nil

theorem at_vc (x : List Int × Int × Unit) (h : (x.1.length ≤ Go.Lf.lim ∧ ∀ (x_1 : Int), x_1 ∈ x.1 → Go.Lf.inK Go.IntKind.i64 x_1) ∧ Go.Lf.inK Go.IntKind.i64 x.2.1) :
    (∃ (x_1 : Nat), (x_1 ≤ x.1.length ∧ ¬x.2.1 ∈ List.take x_1 x.1) ∧ (0 : Int) = (↑x_1 : Int)) := ⟨0, ⟨Nat.zero_le _, by simp⟩, rfl⟩

theorem ok22 : FOk Try.prog 22 S22 := by
  refine FOk.intro (okA fns_nil) (stpP_ok (okA fns_nil)) Try.call22 Try.func22 (by kernel_rfl) (by kernel_rfl) L22 (vc22 ?_)
  intro x hx
  refine ⟨⟨0, ⟨Nat.zero_le _, by simp⟩, rfl⟩, ?_⟩
  intro i hi hk
  refine ⟨fun hlt => ⟨inN_of hlt, fun h => Sp.idx_at hi.2 (by omega) h, fun h => ⟨inK_succ hlt hx.1.1, i + 1, ⟨by omega, Sp.not_mem_take_succ hi.2 (by omega) h⟩, by omega, by omega⟩⟩, fun hge => ?_⟩
  have := hi.2
  rw [Sp.take_all hi.1 hge] at this
  exact Sp.idx_none this
theorem ok39 : FOk Try.prog 39 S39 := by
  refine FOk.intro (okA fns_nil) (stpP_ok (okA fns_nil)) Try.call39 Try.func39 (by kernel_rfl) (by kernel_rfl) L39 (vc39 ?_)
  intro x hx
  refine ⟨⟨0, ⟨Nat.zero_le _, by simp⟩, rfl⟩, ?_⟩
  intro i hi hk
  refine ⟨fun hlt => ⟨inN_of hlt, fun h => Sp.idx_at hi.2 (by omega) h, fun h => ⟨inK_succ hlt hx.1.1, i + 1, ⟨by omega, Sp.not_mem_take_succ hi.2 (by omega) h⟩, by omega, by omega⟩⟩, fun hge => ?_⟩
  have := hi.2
  rw [Sp.take_all hi.1 hge] at this
  exact Sp.idx_none this
theorem ok63 : FOk Try.prog 63 S63 := by
  refine FOk.intro (okA fns_nil) (stpP_ok (okA fns_nil)) Try.call63 Try.func63 (by kernel_rfl) (by kernel_rfl) L63 (vc63 ?_)
  intro x hx
  refine ⟨⟨0, ⟨Nat.zero_le _, by simp⟩, rfl⟩, ?_⟩
  intro i hi hk
  refine ⟨fun hlt => ⟨inN_of hlt, fun h => Sp.idx_at hi.2 (by omega) h.symm, fun h => ⟨inK_succ hlt hx.1.1, i + 1, ⟨by omega, Sp.not_mem_take_succ hi.2 (by omega) (fun e => h e.symm)⟩, by omega, by omega⟩⟩, fun hge => ?_⟩
  have := hi.2
  rw [Sp.take_all hi.1 hge] at this
  exact Sp.idx_none this
theorem ok42 : FOk Try.prog 42 S42 := FOk.intro (okA fns_nil) (stpP_ok (okA fns_nil)) Try.call42 Try.func42 (by kernel_rfl) (by kernel_rfl) L42 (vc42 (fun x hx => rfl))
theorem ok43 : FOk Try.prog 43 S43 := FOk.intro (okA fns_nil) (stpP_ok (okA fns_nil)) Try.call43 Try.func43 (by kernel_rfl) (by kernel_rfl) L43 (vc43 (fun x hx => rfl))
theorem ok37 : FOk Try.prog 37 S37 := FOk.intro (okA fns_nil) (stpP_ok (okA fns_nil)) Try.call37 Try.func37 (by kernel_rfl) (by kernel_rfl) L37 (vc37 (fun x hx => rfl))
theorem ok32 : FOk Try.prog 32 S32 := FOk.intro (okA fns_nil) (stpP_ok (okA fns_nil)) Try.call32 Try.func32 (by kernel_rfl) (by kernel_rfl) L32 (vc32 (fun x hx => rfl))
theorem ok62 : FOk Try.prog 62 S62 := by
  refine FOk.intro (okA fns_nil) (stpP_ok (okA fns_nil)) Try.call62 Try.func62 (by kernel_rfl) (by kernel_rfl) L62 (vc62 ?_)
  intro x hx
  refine ⟨fun h => ?_, fun h => ⟨fun h1 => ?_, fun h1 => ⟨fun h2 => ⟨fun _ => ?_, fun h3 => absurd h2 h3⟩, fun h2 => ⟨fun h3 => ?_, fun h3 => ?_⟩⟩⟩⟩
  · simp [Sp.usual, h]
  · simp [Sp.usual, h1]; rfl
  · simp [Sp.usual, h2]
  · simp [Sp.usual, h3]
  · simp [Sp.usual, h, h1, h2, h3]
theorem ok61 : FOk Try.prog 61 S61 :=
  have hC : CtxOK Try.prog C61 := okA (fns_cons ok62 fns_nil)
  FOk.intro hC (stpP_ok hC) Try.call61 Try.func61 (by kernel_rfl) (by kernel_rfl) L61 (vc61 (fun x hx => rfl))
theorem ok64 : FOk Try.prog 64 S64 := by
  refine FOk.intro (okA fns_nil) (stpP_ok (okA fns_nil)) Try.call64 Try.func64 (by kernel_rfl) (by kernel_rfl) L64 (vc64 ?_)
  intro x hp hx
  refine ⟨⟨0, ⟨Nat.zero_le _, by simp⟩, rfl⟩, ?_⟩
  intro i hi hk
  refine ⟨fun hlt => ⟨⟨inN_of hlt, hp _⟩, fun h => Sp.findI_at hi.2 (by omega) h, fun h => ⟨inK_succ hlt hx.1, i + 1, ⟨by omega, ?_⟩, by omega, by omega⟩⟩, fun hge => ?_⟩
  · intro e he
    rw [List.take_succ_eq_append_getElem (by omega)] at he
    rcases List.mem_append.1 he with he | he
    · exact hi.2 e he
    · simp only [List.mem_singleton] at he
      rw [List.getD_eq_getElem?_getD, List.getElem?_eq_getElem (by omega)] at h
      rw [he]; exact h
  · have := hi.2
    rw [Sp.take_all hi.1 hge] at this
    exact Sp.findI_none this
theorem ok60 : FOk Try.prog 60 S60 :=
  have hC : CtxOK Try.prog C60 := okA (fns_cons ok64 fns_nil)
  FOk.intro hC (stpP_ok hC) Try.call60 Try.func60 (by kernel_rfl) (by kernel_rfl) L60 (vc60 (fun x hp hx => ⟨hp, Sp.findI_any _ _⟩))
theorem value_vc {e : List Sp.LEv} {n : Int} : (n < 0 → (0 : Int) = Sp.value e n) ∧ (0 ≤ n → (Sp.ev e n).2.1.1 = 3 → IntKind.wrap .i64 ((Sp.ev e n).2.2.1 + (Sp.ev e n).2.1.2.2.1) = Sp.value e n) ∧
    (0 ≤ n → ¬ (Sp.ev e n).2.1.1 = 3 → (Sp.ev e n).2.1.2.2.1 = Sp.value e n) := by
  refine ⟨fun h => ?_, fun h h1 => ?_, fun h h1 => ?_⟩
  · unfold Sp.value; rw [if_pos h]
  · unfold Sp.value; rw [if_neg (by omega), if_pos h1]
  · unfold Sp.value; rw [if_neg (by omega), if_neg h1]
theorem okW {n : Nat} {fns : List (FuncId × FSpec)} {wr : List Nat} (h : ∀ f s, Lf.look fns f = some s → FOk Try.prog f s) : CtxOK Try.prog { mkC n fns with wrp := wr } := ctx_ok rfl rfl h ptrs_nil
theorem ok40 : FOk Try.prog 40 S40 := by
  refine FOk.intro (okW fns_nil) (stpP_ok (okW fns_nil)) Try.call40 Try.func40 (by kernel_rfl) (by kernel_rfl) L40 (vc40 ?_)
  intro x hp hx
  have hv := value_vc (e := x.1.1) (n := x.2.1)
  exact ⟨fun h => hv.1 h, fun h => ⟨⟨h, hp⟩, fun h1 => ⟨⟨h, hp⟩, hv.2.1 h h1⟩, fun h1 => ⟨⟨h, hp⟩, hv.2.2 h h1⟩⟩⟩
theorem ok44 : FOk Try.prog 44 S44 := by
  refine FOk.intro (okW fns_nil) (stpP_ok (okW fns_nil)) Try.call44 Try.func44 (by kernel_rfl) (by kernel_rfl) L44 (vc44 ?_)
  intro x hp hx
  have hv := value_vc (e := x.1.1) (n := x.2.1)
  exact ⟨fun h => hv.1 h, fun h => ⟨⟨h, hp⟩, fun h1 => ⟨⟨h, hp⟩, hv.2.1 h h1⟩, fun h1 => ⟨⟨h, hp⟩, hv.2.2 h h1⟩⟩⟩
theorem ok38 : FOk Try.prog 38 S38 := by
  refine FOk.intro (okA fns_nil) (stpP_ok (okA fns_nil)) Try.call38 Try.func38 (by kernel_rfl) (by kernel_rfl) L38 (vc38 ?_)
  intro x hp hx
  refine ⟨fun h => ⟨⟨hp, h⟩, ?_⟩, fun h => ?_⟩
  · unfold Sp.byteAt; rw [if_pos h]
  · unfold Sp.byteAt; rw [if_neg (by omega)]
theorem ok46 : FOk Try.prog 46 S46 :=
  have hC : CtxOK Try.prog C46 := okA (fns_cons ok43 fns_nil)
  FOk.intro hC (stpP_ok hC) Try.call46 Try.func46 (by kernel_rfl) (by kernel_rfl) L46 (vc46 (fun x hx => rfl))
theorem ok47 : FOk Try.prog 47 S47 := FOk.intro (okA fns_nil) (stpP_ok (okA fns_nil)) Try.call47 Try.func47 (by kernel_rfl) (by kernel_rfl) L47 (vc47 (fun x hx => rfl))
theorem ok27 : FOk Try.prog 27 S27 := FOk.intro (okA fns_nil) (stpP_ok (okA fns_nil)) Try.call27 Try.func27 (by kernel_rfl) (by kernel_rfl) L27 (vc27 (fun x hx => rfl))
theorem ok28 : FOk Try.prog 28 S28 := FOk.intro (okA fns_nil) (stpP_ok (okA fns_nil)) Try.call28 Try.func28 (by kernel_rfl) (by kernel_rfl) L28 (vc28 (fun x hx => rfl))
theorem ok29 : FOk Try.prog 29 S29 := FOk.intro (okA fns_nil) (stpP_ok (okA fns_nil)) Try.call29 Try.func29 (by kernel_rfl) (by kernel_rfl) L29 (vc29 rfl)
end Go.User
namespace Sp

theorem getD_lt {α : Type} {l : List α} {i : Nat} {d : α} (h : i < l.length) : l.getD i d = l[i] := by rw [List.getD_eq_getElem?_getD, List.getElem?_eq_getElem h]; rfl

theorem evs_append : ∀ (c : Int) (p q : List (List LOp)), evs c (p ++ q) = evs c p ++ evs (c + p.length) q
  | c, [], q => by simp [evs]
  | c, l :: p, q => by
    simp only [List.cons_append, evs, evs_append (c + 1) p q, List.append_assoc, List.length_cons]
    congr 3; omega

theorem evs_succ {p : List (List LOp)} {i : Nat} (h : i < p.length) : evs 0 (p.take (i + 1)) = evs 0 (p.take i) ++ (p.getD i []).map (mkEv (i : Int)) := by
  rw [List.take_succ_eq_append_getElem h, evs_append, getD_lt h]
  simp only [evs, List.append_nil, List.length_take]
  congr 2; congr 1; omega

theorem evs_le {p : List (List LOp)} {i k : Nat} (h : i < p.length) (hk : k ≤ (p.getD i []).length) : (evs 0 (p.take i) ++ ((p.getD i []).take k).map (mkEv (i : Int))).length ≤ (evs 0 p).length := by
  have h1 : evs 0 p = evs 0 (p.take (i + 1)) ++ evs (0 + ((p.take (i + 1)).length : Int)) (p.drop (i + 1)) := by rw [← evs_append, List.take_append_drop]
  rw [h1, evs_succ h]
  simp only [List.length_append, List.length_map, List.length_take]
  omega

theorem map_take_succ {l : List LOp} {k : Nat} (c : Int) (h : k < l.length) : (l.take (k + 1)).map (mkEv c) = (l.take k).map (mkEv c) ++ [mkEv c (l.getD k (0, 0, 0, ()))] := by
  rw [List.take_succ_eq_append_getElem h, List.map_append, getD_lt h]; rfl

theorem sel_succ (p : Nat → Bool) (n : Nat) : sel p (n + 1) = sel p n ++ (if p n = true then [(n : Int)] else []) := by
  unfold sel
  rw [List.range_succ, List.filter_append, List.map_append]
  congr 1
  by_cases h : p n = true
  · rw [if_pos h]; simp [h]
  · rw [if_neg h]; simp [h]
theorem sel_len (p : Nat → Bool) (n : Nat) : (sel p n).length ≤ n := by
  unfold sel
  rw [List.length_map]
  exact Nat.le_trans (List.length_filter_le _ _) (by simp)

theorem mat_ext {f g : Nat → Nat → Bool} (h : ∀ a b, a < 6 → b < 6 → f a b = g a b) : mat f = mat g := by
  unfold mat
  refine List.map_congr_left fun a ha => List.map_congr_left fun b hb => ?_
  exact h a b (List.mem_range.1 ha) (List.mem_range.1 hb)
theorem mat_const : List.replicate 6 (List.replicate 6 false) = mat fun _ _ => false := rfl
theorem mat_row {f : Nat → Nat → Bool} {a : Nat} (h : a < 6) {d : List Bool} : (mat f).getD a d = (List.range 6).map (f a) := by
  have : a < (mat f).length := by simp [mat]; exact h
  rw [getD_lt this]; simp [mat]
theorem get2_mat {f : Nat → Nat → Bool} {a b : Nat} (ha : a < 6) (hb : b < 6) : get2 (mat f) a b = f a b := by
  unfold get2
  rw [mat_row ha, getD_lt (by simp; exact hb)]; simp
theorem mat_set {f : Nat → Nat → Bool} {a b : Nat} (ha : a < 6) (hb : b < 6) {d : List Bool} {v : Bool} :
    (mat f).set a (((mat f).getD a d).set b v) = mat fun x y => if x = a ∧ y = b then v else f x y := by
  rw [mat_row ha]
  apply List.ext_getElem
  · simp [mat]
  · intro i h1 h2
    simp only [List.getElem_set, mat, List.getElem_map, List.getElem_range]
    by_cases hi : a = i
    · subst hi
      rw [if_pos rfl]
      apply List.ext_getElem
      · simp
      · intro j h3 h4
        simp only [List.getElem_set, List.getElem_map, List.getElem_range, true_and]
        by_cases hj : b = j
        · subst hj; simp
        · rw [if_neg hj, if_neg (fun h => hj h.symm)]
    · rw [if_neg hi]
      refine List.map_congr_left fun y hy => ?_
      rw [if_neg (fun h => hi h.1.symm)]

theorem shuf_step {n : Nat} {l b : List Int} {i : Int} (h : l.length = n + 1) : shuf l.length l b i = l.getD ((byteAt b i).tmod (l.length : Int)).toNat 0 :: shuf n (l.eraseIdx ((byteAt b i).tmod (l.length : Int)).toNat) b (i + 1) := by
  rw [h]
  simp only [shuf, h]

theorem byteAt_nonneg {b : List Int} (h : ∀ x ∈ b, Go.Lf.inK .u8 x) (i : Int) : 0 ≤ byteAt b i ∧ byteAt b i ≤ 255 := by
  unfold byteAt
  split
  · rename_i hi
    by_cases h2 : i.toNat < b.length
    · rw [getD_lt h2]
      have := h _ (List.getElem_mem h2)
      exact ⟨this.1, this.2⟩
    · rw [List.getD_eq_getElem?_getD, List.getElem?_eq_none (by omega)]; simp
  · simp
end Sp
namespace Go.User
open Go.Lf Go.Proofs

theorem maxNew_eq : maxNew = 2147483648 := rfl

theorem ok41 : FOk Try.prog 41 S41 := by
  refine FOk.intro (okA fns_nil) (stpP_ok (okA fns_nil)) Try.call41 Try.func41 (by kernel_rfl) (by kernel_rfl) L41 (vc41.mpr ?_)
  simp only [z1, z2, z3, z4, z5, z6, z7, z8, z9, z10, z11, z12, z13, z14, z15, z16, z17, z18, z19, z20, z21, z22, z23, z24, z25, z26, z27, z28, z29, z30, z31, z32, z33, z34, z35, z36, z37, z38, dFact]
  intro x hp hx
  refine ⟨⟨(0, []), ⟨Nat.zero_le _, rfl⟩, rfl, rfl⟩, ?_⟩
  intro i hi hk
  refine ⟨fun hlt => ⟨inN_of hlt, ⟨(0, i.2), ⟨Nat.zero_le _, by simp [hi.2]⟩, rfl, rfl⟩, ?_⟩, fun hge => ?_⟩
  · intro k hk1 hk2
    have hi' : i.1 < x.1.1.length := by omega
    have hl : (x.1.1.getD i.1 []).length ≤ lim := by
      rw [Sp.getD_lt hi']; exact (hx.2 _ (List.getElem_mem hi')).1
    refine ⟨fun hlt2 => ⟨inN_of hlt2, ?_, inK_succ hlt2 hl, (k.1 + 1, _), ⟨by show k.1 + 1 ≤ _; omega, ?_⟩, by show _ - (k.1 + 1) < _; omega, by show (_ : Int) = ((k.1 + 1 : Nat) : Int); omega, rfl⟩,
      fun hge2 => ⟨inK_succ hlt hx.1, (i.1 + 1, k.2), ⟨by show i.1 + 1 ≤ _; omega, ?_⟩, by show _ - (i.1 + 1) < _; omega, by show (_ : Int) = ((i.1 + 1 : Nat) : Int); omega, rfl⟩⟩
    · have := Sp.evs_le hi' hk1.1
      rw [← hk1.2] at this
      rw [maxNew_eq]; omega
    · show k.2 ++ _ = Sp.evs 0 (List.take i.1 x.1.1) ++ List.map (Sp.mkEv (i.1 : Int)) (List.take (k.1 + 1) (x.1.1.getD i.1 []))
      rw [hk1.2, Sp.map_take_succ _ (by omega), List.append_assoc]; rfl
    · show k.2 = Sp.evs 0 (List.take (i.1 + 1) x.1.1)
      rw [hk1.2, Sp.evs_succ hi', List.take_of_length_le (l := x.1.1.getD i.1 []) (by omega)]
  · rw [hi.2, Sp.take_all hi.1 hge]

theorem ok33 : FOk Try.prog 33 S33 := by
  refine FOk.intro (okA fns_nil) (stpP_ok (okA fns_nil)) Try.call33 Try.func33 (by kernel_rfl) (by kernel_rfl) L33 (vc33.mpr ?_)
  simp only [z1, z2, z3, z4, z5, z6, z7, z8, z9, z10, z11, z12, z13, z14, z15, z16, z17, z18, z19, z20, z21, z22, z23, z24, z25, z26, z27, z28, z29, z30, z31, z32, z33, z34, z35, z36, z37, z38, dFact]
  intro x hp hx
  refine ⟨⟨(0, []), ⟨Nat.zero_le _, rfl⟩, rfl, rfl⟩, ?_⟩
  intro i hi hk
  refine ⟨fun hlt => ⟨⟨(0, i.2), ⟨Nat.zero_le _, by simp [hi.2]⟩, rfl, rfl⟩, ?_⟩, fun hge => ?_⟩
  · intro k hk1 hk2
    have hi' : i.1 < x.1.1.length := by omega
    have hl : (x.1.1.getD i.1 []).length ≤ lim := by
      rw [Sp.getD_lt hi']; exact (hx.2 _ (List.getElem_mem hi')).1
    refine ⟨inN_of hlt, fun hlt2 => ⟨⟨⟨inN_of hlt, inN_of hlt2⟩, ?_⟩, inK_succ hlt2 hl, (k.1 + 1, _), ⟨by show k.1 + 1 ≤ _; omega, ?_⟩, by show _ - (k.1 + 1) < _; omega, by show (_ : Int) = ((k.1 + 1 : Nat) : Int); omega, rfl⟩,
      fun hge2 => ⟨inK_succ hlt hx.1, (i.1 + 1, k.2), ⟨by show i.1 + 1 ≤ _; omega, ?_⟩, by show _ - (i.1 + 1) < _; omega, by show (_ : Int) = ((i.1 + 1 : Nat) : Int); omega, rfl⟩⟩
    · have := Sp.evs_le hi' hk1.1
      rw [← hk1.2] at this
      rw [maxNew_eq]; omega
    · show k.2 ++ _ = Sp.evs 0 (List.take i.1 x.1.1) ++ List.map (Sp.mkEv (i.1 : Int)) (List.take (k.1 + 1) (x.1.1.getD i.1 []))
      rw [hk1.2, Sp.map_take_succ _ (by omega), List.append_assoc]; rfl
    · show k.2 = Sp.evs 0 (List.take (i.1 + 1) x.1.1)
      rw [hk1.2, Sp.evs_succ hi', List.take_of_length_le (l := x.1.1.getD i.1 []) (by omega)]
  · rw [hi.2, Sp.take_all hi.1 hge]

theorem ok36 : FOk Try.prog 36 S36 := by
  refine FOk.intro (okA fns_nil) (stpP_ok (okA fns_nil)) Try.call36 Try.func36 (by kernel_rfl) (by kernel_rfl) L36 (vc36.mpr ?_)
  simp only [z1, z2, z3, z4, z5, z6, z7, z8, z9, z10, z11, z12, z13, z14, z15, z16, z17, z18, z19, z20, z21, z22, z23, z24, z25, z26, z27, z28, z29, z30, z31, z32, z33, z34, z35, z36, z37, z38, dFact]
  intro x hp hx
  refine ⟨⟨(0, []), ⟨Nat.zero_le _, rfl⟩, rfl, rfl⟩, ?_⟩
  intro i hi hk
  have hlen := Sp.sel_len (fun (i : Nat) => decide ((Sp.ev x.1 (i : Int)).2.1.1 = 4)) i.1
  rw [← hi.2] at hlen
  refine ⟨fun hlt => ⟨inN_of hlt, fun h => ⟨by rw [maxNew_eq]; omega, inK_succ hlt hx.1, (i.1 + 1, _), ⟨by show i.1 + 1 ≤ _; omega, ?_⟩, by show _ - (i.1 + 1) < _; omega, by show (_ : Int) = ((i.1 + 1 : Nat) : Int); omega, rfl⟩,
    fun h => ⟨inK_succ hlt hx.1, (i.1 + 1, i.2), ⟨by show i.1 + 1 ≤ _; omega, ?_⟩, by show _ - (i.1 + 1) < _; omega, by show (_ : Int) = ((i.1 + 1 : Nat) : Int); omega, rfl⟩⟩, fun hge => ?_⟩
  · show i.2 ++ _ = Sp.sel _ (i.1 + 1)
    rw [Sp.sel_succ, hi.2, if_pos]
    show decide ((Sp.ev x.1 i.1).2.1.1 = 4) = true
    exact decide_eq_true h
  · show i.2 = Sp.sel _ (i.1 + 1)
    rw [Sp.sel_succ, hi.2, if_neg, List.append_nil]
    show ¬ decide ((Sp.ev x.1 i.1).2.1.1 = 4) = true
    rw [decide_eq_true_eq]; exact h
  · rw [hi.2, show i.1 = x.1.length from by omega]; rfl

theorem ok34 : FOk Try.prog 34 S34 := by
  have hC : CtxOK Try.prog C34 := okA (fns_cons ok32 fns_nil)
  refine FOk.intro hC (stpP_ok hC) Try.call34 Try.func34 (by kernel_rfl) (by kernel_rfl) L34 (vc34.mpr ?_)
  simp only [z1, z2, z3, z4, z5, z6, z7, z8, z9, z10, z11, z12, z13, z14, z15, z16, z17, z18, z19, z20, z21, z22, z23, z24, z25, z26, z27, z28, z29, z30, z31, z32, z33, z34, z35, z36, z37, z38, dFact]
  intro x hp hx
  refine ⟨⟨(0, []), ⟨Nat.zero_le _, rfl⟩, rfl, rfl⟩, ?_⟩
  intro i hi hk
  have hlen := Sp.sel_len (fun (i : Nat) => Sp.writes (Sp.ev x.1 (i : Int)).2.1 && decide ((Sp.ev x.1 (i : Int)).2.1.2.1 = x.2.1)) i.1
  rw [← hi.2] at hlen
  refine ⟨fun hlt => ⟨⟨inN_of hlt, fun _ => inN_of hlt⟩, fun h => ⟨by rw [maxNew_eq]; omega, inK_succ hlt hx.1.1, (i.1 + 1, _), ⟨by show i.1 + 1 ≤ _; omega, ?_⟩, by show _ - (i.1 + 1) < _; omega, by show (_ : Int) = ((i.1 + 1 : Nat) : Int); omega, rfl⟩,
    fun h => ⟨inK_succ hlt hx.1.1, (i.1 + 1, i.2), ⟨by show i.1 + 1 ≤ _; omega, ?_⟩, by show _ - (i.1 + 1) < _; omega, by show (_ : Int) = ((i.1 + 1 : Nat) : Int); omega, rfl⟩⟩, fun hge => ?_⟩
  · show i.2 ++ _ = Sp.sel _ (i.1 + 1)
    rw [Sp.sel_succ, hi.2, if_pos]
    show (Sp.writes (Sp.ev x.1 i.1).2.1 && decide ((Sp.ev x.1 i.1).2.1.2.1 = x.2.1)) = true
    rw [Bool.and_eq_true, decide_eq_true_eq]; exact h
  · show i.2 = Sp.sel _ (i.1 + 1)
    rw [Sp.sel_succ, hi.2, if_neg, List.append_nil]
    show ¬ (Sp.writes (Sp.ev x.1 i.1).2.1 && decide ((Sp.ev x.1 i.1).2.1.2.1 = x.2.1)) = true
    rw [Bool.not_eq_true]; exact h
  · rw [hi.2, show i.1 = x.1.length from by omega]; rfl

theorem ok35 : FOk Try.prog 35 S35 := by
  have hC : CtxOK Try.prog C35 := okA (fns_cons ok38 fns_nil)
  refine FOk.intro hC (stpP_ok hC) Try.call35 Try.func35 (by kernel_rfl) (by kernel_rfl) L35 (vc35.mpr ?_)
  simp only [z1, z2, z3, z4, z5, z6, z7, z8, z9, z10, z11, z12, z13, z14, z15, z16, z17, z18, z19, z20, z21, z22, z23, z24, z25, z26, z27, z28, z29, z30, z31, z32, z33, z34, z35, z36, z37, z38, dFact]
  intro x hp hx
  have hp2 : (x.2.2.1 : Int) ≤ 1000 := hp.2.2
  refine ⟨by rw [maxNew_eq]; omega, ⟨([], x.1, x.2.2.1), ⟨by simp, hp.2.1, rfl, rfl⟩, rfl, rfl, rfl⟩, ?_⟩
  intro i hi hk
  obtain ⟨h1, h2, h3, h4⟩ := hi
  refine ⟨fun hlt => ?_, fun hge => ?_⟩
  · have hb := Sp.byteAt_nonneg hx.2.1.2 i.2.2
    generalize hk0 : (Sp.byteAt x.2.1 i.2.2).tmod (i.2.1.length : Int) = k
    have hk1 : 0 ≤ k := by rw [← hk0]; exact Int.tmod_nonneg _ hb.1
    have hk2 : k < (i.2.1.length : Int) := by rw [← hk0]; exact Int.tmod_lt_of_pos _ hlt
    have hw1 : win 0 k i.2.1 = i.2.1.take k.toNat := by simp [win]
    have hw2 : win (k + 1) (i.2.1.length : Int) i.2.1 = i.2.1.drop (k.toNat + 1) := by
      unfold win
      rw [List.take_of_length_le (by omega)]
      congr 1; omega
    have hers : i.2.1.eraseIdx k.toNat = i.2.1.take k.toNat ++ i.2.1.drop (k.toNat + 1) := List.eraseIdx_eq_take_drop_succ _ _
    have hlen : (i.2.1.take k.toNat ++ i.2.1.drop (k.toNat + 1)).length + 1 = i.2.1.length := by
      simp only [List.length_append, List.length_take, List.length_drop]; omega
    rw [hw1, hw2]
    have hlen' := hlen
    simp only [List.length_append] at hlen'
    rw [lim_eq] at hk
    refine ⟨⟨h2, by omega⟩, inK_of (by omega) (by omega), ⟨⟨hk1, hk2⟩, by rw [maxNew_eq]; omega⟩, ⟨⟨by omega, hk1, by omega⟩, by rw [maxNew_eq]; omega, inK_of (by omega) (by omega), ⟨by omega, by omega, by omega⟩, by rw [maxNew_eq]; omega⟩,
      (i.1 ++ [i.2.1.getD k.toNat 0], i.2.1.take k.toNat ++ i.2.1.drop (k.toNat + 1), i.2.2 + 1), ⟨?_, ?_, ?_, ?_⟩, ?_, rfl, rfl, rfl⟩
    · show (i.1 ++ [_]).length + (i.2.1.take k.toNat ++ i.2.1.drop (k.toNat + 1)).length = _
      rw [List.length_append, List.length_singleton]; omega
    · show 0 ≤ i.2.2 + 1; omega
    · show i.2.2 + 1 + ((i.2.1.take k.toNat ++ i.2.1.drop (k.toNat + 1)).length : Int) = _; omega
    · show (i.1 ++ [i.2.1.getD k.toNat 0]) ++ Sp.shuf (i.2.1.take k.toNat ++ i.2.1.drop (k.toNat + 1)).length (i.2.1.take k.toNat ++ i.2.1.drop (k.toNat + 1)) x.2.1 (i.2.2 + 1) = _
      rw [← h4, Sp.shuf_step (l := i.2.1) (n := (i.2.1.take k.toNat ++ i.2.1.drop (k.toNat + 1)).length) (by omega), hk0, hers, List.append_assoc]
      rfl
    · show (i.2.1.take k.toNat ++ i.2.1.drop (k.toNat + 1)).length < _; omega
  · have h0 : i.2.1 = [] := List.length_eq_zero_iff.1 (by omega)
    rw [h0] at h4
    simpa [Sp.shuf] using h4

theorem ok53 : FOk Try.prog 53 S53 := by
  have hC : CtxOK Try.prog C53 := okA (fns_cons ok63 fns_nil)
  refine FOk.intro hC (stpP_ok hC) Try.call53 Try.func53 (by kernel_rfl) (by kernel_rfl) L53 (vc53.mpr ?_)
  simp only [z1, z2, z3, z4, z5, z6, z7, z8, z9, z10, z11, z12, z13, z14, z15, z16, z17, z18, z19, z20, z21, z22, z23, z24, z25, z26, z27, z28, z29, z30, z31, z32, z33, z34, z35, z36, z37, z38, dFact]
  intro x hp hx
  exact ⟨⟨hp.1, hp.2.2⟩, hp.2.1, rfl⟩

theorem fold_succ {α : Type} (f : α → Nat → α) (a : α) (n : Nat) : (List.range (n + 1)).foldl f a = f ((List.range n).foldl f a) n := by
  rw [List.range_succ, List.foldl_append]; rfl

theorem rowA_zero (k : Nat) (r : Sp.Rel) : Sp.rowA k r 0 = r := rfl
theorem rowB_zero (k a : Nat) (r : Sp.Rel) : Sp.rowB k a r 0 = r := rfl
theorem rowB_succ (k a : Nat) (r : Sp.Rel) (n : Nat) : Sp.rowB k a r (n + 1) = Sp.stepB k a (Sp.rowB k a r n) n := fold_succ _ _ _
theorem rowA_succ (k : Nat) (r : Sp.Rel) (n : Nat) : Sp.rowA k r (n + 1) = Sp.rowB k n (Sp.rowA k r n) 6 := fold_succ _ _ _
theorem closeN_succ (r : Sp.Rel) (n : Nat) : Sp.closeN r (n + 1) = Sp.rowA n (Sp.closeN r n) 6 := fold_succ _ _ _
theorem stepB_eq (k a : Nat) (r : Sp.Rel) (b : Nat) : List.set r a (List.set (List.getD r a (List.replicate 6 false)) b (List.getD (List.getD r a (List.replicate 6 false)) b false ||
    List.getD (List.getD r a (List.replicate 6 false)) k false && List.getD (List.getD r k (List.replicate 6 false)) b false)) = Sp.stepB k a r b := rfl

theorem pk51 : POk Try.prog 51 S51 := by
  have hC : CtxOK Try.prog C51 := ctx_ok rfl rfl fns_nil ptrs_nil
  refine POk.intro hC (stpP_ok hC) Try.call51 Try.func51 (by kernel_rfl) rfl (by kernel_rfl) rfl rfl L51 (vc51.mpr ?_)
  simp only [z1, z2, z3, z4, z5, z6, z7, z8, z9, z10, z11, z12, z13, z14, z15, z16, z17, z18, z19, z20, z21, z22, z23, z24, z25, z26, z27, z28, z29, z30, z31, z32, z33, z34, z35, z36, z37, z38, dFact]
  intro x hx
  have h6 : ∀ {n : Nat}, (n : Int) < 6 → inN (n : Int) 6 := fun h => ⟨by omega, by omega⟩
  have hk : ∀ {n : Nat}, (n : Int) < 6 → inK .i64 ((n : Int) + 1) := fun h => inK_of (by omega) (by omega)
  refine ⟨⟨(0, x), ⟨Nat.zero_le _, rfl⟩, rfl, rfl⟩, ?_⟩
  intro i hi _
  refine ⟨fun hlt => ⟨⟨(0, i.2), ⟨Nat.zero_le _, by rw [rowA_zero]; exact hi.2⟩, rfl, rfl⟩, ?_⟩, fun hge => ?_⟩
  · intro a ha _
    refine ⟨fun hlt2 => ⟨⟨(0, a.2), ⟨Nat.zero_le _, by rw [rowB_zero]; exact ha.2⟩, rfl, rfl⟩, ?_⟩, fun hge => ⟨hk hlt, (i.1 + 1, a.2), ⟨by show i.1 + 1 ≤ _; omega, ?_⟩, by show _ - (i.1 + 1) < _; omega, by show (_ : Int) = ((i.1 + 1 : Nat) : Int); omega, rfl⟩⟩
    · intro b hb _
      refine ⟨fun hlt3 => ⟨⟨h6 hlt2, h6 hlt3, fun _ => h6 hlt2, fun _ => h6 hlt, fun _ => h6 hlt, fun _ => h6 hlt3, h6 hlt2, h6 hlt3⟩, hk hlt3, (b.1 + 1, _), ⟨by show b.1 + 1 ≤ _; omega, ?_⟩, by show _ - (b.1 + 1) < _; omega, by show (_ : Int) = ((b.1 + 1 : Nat) : Int); omega, rfl⟩,
        fun hge => ⟨hk hlt2, (a.1 + 1, b.2), ⟨by show a.1 + 1 ≤ _; omega, ?_⟩, by show _ - (a.1 + 1) < _; omega, by show (_ : Int) = ((a.1 + 1 : Nat) : Int); omega, rfl⟩⟩
      · rw [rowB_succ, ← hb.2]; exact stepB_eq _ _ _ _
      · rw [rowA_succ, hb.2, show b.1 = 6 from by omega]
    · rw [closeN_succ, ha.2, show a.1 = 6 from by omega]
  · rw [hi.2, show i.1 = 6 from by omega]; rfl

theorem ok52 : FOk Try.prog 52 S52 := by
  refine FOk.intro (okA fns_nil) (stpP_ok (okA fns_nil)) Try.call52 Try.func52 (by kernel_rfl) (by kernel_rfl) L52 (vc52.mpr ?_)
  simp only [z1, z2, z3, z4, z5, z6, z7, z8, z9, z10, z11, z12, z13, z14, z15, z16, z17, z18, z19, z20, z21, z22, z23, z24, z25, z26, z27, z28, z29, z30, z31, z32, z33, z34, z35, z36, z37, z38, dFact]
  intro x hx
  refine ⟨⟨0, ⟨Nat.zero_le _, fun a h => by omega⟩, rfl⟩, ?_⟩
  intro i hi _
  refine ⟨fun hlt => ⟨⟨by omega, by omega⟩, fun h => ?_, fun h => ⟨inK_of (by omega) (by omega), i + 1, ⟨by omega, ?_⟩, by omega, by omega⟩⟩, fun hge => ?_⟩
  · symm
    unfold Sp.round
    rw [List.any_eq_true]
    exact ⟨i, List.mem_range.2 (by omega), h⟩
  · intro a ha
    rcases Nat.lt_or_ge a i with h' | h'
    · exact hi.2 a h'
    · rw [show a = i from by omega]; exact h
  · symm
    unfold Sp.round
    rw [List.any_eq_false]
    intro a ha
    rw [hi.2 a (by have := List.mem_range.1 ha; omega)]
    simp

theorem ok21 : FOk Try.prog 21 S21 := by
  have hC : CtxOK Try.prog C21 := okA (fns_cons ok41 (fns_cons ok60 (fns_cons ok61 fns_nil)))
  refine FOk.intro hC (stpP_ok hC) Try.call21 Try.func21 (by kernel_rfl) (by kernel_rfl) L21 (vc21.mpr ?_)
  simp only [z1, z2, z3, z4, z5, z6, z7, z8, z9, z10, z11, z12, z13, z14, z15, z16, z17, z18, z19, z20, z21, z22, z23, z24, z25, z26, z27, z28, z29, z30, z31, z32, z33, z34, z35, z36, z37, z38, dFact]
  intro x hp hx
  refine ⟨hp, ?_⟩
  unfold Sp.valid
  have h1 : ∀ (e : List Sp.LEv), (!e.any fun x => !Sp.usual x.2.1) = e.all fun x => Sp.usual x.2.1 := by
    intro e; simp [List.all_eq_not_any_not]
  have h2 : ∀ (n m : Nat), decide ((n : Int) ≤ (m : Int)) = decide (n ≤ m) := fun n m => by simp
  rw [h1]
  simp only [decide_eq_decide.2 (show ((1 : Int) ≤ (x.1.1.length : Int)) ↔ 1 ≤ x.1.1.length from by omega), decide_eq_decide.2 (show ((x.1.1.length : Int) ≤ 4) ↔ x.1.1.length ≤ 4 from by omega),
    decide_eq_decide.2 (show ((1 : Int) ≤ ((Sp.evs 0 x.1.1).length : Int)) ↔ 1 ≤ (Sp.evs 0 x.1.1).length from by omega), decide_eq_decide.2 (show (((Sp.evs 0 x.1.1).length : Int) ≤ 6) ↔ (Sp.evs 0 x.1.1).length ≤ 6 from by omega)]
end Go.User
namespace Sp
theorem oA_zero (e : List LEv) (a b : Nat) : false = oA e 0 a b := by simp [oA]
theorem oAB (e : List LEv) (i a b : Nat) : oA e i a b = oB e i (i + 1) a b := by
  rw [Bool.eq_iff_iff]
  simp only [oA, oB, ordF, List.length_nil, List.range_zero, List.any_nil, Bool.or_false, Bool.and_eq_true, Bool.or_eq_true, decide_eq_true_eq]
  constructor
  · rintro ⟨h, h2⟩; exact ⟨.inl h, h2⟩
  · rintro ⟨h | ⟨h, h'⟩, h2⟩
    · exact ⟨h, h2⟩
    · have := h2.1.1; omega
theorem oB_step {e : List LEv} {i k : Nat} (hk : i < k) (hk2 : k < e.length) (a b : Nat) : (if a = i ∧ b = k then decide ((ev e i).1 = (ev e k).1) else oB e i k a b) = oB e i (k + 1) a b := by
  rw [Bool.eq_iff_iff]
  simp only [oB, ordF, List.length_nil, List.range_zero, List.any_nil, Bool.or_false]
  split
  · rename_i h
    obtain ⟨rfl, rfl⟩ := h
    simp only [Bool.and_eq_true, Bool.or_eq_true, decide_eq_true_eq]
    constructor
    · intro h; exact ⟨.inr ⟨trivial, by omega⟩, ⟨hk, hk2⟩, h⟩
    · rintro ⟨_, _, h⟩; exact h
  · rename_i h
    simp only [Bool.and_eq_true, Bool.or_eq_true, decide_eq_true_eq]
    constructor
    · rintro ⟨h1 | ⟨h1, h2⟩, h3⟩
      · exact ⟨.inl h1, h3⟩
      · exact ⟨.inr ⟨h1, by omega⟩, h3⟩
    · rintro ⟨h1 | ⟨h1, h2⟩, h3⟩
      · exact ⟨.inl h1, h3⟩
      · refine ⟨.inr ⟨h1, ?_⟩, h3⟩
        rcases Nat.lt_or_ge b k with h4 | h4
        · exact h4
        · exact absurd ⟨h1, by omega⟩ h
theorem oB_end {e : List LEv} {i k : Nat} (hk : e.length ≤ k) (a b : Nat) : oB e i k a b = oA e (i + 1) a b := by
  rw [Bool.eq_iff_iff]
  simp only [oA, oB, ordF, List.length_nil, List.range_zero, List.any_nil, Bool.or_false, Bool.and_eq_true, Bool.or_eq_true, decide_eq_true_eq]
  constructor
  · rintro ⟨h | ⟨h, _⟩, h2⟩
    · exact ⟨by omega, h2⟩
    · exact ⟨by omega, h2⟩
  · rintro ⟨h, h2⟩
    rcases Nat.lt_or_ge a i with h3 | h3
    · exact ⟨.inl h3, h2⟩
    · exact ⟨.inr ⟨by omega, by have := h2.1.2; omega⟩, h2⟩
theorem oA_end {e : List LEv} {fo : List Int} {i : Nat} (hk : e.length ≤ i) (a b : Nat) : oA e i a b = oC e fo 0 a b := by
  rw [Bool.eq_iff_iff]
  simp only [oA, oC, ordF, List.length_nil, List.range_zero, List.any_nil, Bool.or_false, Bool.and_eq_true, Bool.or_eq_true, decide_eq_true_eq]
  constructor
  · rintro ⟨h, h2⟩; exact h2
  · intro h; exact ⟨by have := h.1.2; have := h.1.1; omega, h⟩
theorem oCD (e : List LEv) (fo : List Int) (i a b : Nat) : oC e fo i a b = oD e fo i 0 a b := by simp [oD]
theorem oD_step {e : List LEv} {fo : List Int} {i k : Nat} (ai bk : Nat) (h1 : fo.getD i 0 = (ai : Int)) (h2 : fo.getD (i + 1 + k) 0 = (bk : Int)) (a b : Nat) :
    (if a = ai ∧ b = bk then true else oD e fo i k a b) = oD e fo i (k + 1) a b := by
  rw [Bool.eq_iff_iff]
  simp only [oD, fo2, h1]
  split
  · rename_i h
    obtain ⟨rfl, rfl⟩ := h
    simp only [Bool.or_eq_true, List.any_eq_true, List.mem_range, Bool.and_eq_true, decide_eq_true_eq, true_iff]
    exact .inr ⟨k, by omega, trivial, h2⟩
  · rename_i h
    simp only [Bool.or_eq_true, List.any_eq_true, List.mem_range, Bool.and_eq_true, decide_eq_true_eq]
    constructor
    · rintro (h3 | ⟨q, h3, h4⟩)
      · exact .inl h3
      · exact .inr ⟨q, by omega, h4⟩
    · rintro (h3 | ⟨q, h3, h4, h5⟩)
      · exact .inl h3
      · refine .inr ⟨q, ?_, h4, h5⟩
        rcases Nat.lt_or_ge q k with h6 | h6
        · exact h6
        · have : q = k := by omega
          subst this
          rw [h2] at h5
          exact absurd ⟨by omega, by omega⟩ h
theorem oD_end {e : List LEv} {fo : List Int} {i k : Nat} (hk : fo.length = i + 1 + k) (a b : Nat) : oD e fo i k a b = oC e fo (i + 1) a b := by
  rw [Bool.eq_iff_iff]
  simp only [oD, oC, Bool.or_eq_true, List.any_eq_true, List.mem_range, Bool.and_eq_true, decide_eq_true_eq]
  constructor
  · rintro ((h | ⟨p, h1, h2⟩) | ⟨q, h1, h2⟩)
    · exact .inl h
    · exact .inr ⟨p, by omega, h2⟩
    · exact .inr ⟨i, by omega, i + 1 + q, by omega, by omega, h2⟩
  · rintro (h | ⟨p, h1, q, h2, h3, h4⟩)
    · exact .inl (.inl h)
    · rcases Nat.lt_or_ge p i with h5 | h5
      · exact .inl (.inr ⟨p, h5, q, h2, h3, h4⟩)
      · have : p = i := by omega
        subst this
        exact .inr ⟨q - (p + 1), by omega, by rw [show p + 1 + (q - (p + 1)) = q from by omega]; exact h4⟩
theorem oC_end {e : List LEv} {fo : List Int} {i : Nat} (hk : i = fo.length) (a b : Nat) : oC e fo i a b = ordF e fo a b := by
  subst hk
  rw [Bool.eq_iff_iff]
  simp only [oC, ordF, fo2, List.length_nil, List.range_zero, List.any_nil, Bool.or_false, Bool.or_eq_true, List.any_eq_true, List.mem_range, Bool.and_eq_true, decide_eq_true_eq]
  constructor
  · rintro (h | ⟨p, h1, q, h2, h3, h4, h5⟩)
    · exact .inl h
    · exact .inr ⟨q, h2, p, h3, h4, h5⟩
  · rintro (h | ⟨q, h1, p, h2, h3, h4⟩)
    · exact .inl h
    · exact .inr ⟨p, by omega, q, h1, h2, h3, h4⟩

theorem isList_false {l : List Int} {e : List LEv} {is : LOp → Bool} (h : ¬ ((l.Nodup ∧ ∀ n ∈ l, 0 ≤ n ∧ n < e.length ∧ is (ev e n).2.1 = true) ∧ ∀ n < e.length, is (ev e n).2.1 = true → (n : Int) ∈ l)) : false = isList l e is := by
  unfold isList
  cases h1 : decide (l.Nodup ∧ ∀ n ∈ l, 0 ≤ n ∧ n < e.length ∧ is (ev e n).2.1 = true)
  · rfl
  · cases h2 : decide (∀ n < e.length, is (ev e n).2.1 = true → (n : Int) ∈ l)
    · rfl
    · exact absurd ⟨of_decide_eq_true h1, of_decide_eq_true h2⟩ h
theorem isList_true {l : List Int} {e : List LEv} {is : LOp → Bool} (h1 : l.Nodup) (h2 : ∀ n ∈ l, 0 ≤ n ∧ n < e.length ∧ is (ev e n).2.1 = true) (h3 : ∀ n < e.length, is (ev e n).2.1 = true → (n : Int) ∈ l) : true = isList l e is := by
  unfold isList
  rw [decide_eq_true ⟨h1, h2⟩, decide_eq_true h3]; rfl
end Sp
namespace Go.User
open Go.Lf Go.Proofs

theorem ok50 : FOk Try.prog 50 S50 := by
  refine FOk.intro (okA fns_nil) (stpP_ok (okA fns_nil)) Try.call50 Try.func50 (by kernel_rfl) (by kernel_rfl) L50 (vc50.mpr ?_)
  simp only [z1, z2, z3, z4, z5, z6, z7, z8, z9, z10, z11, z12, z13, z14, z15, z16, z17, z18, z19, z20, z21, z22, z23, z24, z25, z26, z27, z28, z29, z30, z31, z32, z33, z34, z35, z36, z37, z38, dFact]
  intro x hp hx
  have h6 : ∀ {n : Nat}, (n : Int) < (x.1.1.length : Int) → inN (n : Int) 6 := fun h => ⟨by omega, by have := hp.1; omega⟩
  refine ⟨⟨0, Nat.zero_le _, rfl, ?_⟩, ?_⟩
  · rw [Sp.mat_const]; exact Sp.mat_ext fun a b _ _ => Sp.oA_zero _ _ _
  intro i hi _
  refine ⟨fun hlt => ⟨inK_succ hlt hx.1.1, ⟨i + 1, ⟨by omega, by omega⟩, rfl, Sp.mat_ext fun a b _ _ => Sp.oAB _ _ _ _⟩, ?_⟩, fun hge => ⟨⟨0, Nat.zero_le _, rfl, Sp.mat_ext fun a b _ _ => Sp.oA_end (by omega) _ _⟩, ?_⟩⟩
  · intro k hk _
    refine ⟨fun hlt2 => ⟨⟨inN_of hlt, inN_of hlt2, h6 hlt, h6 hlt2⟩, inK_succ hlt2 hx.1.1, k + 1, ⟨by omega, by omega⟩, by omega, rfl, ?_⟩, fun hge2 => ⟨inK_succ hlt hx.1.1, i + 1, by omega, by omega, rfl, Sp.mat_ext fun a b _ _ => Sp.oB_end (by omega) _ _⟩⟩
    rw [Sp.mat_set (by have := (h6 hlt).2; omega) (by have := (h6 hlt2).2; omega)]
    exact Sp.mat_ext fun a b _ _ => Sp.oB_step hk.1 (by omega) a b
  · intro j hj _
    refine ⟨fun hlt => ?_, fun hge => ?_⟩
    · have hjl : j < x.1.2.2.2.1.length := by omega
      have hw : win ((j : Int) + 1) (x.1.2.2.2.1.length : Int) x.1.2.2.2.1 = x.1.2.2.2.1.drop (j + 1) := by
        unfold win
        rw [List.take_of_length_le (by omega)]
        congr 1
      rw [hw]
      have hlen : (x.1.2.2.2.1.drop (j + 1)).length = x.1.2.2.2.1.length - (j + 1) := List.length_drop
      refine ⟨inN_of hlt, ⟨inK_succ hlt hx.2.2.2.1, by omega, by omega, by omega⟩, ⟨0, by omega, rfl, Sp.mat_ext fun a b _ _ => Sp.oCD _ _ _ _ _⟩, ?_⟩
      intro k hk _
      refine ⟨fun hlt2 => ?_, fun hge2 => ⟨inK_succ hlt hx.2.2.2.1, j + 1, by omega, by omega, rfl, Sp.mat_ext fun a b _ _ => Sp.oD_end (by omega) _ _⟩⟩
      have hjk : j + 1 + k < x.1.2.2.2.1.length := by omega
      have e1 : (x.1.2.2.2.1.drop (j + 1)).getD k 0 = x.1.2.2.2.1.getD (j + 1 + k) 0 := by
        rw [Sp.getD_lt (by omega), Sp.getD_lt hjk, List.getElem_drop]
      rw [e1]
      have n1 : inN (x.1.2.2.2.1.getD j 0) 6 := by rw [Sp.getD_lt hjl]; exact hp.2 _ (List.getElem_mem hjl)
      have n2 : inN (x.1.2.2.2.1.getD (j + 1 + k) 0) 6 := by rw [Sp.getD_lt hjk]; exact hp.2 _ (List.getElem_mem hjk)
      refine ⟨inN_of hlt2, ⟨n1, n2⟩, inK_succ hlt2 (by omega), k + 1, by omega, by omega, rfl, ?_⟩
      rw [Sp.mat_set (by have := n1.2; omega) (by have := n2.2; omega)]
      exact Sp.mat_ext fun a b _ _ => Sp.oD_step _ _ (by have := n1.1; omega) (by have := n2.1; omega) a b
    · exact Sp.mat_ext fun a b _ _ => Sp.oC_end (by omega) a b

theorem ok45 : FOk Try.prog 45 S45 := by
  refine FOk.intro (okA fns_nil) (stpP_ok (okA fns_nil)) Try.call45 Try.func45 (by kernel_rfl) (by kernel_rfl) L45 (vc45.mpr ?_)
  simp only [z1, z2, z3, z4, z5, z6, z7, z8, z9, z10, z11, z12, z13, z14, z15, z16, z17, z18, z19, z20, z21, z22, z23, z24, z25, z26, z27, z28, z29, z30, z31, z32, z33, z34, z35, z36, z37, z38, dFact]
  intro x hp hx
  refine ⟨⟨by show (0 : Int) ≤ _; omega, by omega, by rw [maxNew_eq]; have := hp.1; omega⟩, ⟨(0, List.replicate x.2.1.length false), ⟨Nat.zero_le _, by simp, by simp, by simp, ?_⟩, rfl, rfl⟩, ?_⟩
  · intro n hn
    show (List.replicate x.2.1.length false).getD n false = true ↔ (n : Int) ∈ List.take 0 x.1
    rw [Sp.getD_lt (by simp; exact hn)]; simp
  intro i hi _
  obtain ⟨h1, h2, h3, h4, h5⟩ := hi
  refine ⟨fun hlt => ?_, fun hge => ?_⟩
  · have hil : i.1 < x.1.length := by omega
    have htk : List.take (i.1 + 1) x.1 = List.take i.1 x.1 ++ [x.1.getD i.1 0] := by rw [List.take_succ_eq_append_getElem hil, Sp.getD_lt hil]
    have hmem : x.1.getD i.1 0 ∈ x.1 := by rw [Sp.getD_lt hil]; exact List.getElem_mem hil
    have hev : ∀ (n : Int), x.2.1.getD n.toNat (0, (0, 0, 0, ()), 0, ()) = Sp.ev x.2.1 n := fun n => rfl
    have hnd : x.1.Nodup → x.1.getD i.1 0 ∉ List.take i.1 x.1 := by
      intro hn hm
      rw [Sp.getD_lt hil] at hm
      obtain ⟨j, hj, he⟩ := List.mem_take_iff_getElem.1 hm
      exact (List.pairwise_iff_getElem.1 hn) j i.1 (by omega) hil (by omega) he
    generalize hv : x.1.getD i.1 0 = v at *
    simp only [hev]
    have hin : ∀ {b : Bool}, (!(decide (v < 0) || decide ((x.2.1.length : Int) ≤ v) || b)) = true → inN v x.2.1.length := by
      intro b h
      simp only [Bool.not_eq_true', Bool.or_eq_false_iff, decide_eq_false_iff_not] at h
      exact ⟨by omega, by omega⟩
    refine ⟨inN_of hlt, ⟨fun h => ?_, fun h => ?_, fun h => hp.2 _⟩, fun h => ?_, fun h => ?_⟩
    · rw [h2]
      exact ⟨h.1, h.2⟩
    · exact ⟨h.1.1, h.1.2⟩
    · refine Sp.isList_false ?_
      rintro ⟨⟨g1, g2⟩, g3⟩
      obtain ⟨k1, k2, k3⟩ := g2 v hmem
      simp only [Bool.or_eq_true, decide_eq_true_eq, Bool.not_eq_true'] at h
      rcases h with ((h | h) | h) | h
      · omega
      · omega
      · have := (h5 v.toNat (by omega)).1 h
        rw [show ((v.toNat : Nat) : Int) = v from by omega] at this
        exact hnd g1 this
      · rw [k3] at h; cases h
    · obtain ⟨⟨⟨g1, g2⟩, g3⟩, g4⟩ := h
      have hvin : inN v x.2.1.length := ⟨by omega, by omega⟩
      have hnv : v ∉ List.take i.1 x.1 := by
        intro hm
        have := (h5 v.toNat (by omega)).2 (by rw [show ((v.toNat : Nat) : Int) = v from by omega]; exact hm)
        rw [g3] at this; cases this
      refine ⟨by rw [h2]; exact hvin, inK_succ hlt hx.1.1, (i.1 + 1, i.2.set v.toNat true), ⟨by show i.1 + 1 ≤ _; omega, by show (i.2.set _ _).length = _; simp [h2], ?_, ?_, ?_⟩, by show _ - (i.1 + 1) < _; omega, rfl, rfl⟩
      · show (List.take (i.1 + 1) x.1).Nodup
        rw [htk, List.nodup_append]
        refine ⟨h3, by simp, ?_⟩
        intro a ha b hb
        simp only [List.mem_singleton] at hb
        subst hb
        rintro rfl; exact hnv ha
      · intro n hn
        have hn : n ∈ List.take (i.1 + 1) x.1 := hn
        rw [htk] at hn
        rcases List.mem_append.1 hn with hn | hn
        · exact h4 n hn
        · simp only [List.mem_singleton] at hn
          subst hn
          exact ⟨by omega, by omega, g4⟩
      · intro n hn
        show (i.2.set v.toNat true).getD n false = true ↔ (n : Int) ∈ List.take (i.1 + 1) x.1
        rw [htk, List.mem_append, ← h5 n hn, Sp.getD_lt (by simp; omega), Sp.getD_lt (by omega), List.getElem_set]
        simp only [List.mem_singleton]
        by_cases hc : v.toNat = n
        · rw [if_pos hc]
          constructor
          · intro _; right; omega
          · intro _; rfl
        · rw [if_neg hc]
          constructor
          · exact .inl
          · rintro (h | h)
            · exact h
            · omega
  · have htk := Sp.take_all h1 hge
    rw [htk] at h3 h4 h5
    refine ⟨⟨0, ⟨Nat.zero_le _, fun n h => by omega⟩, rfl⟩, ?_⟩
    intro k hk _
    refine ⟨fun hlt => ⟨⟨inN_of hlt, hp.2 _, fun _ => by rw [h2]; exact inN_of hlt⟩, fun h => ?_, fun h => ⟨inK_succ hlt hx.2.1, k + 1, ⟨by omega, ?_⟩, by omega, rfl⟩⟩, fun hge => ?_⟩
    · refine Sp.isList_false ?_
      rintro ⟨_, g3⟩
      have := (h5 k (by omega)).2 (g3 k (by omega) h.1)
      rw [h.2] at this; cases this
    · intro n hn hf
      rcases Nat.lt_or_ge n k with hc | hc
      · exact hk.2 n hc hf
      · have : n = k := by omega
        subst this
        refine (h5 n (by omega)).1 ?_
        have hf' : x.2.2.1.fn ((x.2.1.getD n (0, (0, 0, 0, ()), 0, ())).2.1, ()) = true := hf
        rw [hf'] at h
        simpa using h
    · exact Sp.isList_true h3 h4 (fun n hn hf => hk.2 n (by omega) hf)
end Go.User
