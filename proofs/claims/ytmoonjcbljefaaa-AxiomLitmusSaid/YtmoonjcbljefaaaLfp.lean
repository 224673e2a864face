/- What is allowed of message passing and store buffering, whatever is written. The law of message passing and store buffering always answers true. The law of litmus tests, lifted: what comes in, what goes out. -/
import Derived.Test.YtmoonjcbljefaaaLfo
import Derived.Test.YtmoonjcbljefaaaRows
import Derived.ProofKit
import Derived.SizedLaws
set_option linter.unusedVariables false
set_option linter.unusedSimpArgs false
set_option maxRecDepth 100000
namespace Sp
theorem allowed_no1 {t : Lit} {g : Gr} (h : round (flow g) = true) : allowed t g = false := (allowed_false fun _ h1 => by rw [h] at h1; cases h1).symm
theorem allowed_no2 {t : Lit} {g : Gr} (h : decide (∀ a < g.1.length, okEv g a) = false) : allowed t g = false := (allowed_false fun _ _ => of_decide_eq_false h).symm
theorem allowed_yes {t : Lit} {g : Gr} (h1 : RightP t g) (h2 : round (flow g) = false) (h3 : decide (∀ a < g.1.length, okEv g a) = true) : allowed t g = true := by
  unfold allowed; rw [(right_iff t g).2 h1, h2, h3]; rfl
theorem all4 {p : Nat → Prop} (h0 : p 0) (h1 : p 1) (h2 : p 2) (h3 : p 3) : ∀ n < 4, p n := by
  intro n hn
  match n, hn with
  | 0, _ => exact h0
  | 1, _ => exact h1
  | 2, _ => exact h2
  | 3, _ => exact h3
theorem all6 {p : Nat → Prop} (h0 : p 0) (h1 : p 1) (h2 : p 2) (h3 : p 3) (h4 : p 4) (h5 : p 5) : ∀ n < 6, p n := by
  intro n hn
  match n, hn with
  | 0, _ => exact h0
  | 1, _ => exact h1
  | 2, _ => exact h2
  | 3, _ => exact h3
  | 4, _ => exact h4
  | 5, _ => exact h5
/-- What is left of a right graph's sources, decided. -/
def srcB (e : List LEv) (g : Gr) (n : Nat) : Bool :=
  decide ((ev g.1 n).1 = (ev e n).1) && decide (-1 ≤ g.2.1.getD n 0) && decide (g.2.1.getD n 0 < (e.length : Int)) &&
  (decide (g.2.1.getD n 0 < 0) || (reads (ev e n).2.1 && writes (ev e (g.2.1.getD n 0)).2.1 && decide ((ev e (g.2.1.getD n 0)).2.1.2.1 = (ev e n).2.1.2.1)))
theorem src_of {e : List LEv} {g : Gr} {n : Nat} (h : srcB e g n = true) (ho : (ev g.1 n).2.1 = (ev e n).2.1) : src e g n := by
  unfold srcB at h
  simp only [Bool.and_eq_true, Bool.or_eq_true, decide_eq_true_eq] at h
  obtain ⟨⟨⟨h1, h2⟩, h3⟩, h4⟩ := h
  refine ⟨h1, ho, h2, h3, fun h0 => ?_⟩
  rcases h4 with h4 | ⟨⟨h4, h5⟩, h6⟩
  · omega
  · exact ⟨h4, h5, h6⟩
theorem rp {t : Lit} {g : Gr} {N : Nat} (hv : valid t = true) (h0 : (evs 0 t.1).length = N) (h1 : g.1.length = N) (h2 : g.2.1.length = N) (h3 : g.2.2.1.length = 3)
    (hs : ∀ n < N, srcB (evs 0 t.1) g n = true) (ho : ∀ n < N, (ev g.1 n).2.1 = (ev (evs 0 t.1) n).2.1) (hg : ∀ n < N, (ev g.1 n).2.2.1 = if reads (ev g.1 n).2.1 = true then value g.1 (g.2.1.getD n 0) else 0)
    (hm : ((List.range 3).all fun p => isList (g.2.2.1.getD p []) (evs 0 t.1) (fun o => writes o && decide (o.2.1 = (p : Int)))) = true)
    (hf : isList g.2.2.2.1 (evs 0 t.1) (fun o => decide (o.1 = 4)) = true) : RightP t g := by
  refine ⟨hv, by omega, by omega, h3, fun n hn => src_of (hs n (by omega)) (ho n (by omega)), fun n hn => hg n (by omega), fun p hp => ?_, hf⟩
  rw [List.all_eq_true] at hm
  exact hm p (List.mem_range.2 hp)
theorem us_s {x v : Int} (hx : 0 ≤ x ∧ x < 3) (hv : 1 ≤ v ∧ v ≤ 100) : usual (2, x, v, ()) = true := by
  unfold usual
  simp only
  rw [if_neg (by decide), if_neg (by decide), if_pos (.inl trivial)]
  simp only [Bool.and_eq_true, decide_eq_true_eq]
  omega
end Sp
namespace Go.User
open Go.Lf Go.Proofs
theorem v_loose0 (a b : Int) (ha : 1 ≤ a ∧ a ≤ 100) (hb : 1 ≤ b ∧ b ≤ 100) : Sp.valid (Sp.looseP a b 0 2, ()) = true := by
  show (true && true && true && true && (Sp.usual (2, 0, a, ()) && (Sp.usual (2, 2, b, ()) && true))) = true
  rw [Sp.us_s (by omega) ha, Sp.us_s (by omega) hb]; rfl
theorem v_tight0 (a b : Int) (ha : 1 ≤ a ∧ a ≤ 100) (hb : 1 ≤ b ∧ b ≤ 100) : Sp.valid (Sp.tightP a b 0 2, ()) = true := by
  show (true && true && true && true && (Sp.usual (2, 0, a, ()) && (true && (Sp.usual (2, 2, b, ()) && true)))) = true
  rw [Sp.us_s (by omega) ha, Sp.us_s (by omega) hb]; rfl
theorem v_ring0 (a b : Int) (ha : 1 ≤ a ∧ a ≤ 100) (hb : 1 ≤ b ∧ b ≤ 100) : Sp.valid (Sp.ringP a b 0 2, ()) = true := by
  show (true && true && true && true && (Sp.usual (2, 0, a, ()) && (true && (true && (Sp.usual (2, 2, b, ()) && true))))) = true
  rw [Sp.us_s (by omega) ha, Sp.us_s (by omega) hb]; rfl
theorem y_flag0 (a b : Int) (ha : 1 ≤ a ∧ a ≤ 100) (hb : 1 ≤ b ∧ b ≤ 100) : Sp.allowed (Sp.looseP a b 0 2, ()) (Sp.gr (Sp.looseP a b 0 2, ()) [-1, -1, 1, -1] []) = true :=
  Sp.allowed_yes (Sp.rp (N := 4) (v_loose0 a b ha hb) (by kernel_rfl) (by kernel_rfl) (by kernel_rfl) (by kernel_rfl) (Sp.all4 (by kernel_rfl) (by kernel_rfl) (by kernel_rfl) (by kernel_rfl)) (Sp.all4 (by kernel_rfl) (by kernel_rfl) (by kernel_rfl) (by kernel_rfl))
    (Sp.all4 (by kernel_rfl) (by kernel_rfl) (by kernel_rfl) (by kernel_rfl)) (by kernel_rfl) (by kernel_rfl)) (by kernel_rfl) (by kernel_rfl)
theorem y_both0 (a b : Int) (ha : 1 ≤ a ∧ a ≤ 100) (hb : 1 ≤ b ∧ b ≤ 100) : Sp.allowed (Sp.looseP a b 0 2, ()) (Sp.gr (Sp.looseP a b 0 2, ()) [-1, -1, 1, 0] []) = true :=
  Sp.allowed_yes (Sp.rp (N := 4) (v_loose0 a b ha hb) (by kernel_rfl) (by kernel_rfl) (by kernel_rfl) (by kernel_rfl) (Sp.all4 (by kernel_rfl) (by kernel_rfl) (by kernel_rfl) (by kernel_rfl)) (Sp.all4 (by kernel_rfl) (by kernel_rfl) (by kernel_rfl) (by kernel_rfl))
    (Sp.all4 (by kernel_rfl) (by kernel_rfl) (by kernel_rfl) (by kernel_rfl)) (by kernel_rfl) (by kernel_rfl)) (by kernel_rfl) (by kernel_rfl)
theorem y_fresh0 (a b : Int) (ha : 1 ≤ a ∧ a ≤ 100) (hb : 1 ≤ b ∧ b ≤ 100) : Sp.allowed (Sp.tightP a b 0 2, ()) (Sp.gr (Sp.tightP a b 0 2, ()) [-1, -1, -1, 2, -1, 0] [1, 4]) = true :=
  Sp.allowed_yes (Sp.rp (N := 6) (v_tight0 a b ha hb) (by kernel_rfl) (by kernel_rfl) (by kernel_rfl) (by kernel_rfl) (Sp.all6 (by kernel_rfl) (by kernel_rfl) (by kernel_rfl) (by kernel_rfl) (by kernel_rfl) (by kernel_rfl)) (Sp.all6 (by kernel_rfl) (by kernel_rfl) (by kernel_rfl) (by kernel_rfl) (by kernel_rfl) (by kernel_rfl))
    (Sp.all6 (by kernel_rfl) (by kernel_rfl) (by kernel_rfl) (by kernel_rfl) (by kernel_rfl) (by kernel_rfl)) (by kernel_rfl) (by kernel_rfl)) (by kernel_rfl) (by kernel_rfl)
theorem y_one410 (a b : Int) (ha : 1 ≤ a ∧ a ≤ 100) (hb : 1 ≤ b ∧ b ≤ 100) : Sp.allowed (Sp.ringP a b 0 2, ()) (Sp.gr (Sp.ringP a b 0 2, ()) [-1, -1, 3, -1, -1, -1] [4, 1]) = true :=
  Sp.allowed_yes (Sp.rp (N := 6) (v_ring0 a b ha hb) (by kernel_rfl) (by kernel_rfl) (by kernel_rfl) (by kernel_rfl) (Sp.all6 (by kernel_rfl) (by kernel_rfl) (by kernel_rfl) (by kernel_rfl) (by kernel_rfl) (by kernel_rfl)) (Sp.all6 (by kernel_rfl) (by kernel_rfl) (by kernel_rfl) (by kernel_rfl) (by kernel_rfl) (by kernel_rfl))
    (Sp.all6 (by kernel_rfl) (by kernel_rfl) (by kernel_rfl) (by kernel_rfl) (by kernel_rfl) (by kernel_rfl)) (by kernel_rfl) (by kernel_rfl)) (by kernel_rfl) (by kernel_rfl)
theorem n_stale140 (a b : Int) : Sp.allowed (Sp.tightP a b 0 2, ()) (Sp.gr (Sp.tightP a b 0 2, ()) [-1, -1, -1, 2, -1, -1] [1, 4]) = false := by
  exact Sp.allowed_no2 (by kernel_rfl)
theorem n_stale410 (a b : Int) : Sp.allowed (Sp.tightP a b 0 2, ()) (Sp.gr (Sp.tightP a b 0 2, ()) [-1, -1, -1, 2, -1, -1] [4, 1]) = false := by
  exact Sp.allowed_no1 (by kernel_rfl)
theorem n_zero140 (a b : Int) : Sp.allowed (Sp.ringP a b 0 2, ()) (Sp.gr (Sp.ringP a b 0 2, ()) [-1, -1, -1, -1, -1, -1] [1, 4]) = false := by
  exact Sp.allowed_no2 (by kernel_rfl)
theorem n_zero410 (a b : Int) : Sp.allowed (Sp.ringP a b 0 2, ()) (Sp.gr (Sp.ringP a b 0 2, ()) [-1, -1, -1, -1, -1, -1] [4, 1]) = false := by
  exact Sp.allowed_no2 (by kernel_rfl)
theorem n_one140 (a b : Int) : Sp.allowed (Sp.ringP a b 0 2, ()) (Sp.gr (Sp.ringP a b 0 2, ()) [-1, -1, 3, -1, -1, -1] [1, 4]) = false := by
  exact Sp.allowed_no2 (by kernel_rfl)
theorem v_loose2 (a b : Int) (ha : 1 ≤ a ∧ a ≤ 100) (hb : 1 ≤ b ∧ b ≤ 100) : Sp.valid (Sp.looseP a b 2 0, ()) = true := by
  show (true && true && true && true && (Sp.usual (2, 2, a, ()) && (Sp.usual (2, 0, b, ()) && true))) = true
  rw [Sp.us_s (by omega) ha, Sp.us_s (by omega) hb]; rfl
theorem v_tight2 (a b : Int) (ha : 1 ≤ a ∧ a ≤ 100) (hb : 1 ≤ b ∧ b ≤ 100) : Sp.valid (Sp.tightP a b 2 0, ()) = true := by
  show (true && true && true && true && (Sp.usual (2, 2, a, ()) && (true && (Sp.usual (2, 0, b, ()) && true)))) = true
  rw [Sp.us_s (by omega) ha, Sp.us_s (by omega) hb]; rfl
theorem v_ring2 (a b : Int) (ha : 1 ≤ a ∧ a ≤ 100) (hb : 1 ≤ b ∧ b ≤ 100) : Sp.valid (Sp.ringP a b 2 0, ()) = true := by
  show (true && true && true && true && (Sp.usual (2, 2, a, ()) && (true && (true && (Sp.usual (2, 0, b, ()) && true))))) = true
  rw [Sp.us_s (by omega) ha, Sp.us_s (by omega) hb]; rfl
theorem y_flag2 (a b : Int) (ha : 1 ≤ a ∧ a ≤ 100) (hb : 1 ≤ b ∧ b ≤ 100) : Sp.allowed (Sp.looseP a b 2 0, ()) (Sp.gr (Sp.looseP a b 2 0, ()) [-1, -1, 1, -1] []) = true :=
  Sp.allowed_yes (Sp.rp (N := 4) (v_loose2 a b ha hb) (by kernel_rfl) (by kernel_rfl) (by kernel_rfl) (by kernel_rfl) (Sp.all4 (by kernel_rfl) (by kernel_rfl) (by kernel_rfl) (by kernel_rfl)) (Sp.all4 (by kernel_rfl) (by kernel_rfl) (by kernel_rfl) (by kernel_rfl))
    (Sp.all4 (by kernel_rfl) (by kernel_rfl) (by kernel_rfl) (by kernel_rfl)) (by kernel_rfl) (by kernel_rfl)) (by kernel_rfl) (by kernel_rfl)
theorem y_both2 (a b : Int) (ha : 1 ≤ a ∧ a ≤ 100) (hb : 1 ≤ b ∧ b ≤ 100) : Sp.allowed (Sp.looseP a b 2 0, ()) (Sp.gr (Sp.looseP a b 2 0, ()) [-1, -1, 1, 0] []) = true :=
  Sp.allowed_yes (Sp.rp (N := 4) (v_loose2 a b ha hb) (by kernel_rfl) (by kernel_rfl) (by kernel_rfl) (by kernel_rfl) (Sp.all4 (by kernel_rfl) (by kernel_rfl) (by kernel_rfl) (by kernel_rfl)) (Sp.all4 (by kernel_rfl) (by kernel_rfl) (by kernel_rfl) (by kernel_rfl))
    (Sp.all4 (by kernel_rfl) (by kernel_rfl) (by kernel_rfl) (by kernel_rfl)) (by kernel_rfl) (by kernel_rfl)) (by kernel_rfl) (by kernel_rfl)
theorem y_fresh2 (a b : Int) (ha : 1 ≤ a ∧ a ≤ 100) (hb : 1 ≤ b ∧ b ≤ 100) : Sp.allowed (Sp.tightP a b 2 0, ()) (Sp.gr (Sp.tightP a b 2 0, ()) [-1, -1, -1, 2, -1, 0] [1, 4]) = true :=
  Sp.allowed_yes (Sp.rp (N := 6) (v_tight2 a b ha hb) (by kernel_rfl) (by kernel_rfl) (by kernel_rfl) (by kernel_rfl) (Sp.all6 (by kernel_rfl) (by kernel_rfl) (by kernel_rfl) (by kernel_rfl) (by kernel_rfl) (by kernel_rfl)) (Sp.all6 (by kernel_rfl) (by kernel_rfl) (by kernel_rfl) (by kernel_rfl) (by kernel_rfl) (by kernel_rfl))
    (Sp.all6 (by kernel_rfl) (by kernel_rfl) (by kernel_rfl) (by kernel_rfl) (by kernel_rfl) (by kernel_rfl)) (by kernel_rfl) (by kernel_rfl)) (by kernel_rfl) (by kernel_rfl)
theorem y_one412 (a b : Int) (ha : 1 ≤ a ∧ a ≤ 100) (hb : 1 ≤ b ∧ b ≤ 100) : Sp.allowed (Sp.ringP a b 2 0, ()) (Sp.gr (Sp.ringP a b 2 0, ()) [-1, -1, 3, -1, -1, -1] [4, 1]) = true :=
  Sp.allowed_yes (Sp.rp (N := 6) (v_ring2 a b ha hb) (by kernel_rfl) (by kernel_rfl) (by kernel_rfl) (by kernel_rfl) (Sp.all6 (by kernel_rfl) (by kernel_rfl) (by kernel_rfl) (by kernel_rfl) (by kernel_rfl) (by kernel_rfl)) (Sp.all6 (by kernel_rfl) (by kernel_rfl) (by kernel_rfl) (by kernel_rfl) (by kernel_rfl) (by kernel_rfl))
    (Sp.all6 (by kernel_rfl) (by kernel_rfl) (by kernel_rfl) (by kernel_rfl) (by kernel_rfl) (by kernel_rfl)) (by kernel_rfl) (by kernel_rfl)) (by kernel_rfl) (by kernel_rfl)
theorem n_stale142 (a b : Int) : Sp.allowed (Sp.tightP a b 2 0, ()) (Sp.gr (Sp.tightP a b 2 0, ()) [-1, -1, -1, 2, -1, -1] [1, 4]) = false := by
  exact Sp.allowed_no2 (by kernel_rfl)
theorem n_stale412 (a b : Int) : Sp.allowed (Sp.tightP a b 2 0, ()) (Sp.gr (Sp.tightP a b 2 0, ()) [-1, -1, -1, 2, -1, -1] [4, 1]) = false := by
  exact Sp.allowed_no1 (by kernel_rfl)
theorem n_zero142 (a b : Int) : Sp.allowed (Sp.ringP a b 2 0, ()) (Sp.gr (Sp.ringP a b 2 0, ()) [-1, -1, -1, -1, -1, -1] [1, 4]) = false := by
  exact Sp.allowed_no2 (by kernel_rfl)
theorem n_zero412 (a b : Int) : Sp.allowed (Sp.ringP a b 2 0, ()) (Sp.gr (Sp.ringP a b 2 0, ()) [-1, -1, -1, -1, -1, -1] [4, 1]) = false := by
  exact Sp.allowed_no2 (by kernel_rfl)
theorem n_one142 (a b : Int) : Sp.allowed (Sp.ringP a b 2 0, ()) (Sp.gr (Sp.ringP a b 2 0, ()) [-1, -1, 3, -1, -1, -1] [1, 4]) = false := by
  exact Sp.allowed_no2 (by kernel_rfl)
end Go.User
set_option maxRecDepth 100000
namespace Go.User
open Go.Lf Go.Proofs
theorem lt_all {l : List Int} {n : Nat} (h : (l.all fun v => decide (v < (n : Int))) = true) : ∀ v, v ∈ l → v < (n : Int) := by
  intro v hv
  rw [List.all_eq_true] at h
  exact of_decide_eq_true (h v hv)
theorem in_all {e : List Sp.LEv} (h : (e.all fun x => decide (0 ≤ x.2.1.2.1) && decide (x.2.1.2.1 < 3)) = true) : ∀ x, x ∈ e → inN x.2.1.2.1 3 := by
  intro x hx
  rw [List.all_eq_true] at h
  have := h x hx
  simp only [Bool.and_eq_true, decide_eq_true_eq] at this
  exact this
theorem ok9 : FOk Try.prog 9 S9 := by
  have hC : CtxOK Try.prog C9 := ctx_ok rfl rfl (fns_cons ok10 (fns_cons ok27 (fns_cons ok28 (fns_cons ok29 (fns_cons ok30 (fns_cons ok18 fns_nil)))))) ptrs_nil
  refine FOk.intro hC (stpP_ok hC) Try.call9 Try.func9 (by kernel_rfl) (by kernel_rfl) L9 (vc9 ?_)
  intro x hx
  have ha : 1 ≤ 1 + x.1 % 100 ∧ 1 + x.1 % 100 ≤ 100 := by omega
  have hb : 1 ≤ 1 + x.2.1 % 100 ∧ 1 + x.2.1 % 100 ≤ 100 := by omega
  refine ⟨⟨by decide, inK_of (by omega) (by omega)⟩, ⟨by decide, inK_of (by omega) (by omega)⟩, ?_⟩
  clear hx
  generalize 1 + x.1 % 100 = a at *
  generalize 1 + x.2.1 % 100 = b at *
  have e1 : ∀ X Y, (Sp.evs 0 (Sp.looseP a b X Y)).length = 4 := fun _ _ => rfl
  have e2 : ∀ X Y, (Sp.evs 0 (Sp.tightP a b X Y)).length = 6 := fun _ _ => rfl
  have e3 : ∀ X Y, (Sp.evs 0 (Sp.ringP a b X Y)).length = 6 := fun _ _ => rfl
  refine ⟨fun _ => ?_, fun _ => ?_⟩
  · have h1 : ∀ x, x ∈ Sp.evs 0 (Sp.looseP a b 2 0) → inN x.2.1.2.1 3 := in_all rfl
    have h2 : ∀ x, x ∈ Sp.evs 0 (Sp.tightP a b 2 0) → inN x.2.1.2.1 3 := in_all rfl
    have h3 : ∀ x, x ∈ Sp.evs 0 (Sp.ringP a b 2 0) → inN x.2.1.2.1 3 := in_all rfl
    simp only [y_flag2 a b ha hb, y_both2 a b ha hb, y_fresh2 a b ha hb, y_one412 a b ha hb, n_stale142 a b, n_stale412 a b, n_zero142 a b, n_zero412 a b, n_one142 a b, e1, e2, e3, eq_self, true_implies, and_self, true_and, and_true,
      Bool.not_true, Bool.not_false, Bool.or_false, Bool.false_or, Bool.or_true, Bool.true_or, Bool.and_true, Bool.true_and, Bool.false_eq_true, Bool.true_eq_false, false_implies, implies_true, bne_self_eq_false, reduceCtorEq]
    repeat' (first | exact True.intro | apply And.intro | exact h1 | exact h2 | exact h3 | exact Nat.le_of_ble_eq_true rfl | exact lt_all rfl | rfl)
  · have h1 : ∀ x, x ∈ Sp.evs 0 (Sp.looseP a b 0 2) → inN x.2.1.2.1 3 := in_all rfl
    have h2 : ∀ x, x ∈ Sp.evs 0 (Sp.tightP a b 0 2) → inN x.2.1.2.1 3 := in_all rfl
    have h3 : ∀ x, x ∈ Sp.evs 0 (Sp.ringP a b 0 2) → inN x.2.1.2.1 3 := in_all rfl
    simp only [y_flag0 a b ha hb, y_both0 a b ha hb, y_fresh0 a b ha hb, y_one410 a b ha hb, n_stale140 a b, n_stale410 a b, n_zero140 a b, n_zero410 a b, n_one140 a b, e1, e2, e3, eq_self, true_implies, and_self, true_and, and_true,
      Bool.not_true, Bool.not_false, Bool.or_false, Bool.false_or, Bool.or_true, Bool.true_or, Bool.and_true, Bool.true_and, Bool.false_eq_true, Bool.true_eq_false, false_implies, implies_true, bne_self_eq_false, reduceCtorEq]
    repeat' (first | exact True.intro | apply And.intro | exact h1 | exact h2 | exact h3 | exact Nat.le_of_ble_eq_true rfl | exact lt_all rfl | rfl)
end Go.User
namespace Go.Proofs.Ytmoonjcbljefaaa
open Go.ChangeShapes Go.WideShapes Go.ChangeAt Go.RowKit Go.Proofs Go.Lf

theorem own_knob : ownKnob Try.prog.godebug = none := by kernel_rfl
theorem laid_out : laidOutB Try.prog = true := by kernel_rfl

theorem arg_int {P : Program} {W : World} {base : Nat} {t : TypeId} {k : IntKind} {v : Value} (ht : P.underlying t = some (.int k)) (h : Value.okWide P W .any base t v) (F : NSet) :
    ∃ n : Int, OwnV F W (.int k) .shr none' v n := by
  obtain ⟨n, rfl⟩ := okWide_int ht h
  simp only [Value.okWide, ht, Cell.okWide] at h
  simp [Cell.ok, ht] at h
  exact ⟨n, OwnV.mk_int _ _ _ _ h.1 h.2⟩
theorem arg_bool {P : Program} {W : World} {base : Nat} {t : TypeId} {v : Value} (ht : P.underlying t = some .bool) (h : Value.okWide P W .any base t v) (F : NSet) :
    ∃ b : Bool, OwnV F W .bool .shr none' v b := by
  obtain ⟨b, rfl⟩ := okWide_bool ht h
  exact ⟨b, OwnV.mk_bool _ _ _ _ b⟩

set_option maxRecDepth 100000 in
theorem litmus_lifted (hF : FOk Try.prog 9 Go.User.S9) (os : Os) (started : os.Started) (H : Type) (enc : TypeId × Value → H) :
    ReturnsInHanded {} Try.checked os 9 .any (Rows.axiomLitmusSpec.pre6 enc Try.prog Try.f9 Rows.axiomLitmusRow.domain false) (Rows.axiomLitmusSpec.post enc Try.prog Try.f9 false true false false) := by
  refine returnsInHanded_of_change_sized (C := Try.checked) own_knob started (by kernel_rfl) Try.func9
    (ChangeSpec.witness6 (enc := enc) (C := Try.checked) false ⟨#[], #[.int .u8 0, .int .u8 0, .bool false], []⟩ 8 (by kernel_rfl) (by kernel_rfl) (by kernel_rfl) (by kernel_rfl)) ?_
  intro W base args ds gs before hval0 hW _ _ _
  have hval : ∀ (j : Nat) t v, Try.f9.params[j]? = some t → args[j]? = some v → Value.okWide Try.prog W .any base t v := hval0
  have hW' := hW
  obtain ⟨p, q, hA0, hV, rfl, _, _⟩ := hW
  have hA : DataW.TrodAll enc Try.prog W 0 (fun _ => true) true Try.f9.params.toList args.toList ds p := hA0
  rw [Try.params9] at hA hval
  obtain ⟨v0, v1, v2, d0, d1, d2, p0, p1, p2, rfl, rfl, rfl, h0, h1, h2⟩ := trodAll_three hA
  obtain ⟨rfl, rfl⟩ := trodVars_none hV
  clear hA0 hval0
  simp only [List.append_nil, List.append_assoc] at hW'
  have hlt0 : ∀ x ∈ p0, x.block < W.heap.size := fun x hx => hW'.lt x (by simp [hx])
  have hlt1 : ∀ x ∈ p1, x.block < W.heap.size := fun x hx => hW'.lt x (by simp [hx])
  have hlt2 : ∀ x ∈ p2, x.block < W.heap.size := fun x hx => hW'.lt x (by simp [hx])
  obtain ⟨n, hn⟩ := arg_int Try.underlying5 (hval 0 5 v0 rfl rfl) (fun b => b < W.heap.size)
  obtain ⟨m, hm⟩ := arg_int Try.underlying5 (hval 1 5 v1 rfl rfl) (fun b => b < W.heap.size)
  obtain ⟨s, hs⟩ := arg_bool Try.underlying4 (hval 2 4 v2 rfl rfl) (fun b => b < W.heap.size)
  have hcall := hF.2 W (fun b => b < W.heap.size) [v0, v1, v2] (n, m, s, ()) (fun b h => h) ⟨v0, [v1, v2], rfl, hn, v1, [v2], rfl, hm, v2, [], rfl, hs, rfl⟩ trivial
  refine hcall.mono ?_
  rintro e W' ⟨v, F', S', rfl, hb, _, _, _, _, hv⟩
  have hv : OwnV F' W' .bool .shr S' v true := hv
  have := hv.bool_eq
  subst this
  have hargs0 := Below.trod laid_out (by kernel_rfl) (of_decide_eq_true (by kernel_rfl)) h0 hb hlt0
  have hargs1 := Below.trod laid_out (by kernel_rfl) (of_decide_eq_true (by kernel_rfl)) h1 hb hlt1
  have hargs2 := Below.trod laid_out (by kernel_rfl) (of_decide_eq_true (by kernel_rfl)) h2 hb hlt2
  refine ⟨_, rfl, _, _, _, [], p0 ++ (p1 ++ p2), [], hW', ?_, trodAll_mk3 hargs0 hargs1 hargs2, rfl, hb.frame _, fun h => by cases h⟩
  exact trodAll_mk1 (shut_bool Try.underlying4 true)

theorem axiomLitmus_holds : Rows.AxiomLitmusSaid :=
  OpenClaim.holds_of_wide 9 Try.f9 rfl rfl rfl rfl rfl rfl rfl ⟨rfl, rfl, rfl, rfl, rfl⟩ rfl rfl rfl rfl rfl (by kernel_rfl) Try.func9 (by kernel_rfl)
    (of_decide_eq_true (by kernel_rfl)) (by unfold Func.isWrapper; first | (rw [if_pos (by decide +kernel)]; kernel_rfl) | (rw [if_neg (by decide +kernel)]; exact ⟨rfl, rfl⟩))
    (fun os started H enc _ => litmus_lifted Go.User.ok9 os started H enc)
end Go.Proofs.Ytmoonjcbljefaaa
