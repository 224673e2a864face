/- Plain facts: closing a relation gives its transitive closure; what it means that a graph is allowed; graphs with other numbers. Plain facts: the reference's ways of asking whether lists are right, and its closure. Plain facts: what the reference asks is what the axioms ask. Written by gen.py: what is left to show of each function. Tests out of bytes, and the law of coherence: the functions compute what they should. The reference of the axioms: the functions compute what they should. The reference of the axioms: whether two events are coherent, the closure, whether a graph is right, and allowed. Whether a graph is allowed, by the reference: the function computes what it should. Plain facts: the shape of a graph of bytes; a graph whose cores were exchanged. -/
import Derived.Test.YtmoonjcbljefaaaLfj
set_option linter.unusedVariables false
set_option linter.unusedSimpArgs false
namespace Sp
open Relation
theorem get2_len {r : Rel} {a b : Nat} (h : get2 r a b = true) : True := trivial
/-- Paths whose inner points are below n. -/
def W (R : Nat → Nat → Prop) : Nat → Nat → Nat → Prop
  | 0, a, b => R a b
  | n + 1, a, b => W R n a b ∨ (W R n a n ∧ W R n n b)
theorem W_trans {R : Nat → Nat → Prop} : ∀ n a b c, b < n → W R n a b → W R n b c → W R n a c
  | 0, a, b, c, h, _, _ => by omega
  | n + 1, a, b, c, h, h1, h2 => by
    have ih := W_trans (R := R) n
    by_cases hb : b = n
    · subst hb
      right
      refine ⟨?_, ?_⟩
      · rcases h1 with h1 | h1
        · exact h1
        · exact h1.1
      · rcases h2 with h2 | h2
        · exact h2
        · exact h2.2
    · have hb : b < n := by omega
      rcases h1 with h1 | h1
      · rcases h2 with h2 | h2
        · exact .inl (ih a b c hb h1 h2)
        · exact .inr ⟨ih a b n hb h1 h2.1, h2.2⟩
      · rcases h2 with h2 | h2
        · exact .inr ⟨h1.1, ih n b c hb h1.2 h2⟩
        · exact .inr ⟨h1.1, h2.2⟩
theorem W_gen {R : Nat → Nat → Prop} : ∀ n a b, W R n a b → TransGen R a b
  | 0, a, b, h => .single h
  | n + 1, a, b, h => by
    have ih := W_gen (R := R) n
    rcases h with h | h
    · exact ih a b h
    · exact TransGen.trans (ih _ _ h.1) (ih _ _ h.2)
theorem W_sub {R : Nat → Nat → Prop} {a b : Nat} (h : R a b) : ∀ n, W R n a b
  | 0 => h
  | n + 1 => .inl (W_sub h n)
theorem gen_W {R : Nat → Nat → Prop} {n : Nat} (hR : ∀ a b, R a b → a < n ∧ b < n) {a b : Nat} (h : TransGen R a b) : W R n a b := by
  induction h with
  | single h => exact W_sub h n
  | tail h1 h2 ih => exact W_trans n _ _ _ (hR _ _ h2).1 ih (W_sub h2 n)

theorem upd_get {r : Rel} {a b : Nat} {v : Bool} (ha : a < r.length) (hb : b < (r.getD a (List.replicate 6 false)).length) : get2 (upd2 r a b v) a b = v := by
  unfold get2 upd2
  generalize r.getD a (List.replicate 6 false) = row at *
  have e : (r.set a (row.set b v)).getD a (List.replicate 6 false) = row.set b v := by
    rw [getD_lt (by simpa using ha), List.getElem_set_self]
  rw [e, getD_lt (by simpa using hb), List.getElem_set_self]
/-- A relation of six events. -/
def sq (r : Rel) : Prop := r.length = 6 ∧ ∀ a < 6, (r.getD a (List.replicate 6 false)).length = 6
theorem sq_upd {r : Rel} (h : sq r) (a b : Nat) (v : Bool) : sq (upd2 r a b v) := by
  refine ⟨by simp [upd2, h.1], fun c hc => ?_⟩
  unfold upd2
  rw [List.getD_eq_getElem?_getD, List.getElem?_set]
  by_cases e : a = c
  · subst e
    rw [if_pos rfl]
    split
    · simp only [Option.getD_some, List.length_set]; exact h.2 a hc
    · rfl
  · rw [if_neg e, ← List.getD_eq_getElem?_getD]; exact h.2 c hc
theorem sq_rowB {r : Rel} (h : sq r) (k a : Nat) : ∀ n, sq (rowB k a r n)
  | 0 => h
  | n + 1 => by rw [Go.User.rowB_succ]; exact sq_upd (sq_rowB h k a n) _ _ _
theorem sq_rowA {r : Rel} (h : sq r) (k : Nat) : ∀ n, sq (rowA k r n)
  | 0 => h
  | n + 1 => by rw [Go.User.rowA_succ]; exact sq_rowB (sq_rowA h k n) _ _ _
theorem sq_closeN {r : Rel} (h : sq r) : ∀ n, sq (closeN r n)
  | 0 => h
  | n + 1 => by rw [Go.User.closeN_succ]; exact sq_rowA (sq_closeN h n) _ _
theorem stepB_new {r : Rel} (hs : sq r) {k a b : Nat} (ha : a < 6) (hb : b < 6) (h : get2 r a b = true ∨ (get2 r a k = true ∧ get2 r k b = true)) : get2 (stepB k a r b) a b = true := by
  unfold stepB
  rw [upd_get (by rw [hs.1]; exact ha) (by rw [hs.2 a ha]; exact hb)]
  rcases h with h | ⟨h1, h2⟩
  · rw [h]; rfl
  · rw [h1, h2]; simp
theorem rowB_new {r : Rel} (hs : sq r) {k a : Nat} (ha : a < 6) {b : Nat} (h : get2 r a b = true ∨ (get2 r a k = true ∧ get2 r k b = true)) : ∀ n, n ≤ 6 → b < n → get2 (rowB k a r n) a b = true
  | 0, _, hb => by omega
  | n + 1, hn, hb => by
    rw [Go.User.rowB_succ]
    by_cases e : b = n
    · subst e
      refine stepB_new (sq_rowB hs k a b) ha (by omega) ?_
      rcases h with h | ⟨h1, h2⟩
      · exact .inl (get2_rowB h b)
      · exact .inr ⟨get2_rowB h1 b, get2_rowB h2 b⟩
    · exact get2_stepB (rowB_new hs ha h n (by omega) (by omega))
theorem rowA_new {r : Rel} (hs : sq r) {k : Nat} {a b : Nat} (hb : b < 6) (h : get2 r a b = true ∨ (get2 r a k = true ∧ get2 r k b = true)) : ∀ n, n ≤ 6 → a < n → get2 (rowA k r n) a b = true
  | 0, _, ha => by omega
  | n + 1, hn, ha => by
    rw [Go.User.rowA_succ]
    by_cases e : a = n
    · subst e
      refine rowB_new (sq_rowA hs k a) (by omega) ?_ 6 (Nat.le_refl _) hb
      rcases h with h | ⟨h1, h2⟩
      · exact .inl (get2_rowA h a)
      · exact .inr ⟨get2_rowA h1 a, get2_rowA h2 a⟩
    · exact get2_rowB (rowA_new hs hb h n (by omega) (by omega)) 6
theorem closeN_W {r : Rel} (hs : sq r) : ∀ n, n ≤ 6 → ∀ a b, a < 6 → b < 6 → W (fun a b => get2 r a b = true) n a b → get2 (closeN r n) a b = true
  | 0, _, a, b, _, _, h => h
  | n + 1, hn, a, b, ha, hb, h => by
    have ih := closeN_W hs n (by omega)
    rw [Go.User.closeN_succ]
    refine rowA_new (sq_closeN hs n) hb ?_ 6 (Nat.le_refl _) ha
    rcases h with h | ⟨h1, h2⟩
    · exact .inl (ih a b ha hb h)
    · exact .inr ⟨ih a n ha (by omega) h1, ih n b (by omega) hb h2⟩
theorem sq_mat (f : Nat → Nat → Bool) : sq (mat f) := ⟨by simp [mat], fun a ha => by rw [mat_row ha]; simp⟩
/-- Closing a relation gives its transitive closure. -/
theorem close_iff {f : Nat → Nat → Bool} (hf : ∀ a b, f a b = true → a < 6 ∧ b < 6) {a b : Nat} : get2 (close (mat f)) a b = true ↔ TransGen (fun a b => f a b = true) a b := by
  have hm : ∀ a b, get2 (mat f) a b = true ↔ f a b = true := by
    intro a b
    constructor
    · intro h; exact (get2_mat_in h).2.2
    · intro h; rw [get2_mat (hf a b h).1 (hf a b h).2]; exact h
  constructor
  · exact close_in (R := TransGen fun a b => f a b = true) (fun a b c h1 h2 => TransGen.trans h1 h2) (fun x y h => .single ((hm x y).1 h)) a b
  · intro h
    have e : (fun a b => get2 (mat f) a b = true) = (fun a b => f a b = true) := by
      funext a b; exact propext (hm a b)
    have hW := gen_W (n := 6) hf h
    have hab : a < 6 ∧ b < 6 := by
      clear hW
      induction h with
      | single h => exact hf _ _ h
      | tail h1 h2 ih => exact ⟨ih.1, (hf _ _ h2).2⟩
    rw [← e] at hW
    exact closeN_W (sq_mat f) 6 (Nat.le_refl _) a b hab.1 hab.2 hW

/-- Two numbers of a list, one behind the other. -/
theorem pair_iff {fo : List Int} {a b : Int} : ((List.range fo.length).any fun j => (List.range j).any fun i => decide (fo.getD i 0 = a) && decide (fo.getD j 0 = b)) = true ↔ [a, b].Sublist fo := by
  rw [List.any_eq_true]
  have : (∃ x, x ∈ List.range fo.length ∧ ((List.range x).any fun i => decide (fo.getD i 0 = a) && decide (fo.getD x 0 = b)) = true) ↔ ∃ j, j < fo.length ∧ ∃ i, i < j ∧ fo.getD i 0 = a ∧ fo.getD j 0 = b := by
    simp only [List.mem_range, List.any_eq_true, Bool.and_eq_true, decide_eq_true_eq]
  rw [this]
  clear this
  induction fo with
  | nil => simp
  | cons x l ih =>
    have hs : [a, b].Sublist (x :: l) ↔ [a, b].Sublist l ∨ (x = a ∧ b ∈ l) := by
      rw [List.sublist_cons_iff]
      constructor
      · rintro (h | ⟨r, h1, h2⟩)
        · exact .inl h
        · simp only [List.cons.injEq] at h1
          obtain ⟨e1, e2⟩ := h1
          subst e2
          exact .inr ⟨e1.symm, List.singleton_sublist.1 h2⟩
      · rintro (h | ⟨h1, h2⟩)
        · exact .inl h
        · exact .inr ⟨[b], by rw [h1], List.singleton_sublist.2 h2⟩
    rw [hs]
    refine Iff.trans ?_ (or_congr ih Iff.rfl)
    constructor
    · rintro ⟨j, hj, i, hi, h1, h2⟩
      match i, j, hi with
      | 0, j + 1, _ =>
        right
        refine ⟨h1, ?_⟩
        have h2 : l.getD j 0 = b := h2
        simp only [List.length_cons] at hj
        rw [getD_lt (by omega)] at h2
        rw [← h2]; exact List.getElem_mem _
      | i + 1, j + 1, hi =>
        left
        simp only [List.length_cons] at hj
        exact ⟨j, by omega, i, by omega, h1, h2⟩
    · rintro (⟨j, hj, i, hi, h1, h2⟩ | ⟨h1, h2⟩)
      · exact ⟨j + 1, by simp only [List.length_cons]; omega, i + 1, by omega, h1, h2⟩
      · obtain ⟨j, hj, e⟩ := List.getElem_of_mem h2
        exact ⟨j + 1, by simp only [List.length_cons]; omega, 0, by omega, h1, by show l.getD j 0 = b; rw [getD_lt hj]; exact e⟩
/-- Ordered before another event. -/
def Ord (g : Gr) (a b : Nat) : Prop := (a < b ∧ b < g.1.length ∧ (ev g.1 a).1 = (ev g.1 b).1) ∨ [(a : Int), (b : Int)].Sublist g.2.2.2.1
def Flow (g : Gr) (a b : Nat) : Prop := Ord g a b ∨ (b < g.2.1.length ∧ g.2.1.getD b 0 = (a : Int))
theorem ordF_iff (g : Gr) (a b : Nat) : ordF g.1 g.2.2.2.1 a b = true ↔ Ord g a b := by
  unfold ordF Ord
  rw [Bool.or_eq_true, pair_iff]
  simp only [Bool.and_eq_true, decide_eq_true_eq, and_assoc]
theorem flowN_iff (g : Gr) (a b : Nat) : flowN g g.2.1.length a b = true ↔ Flow g a b := by
  unfold flowN Flow
  rw [Bool.or_eq_true, ordF_iff]
  simp only [Bool.and_eq_true, decide_eq_true_eq]
theorem RightP.six {t : Lit} {g : Gr} (h : RightP t g) : g.1.length ≤ 6 := by rw [h.lenE]; exact (valid_ev h.valid).1
theorem RightP.ord_lt {t : Lit} {g : Gr} (h : RightP t g) {a b : Nat} (ho : Ord g a b) : a < g.1.length ∧ b < g.1.length := by
  rcases ho with ho | ho
  · exact ⟨by omega, ho.2.1⟩
  · have hfo := h.fo
    have h1 := isList_in hfo (ho.subset (by simp) : (a : Int) ∈ _)
    have h2 := isList_in hfo (ho.subset (by simp) : (b : Int) ∈ _)
    have := h.lenE
    omega
theorem RightP.flow_lt {t : Lit} {g : Gr} (h : RightP t g) {a b : Nat} (ho : Flow g a b) : a < g.1.length ∧ b < g.1.length := by
  rcases ho with ho | ⟨h1, h2⟩
  · exact h.ord_lt ho
  · have hF := h.lenF
    have hE := h.lenE
    obtain ⟨_, _, _, h3, _⟩ := h.src b (by omega)
    rw [h2] at h3
    omega
theorem RightP.before_iff {t : Lit} {g : Gr} (h : RightP t g) {a b : Nat} : get2 (before g) a b = true ↔ TransGen (Ord g) a b := by
  have h6 := h.six
  have e : (fun a b => ordF g.1 g.2.2.2.1 a b = true) = Ord g := by funext a b; exact propext (ordF_iff g a b)
  unfold before order
  rw [close_iff (fun a b hab => by have := h.ord_lt ((ordF_iff g a b).1 hab); omega), e]
theorem RightP.flow_iff {t : Lit} {g : Gr} (h : RightP t g) {a b : Nat} : get2 (flow g) a b = true ↔ TransGen (Flow g) a b := by
  have h6 := h.six
  have e : (fun a b => flowN g g.2.1.length a b = true) = Flow g := by funext a b; exact propext (flowN_iff g a b)
  unfold flow
  rw [close_iff (fun a b hab => by have := h.flow_lt ((flowN_iff g a b).1 hab); omega), e]
theorem gen_lt {R : Nat → Nat → Prop} {n : Nat} (hR : ∀ a b, R a b → a < n ∧ b < n) {a b : Nat} (h : TransGen R a b) : a < n ∧ b < n := by
  induction h with
  | single h => exact hR _ _ h
  | tail h1 h2 ih => exact ⟨ih.1, (hR _ _ h2).2⟩
theorem gen_map {R S : Nat → Nat → Prop} {em : Nat → Nat} (h : ∀ a b, R a b → S (em a) (em b)) {a b : Nat} (hab : TransGen R a b) : TransGen S (em a) (em b) := by
  induction hab with
  | single h1 => exact .single (h _ _ h1)
  | tail h1 h2 ih => exact .tail ih (h _ _ h2)
/-- What it means that a graph is allowed. -/
structure AllowP (t : Lit) (g : Gr) : Prop where
  right : RightP t g
  acyc : ∀ a, ¬ TransGen (Flow g) a a
  add : ∀ a < g.1.length, (ev g.1 a).2.1.1 = 3 → (plc g a).2.1 = (plc g a).1 - 1
  coh : ∀ a < g.1.length, ∀ b < g.1.length, (ev g.1 a).2.1.1 ≠ 4 → (ev g.1 b).2.1.1 ≠ 4 → TransGen (Ord g) a b → (ev g.1 a).2.1.2.1 = (ev g.1 b).2.1.2.1 → coh g a b = true
theorem allowed_iff (t : Lit) (g : Gr) : allowed t g = true ↔ AllowP t g := by
  unfold allowed
  simp only [Bool.and_eq_true, decide_eq_true_eq, Bool.not_eq_true']
  constructor
  · rintro ⟨⟨h1, h2⟩, h3⟩
    have hR := (right_iff t g).1 h1
    refine ⟨hR, fun a ha => ?_, fun a ha h => ?_, fun a ha b hb h4 h5 hab hx => ?_⟩
    · have hf := hR.flow_iff.2 ha
      have h6 := hR.six
      have hl := (gen_lt (fun a b h => hR.flow_lt h) ha).1
      unfold round at h2
      rw [List.any_eq_false] at h2
      exact h2 a (by simp; omega) hf
    · rcases h3 a ha with h4 | ⟨h4, _⟩
      · omega
      · unfold badAdd at h4
        rw [decide_eq_true h] at h4
        simpa using h4
    · rcases h3 a ha with h6 | ⟨_, h6⟩
      · exact absurd h6 h4
      · have := h6 b hb
        unfold badPair at this
        rw [hR.before_iff.2 hab, decide_eq_false h5, decide_eq_true hx] at this
        simpa using this
  · intro h
    refine ⟨⟨(right_iff t g).2 h.right, ?_⟩, fun a ha => ?_⟩
    · unfold round
      rw [List.any_eq_false]
      intro a _ hh
      exact h.acyc a (h.right.flow_iff.1 hh)
    · by_cases h4 : (ev g.1 (a : Int)).2.1.1 = 4
      · exact .inl h4
      · right
        refine ⟨?_, fun b hb => ?_⟩
        · unfold badAdd
          by_cases h3 : (ev g.1 (a : Int)).2.1.1 = 3
          · rw [h.add a ha h3]; simp
          · rw [decide_eq_false h3]; rfl
        · unfold badPair
          cases hb2 : get2 (before g) a b
          · rfl
          by_cases h5 : (ev g.1 (b : Int)).2.1.1 = 4
          · rw [decide_eq_true h5]; simp
          by_cases hx : (ev g.1 (a : Int)).2.1.2.1 = (ev g.1 (b : Int)).2.1.2.1
          · rw [h.coh a ha b hb h4 h5 (h.right.before_iff.1 hb2) hx]; simp
          · rw [decide_eq_false hx]; simp
/-- A graph whose events are some of another one's is allowed if that is. -/
theorem AllowP.of {t u : Lit} {g h : Gr} (hg : AllowP t g) (hR : RightP u h) (em : Nat → Nat) (ho : ∀ a b, Ord h a b → Ord g (em a) (em b)) (hf : ∀ a b, Flow h a b → Flow g (em a) (em b))
    (he : ∀ a < h.1.length, em a < g.1.length ∧ (ev h.1 a).2.1.1 = (ev g.1 (em a)).2.1.1 ∧ ((ev h.1 a).2.1.1 ≠ 4 → plc h a = plc g (em a)))
    (hx : ∀ a < h.1.length, ∀ b < h.1.length, (ev h.1 a).2.1.1 ≠ 4 → (ev h.1 b).2.1.1 ≠ 4 → (ev h.1 a).2.1.2.1 = (ev h.1 b).2.1.2.1 → (ev g.1 (em a)).2.1.2.1 = (ev g.1 (em b)).2.1.2.1) : AllowP u h := by
  refine ⟨hR, fun a ha => hg.acyc (em a) (gen_map hf ha), fun a ha h3 => ?_, fun a ha b hb h4 h5 hab hxx => ?_⟩
  · obtain ⟨h1, h2, h4⟩ := he a ha
    rw [h4 (by omega)]
    exact hg.add _ h1 (by omega)
  · obtain ⟨a1, a2, a3⟩ := he a ha
    obtain ⟨b1, b2, b3⟩ := he b hb
    have := hg.coh _ a1 _ b1 (by omega) (by omega) (gen_map ho hab) (hx a ha b hb h4 h5 hxx)
    unfold Sp.coh at *
    have hw : ∀ o o' : LOp, o.1 = o'.1 → writes o = writes o' ∧ reads o = reads o' := fun o o' h => by unfold writes reads; rw [h]; exact ⟨rfl, rfl⟩
    rw [a3 h4, b3 h5, (hw _ _ a2).1, (hw _ _ b2).1, (hw _ _ b2).2]
    exact this
theorem idx_map {l : List Int} {τ : Int → Int} {v : Int} (h : ∀ w ∈ l, τ w = τ v → w = v) : idx (l.map τ) (τ v) = idx l v := by
  have hm : τ v ∈ l.map τ ↔ v ∈ l := by
    constructor
    · intro hm
      obtain ⟨w, hw, e⟩ := List.mem_map.1 hm
      exact h w hw e ▸ hw
    · exact List.mem_map_of_mem
  unfold idx
  by_cases hv : v ∈ l
  · rw [if_pos hv, if_pos (hm.2 hv)]
    congr 1
    clear hm
    induction l with
    | nil => cases hv
    | cons x l ih =>
      rw [List.map_cons, idx_cons2, idx_cons2]
      by_cases e : x = v
      · rw [if_pos e, if_pos (by rw [e])]
      · rw [if_neg e, if_neg (fun e' => e (h x (by simp) e'))]
        rw [ih (fun w hw => h w (by simp [hw])) (by
          rcases List.mem_cons.1 hv with h' | h'
          · exact absurd h'.symm e
          · exact h')]
  · rw [if_neg hv, if_neg (fun h' => hv (hm.1 h'))]
end Sp
namespace Sp
open Relation
theorem full_nodup : ∀ {l want : List Int}, want.Nodup → (∀ w ∈ want, w ∈ l) → l.length ≤ want.length → l.Nodup ∧ ∀ v ∈ l, v ∈ want
  | [], want, _, _, _ => ⟨List.nodup_nil, fun v h => by cases h⟩
  | v :: l, want, hn, hm, hl => by
    simp only [List.length_cons] at hl
    have hvl : v ∉ l := by
      intro hv
      have := nodup_le hn (m := l) (fun w hw => by
        rcases List.mem_cons.1 (hm w hw) with rfl | h
        · exact hv
        · exact h)
      omega
    have hvw : v ∈ want := by
      refine Classical.byContradiction fun hv => ?_
      have := nodup_le hn (m := l) (fun w hw => by
        rcases List.mem_cons.1 (hm w hw) with rfl | h
        · exact absurd hw hv
        · exact h)
      omega
    have hlen := List.length_erase_of_mem hvw
    have hpos := List.length_pos_of_mem hvw
    obtain ⟨h1, h2⟩ := full_nodup (l := l) (want := want.erase v) (hn.erase v) (fun w hw => by
      have hw' := (List.Nodup.mem_erase_iff hn).1 hw
      rcases List.mem_cons.1 (hm w hw'.2) with rfl | h
      · exact absurd rfl hw'.1
      · exact h) (by omega)
    refine ⟨List.nodup_cons.2 ⟨hvl, h1⟩, fun w hw => ?_⟩
    rcases List.mem_cons.1 hw with rfl | h
    · exact hvw
    · exact List.mem_of_mem_erase (h2 w h)
theorem lists_sel {l : List Int} {p : Nat → Bool} {n : Nat} : listsB l (sel p n) = true ↔ l.Nodup ∧ (∀ v ∈ l, ∃ i : Nat, i < n ∧ p i = true ∧ v = (i : Int)) ∧ ∀ i : Nat, i < n → p i = true → (i : Int) ∈ l := by
  have hsn : (sel p n).Nodup := by
    unfold sel List.Nodup
    rw [List.pairwise_map]
    exact ((List.nodup_range (n := n)).filter _).imp (fun h e => h (by omega))
  unfold listsB
  simp only [Bool.and_eq_true, decide_eq_true_eq, List.all_eq_true]
  constructor
  · rintro ⟨h1, h2⟩
    obtain ⟨h3, h4⟩ := full_nodup hsn h2 (by omega)
    exact ⟨h3, fun v hv => mem_sel.1 (h4 v hv), fun i hi hp => h2 _ (mem_sel.2 ⟨i, hi, hp, rfl⟩)⟩
  · rintro ⟨h1, h2, h3⟩
    have h4 : ∀ w ∈ sel p n, w ∈ l := fun w hw => by
      obtain ⟨i, hi, hp, rfl⟩ := mem_sel.1 hw
      exact h3 i hi hp
    have a := nodup_le hsn h4
    have b := nodup_le h1 (m := sel p n) (fun v hv => mem_sel.2 (h2 v hv))
    exact ⟨by omega, h4⟩
theorem lists_is {l : List Int} {e : List LEv} {is : LOp → Bool} : listsB l (sel (fun i => is (ev e i).2.1) e.length) = isList l e is := by
  have h : listsB l (sel (fun i => is (ev e i).2.1) e.length) = true ↔ isList l e is = true := by
    rw [lists_sel]
    unfold isList
    simp only [Bool.and_eq_true, decide_eq_true_eq]
    constructor
    · rintro ⟨h1, h2, h3⟩
      refine ⟨⟨h1, fun v hv => ?_⟩, h3⟩
      obtain ⟨i, hi, hp, rfl⟩ := h2 v hv
      exact ⟨by omega, by omega, hp⟩
    · rintro ⟨⟨h1, h2⟩, h3⟩
      refine ⟨h1, fun v hv => ?_, h3⟩
      obtain ⟨a, b, c⟩ := h2 v hv
      refine ⟨v.toNat, by omega, ?_, by omega⟩
      rwa [Int.toNat_of_nonneg a]
  cases h1 : listsB l (sel (fun i => is (ev e i).2.1) e.length) <;> cases h2 : isList l e is <;> simp_all
theorem lists_wr (l : List Int) (e : List LEv) (x : Nat) : listsB l (wr e (x : Int)) = isList l e (fun o => writes o && decide (o.2.1 = (x : Int))) := lists_is (is := fun o => writes o && decide (o.2.1 = (x : Int)))
theorem lists_fen (l : List Int) (e : List LEv) : listsB l (fen e) = isList l e (fun o => decide (o.1 = 4)) := lists_is (is := fun o => decide (o.1 = 4))
theorem src_iff (e : List LEv) (g : Gr) (n : Nat) : src e g n ↔ (ev g.1 n).1 = (ev e n).1 ∧ (ev g.1 n).2.1 = (ev e n).2.1 ∧ srcB e (n : Int) (g.2.1.getD n 0) = true := by
  unfold src srcB
  simp only [Bool.or_eq_true, Bool.and_eq_true, decide_eq_true_eq]
  constructor
  · rintro ⟨h1, h2, h3, h4, h5⟩
    refine ⟨h1, h2, ?_⟩
    by_cases h : g.2.1.getD n 0 = -1
    · exact .inl h
    · have := h5 (by omega)
      exact .inr ⟨⟨⟨⟨this.1, by omega⟩, h4⟩, this.2.1⟩, this.2.2⟩
  · rintro ⟨h1, h2, h3 | ⟨⟨⟨⟨a, b⟩, c⟩, d⟩, f⟩⟩
    · exact ⟨h1, h2, by omega, by omega, fun h => by omega⟩
    · exact ⟨h1, h2, by omega, c, fun _ => ⟨a, d, f⟩⟩

section
variable {n : Nat}
theorem ix_lt {a b : Nat} (ha : a < n) (hb : b < n) : a * n + b < n * n := by
  have : (a + 1) * n ≤ n * n := Nat.mul_le_mul_right n ha
  rw [Nat.succ_mul] at this
  omega
theorem ix_div {a b : Nat} (hb : b < n) : (a * n + b) / n = a ∧ (a * n + b) % n = b := by
  constructor
  · rw [Nat.mul_comm, Nat.mul_add_div (by omega), Nat.div_eq_of_lt hb, Nat.add_zero]
  · rw [Nat.mul_comm, Nat.mul_add_mod, Nat.mod_eq_of_lt hb]
theorem ix_inj {a b c d : Nat} (hb : b < n) (hd : d < n) (h : a * n + b = c * n + d) : a = c ∧ b = d := by
  have h1 := ix_div (a := a) hb
  have h2 := ix_div (a := c) hd
  rw [h, h2.1, h2.2] at h1
  exact ⟨h1.1.symm, h1.2.symm⟩
theorem g1_set {r : List Bool} (hr : r.length = n * n) {a b c d : Nat} (ha : a < n) (hb : b < n) (hc : c < n) (hd : d < n) (v : Bool) : g1 n (r.set (a * n + b) v) c d = if a = c ∧ b = d then v else g1 n r c d := by
  have := ix_lt ha hb
  unfold g1
  rw [List.getD_eq_getElem?_getD, List.getElem?_set]
  by_cases h : a * n + b = c * n + d
  · have := ix_inj hb hd h
    rw [if_pos h, if_pos (by omega), if_pos this]; rfl
  · rw [if_neg h, if_neg (by rintro ⟨rfl, rfl⟩; exact h rfl), ← List.getD_eq_getElem?_getD]
theorem stepC_len (k a : Nat) (r : List Bool) (b : Nat) : (stepC n k a r b).length = r.length := by unfold stepC; split <;> simp
theorem rowC_succ (k a : Nat) (r : List Bool) (m : Nat) : rowC n k a r (m + 1) = stepC n k a (rowC n k a r m) m := Go.User.fold_succ _ _ _
theorem rowsC_succ (k : Nat) (r : List Bool) (m : Nat) : rowsC n k r (m + 1) = rowC n k m (rowsC n k r m) n := Go.User.fold_succ (fun r a => rowC n k a r n) _ _
theorem closC_succ (r : List Bool) (m : Nat) : closC n r (m + 1) = rowsC n m (closC n r m) n := Go.User.fold_succ (fun r k => rowsC n k r n) _ _
theorem rowC_len (k a : Nat) (r : List Bool) : ∀ m, (rowC n k a r m).length = r.length
  | 0 => rfl
  | m + 1 => by rw [rowC_succ, stepC_len]; exact rowC_len k a r m
theorem rowsC_len (k : Nat) (r : List Bool) : ∀ m, (rowsC n k r m).length = r.length
  | 0 => rfl
  | m + 1 => by rw [rowsC_succ, rowC_len]; exact rowsC_len k r m
theorem closC_len (r : List Bool) : ∀ m, (closC n r m).length = r.length
  | 0 => rfl
  | m + 1 => by rw [closC_succ, rowsC_len]; exact closC_len r m
theorem stepC_get {k a : Nat} {r : List Bool} {b : Nat} (hr : r.length = n * n) (ha : a < n) (hb : b < n) {x y : Nat} (hx : x < n) (hy : y < n) : g1 n (stepC n k a r b) x y = true ↔ g1 n r x y = true ∨ (a = x ∧ b = y ∧ g1 n r a k = true ∧ g1 n r k b = true) := by
  unfold stepC
  by_cases h : g1 n r a k = true ∧ g1 n r k b = true
  · rw [if_pos h, g1_set hr ha hb hx hy]
    by_cases e : a = x ∧ b = y
    · rw [if_pos e]; simp [e.1, e.2]; rw [← e.1, ← e.2]; exact .inr h
    · rw [if_neg e]
      exact ⟨.inl, fun h' => h'.elim id fun h' => absurd ⟨h'.1, h'.2.1⟩ e⟩
  · rw [if_neg h]
    exact ⟨.inl, fun h' => h'.elim id fun h' => absurd ⟨h'.2.2.1, h'.2.2.2⟩ h⟩
section
variable {R : Nat → Nat → Prop} (ht : ∀ a b c, R a b → R b c → R a c)
def InR (n : Nat) (R : Nat → Nat → Prop) (r : List Bool) : Prop := r.length = n * n ∧ ∀ x y, x < n → y < n → g1 n r x y = true → R x y
include ht
theorem stepC_in {k a b : Nat} {r : List Bool} (hk : k < n) (ha : a < n) (hb : b < n) (h : InR n R r) : InR n R (stepC n k a r b) := by
  refine ⟨by rw [stepC_len]; exact h.1, fun x y hx hy hxy => ?_⟩
  rcases (stepC_get h.1 ha hb hx hy).1 hxy with h1 | ⟨rfl, rfl, h1, h2⟩
  · exact h.2 _ _ hx hy h1
  · exact ht _ _ _ (h.2 _ _ ha hk h1) (h.2 _ _ hk hb h2)
theorem rowC_in {k a : Nat} {r : List Bool} (hk : k < n) (ha : a < n) (h : InR n R r) : ∀ m, m ≤ n → InR n R (rowC n k a r m)
  | 0, _ => h
  | m + 1, hm => by rw [rowC_succ]; exact stepC_in ht hk ha (by omega) (rowC_in hk ha h m (by omega))
theorem rowsC_in {k : Nat} {r : List Bool} (hk : k < n) (h : InR n R r) : ∀ m, m ≤ n → InR n R (rowsC n k r m)
  | 0, _ => h
  | m + 1, hm => by rw [rowsC_succ]; exact rowC_in ht hk (by omega) (rowsC_in hk h m (by omega)) n (Nat.le_refl _)
theorem closC_in {r : List Bool} (h : InR n R r) : ∀ m, m ≤ n → InR n R (closC n r m)
  | 0, _ => h
  | m + 1, hm => by rw [closC_succ]; exact rowsC_in ht (by omega) (closC_in h m (by omega)) n (Nat.le_refl _)
end
theorem rowC_old {k a : Nat} {r : List Bool} (hr : r.length = n * n) (ha : a < n) {x y : Nat} (hx : x < n) (hy : y < n) (h : g1 n r x y = true) : ∀ m, m ≤ n → g1 n (rowC n k a r m) x y = true
  | 0, _ => h
  | m + 1, hm => by
    rw [rowC_succ, stepC_get (by rw [rowC_len]; exact hr) ha (by omega) hx hy]
    exact .inl (rowC_old hr ha hx hy h m (by omega))
theorem rowsC_old {k : Nat} {r : List Bool} (hr : r.length = n * n) {x y : Nat} (hx : x < n) (hy : y < n) (h : g1 n r x y = true) : ∀ m, m ≤ n → g1 n (rowsC n k r m) x y = true
  | 0, _ => h
  | m + 1, hm => by
    rw [rowsC_succ]
    exact rowC_old (by rw [rowsC_len]; exact hr) (by omega) hx hy (rowsC_old hr hx hy h m (by omega)) n (Nat.le_refl _)
theorem rowC_new {k a : Nat} {r : List Bool} (hr : r.length = n * n) (hk : k < n) (ha : a < n) {b : Nat} (h : g1 n r a b = true ∨ (g1 n r a k = true ∧ g1 n r k b = true)) : ∀ m, m ≤ n → b < m → g1 n (rowC n k a r m) a b = true
  | 0, _, hb => by omega
  | m + 1, hm, hb => by
    rw [rowC_succ, stepC_get (by rw [rowC_len]; exact hr) ha (by omega) ha (by omega)]
    by_cases e : m = b
    · subst e
      rcases h with h | ⟨h1, h2⟩
      · exact .inl (rowC_old hr ha ha (by omega) h m (by omega))
      · exact .inr ⟨rfl, rfl, rowC_old hr ha ha hk h1 m (by omega), rowC_old hr ha hk (by omega) h2 m (by omega)⟩
    · exact .inl (rowC_new hr hk ha h m (by omega) (by omega))
theorem rowsC_new {k : Nat} {r : List Bool} (hr : r.length = n * n) (hk : k < n) {a b : Nat} (hb : b < n) (h : g1 n r a b = true ∨ (g1 n r a k = true ∧ g1 n r k b = true)) : ∀ m, m ≤ n → a < m → g1 n (rowsC n k r m) a b = true
  | 0, _, ha => by omega
  | m + 1, hm, ha => by
    rw [rowsC_succ]
    have hl := rowsC_len (n := n) k r m
    by_cases e : m = a
    · subst e
      refine rowC_new (by rw [hl]; exact hr) hk (by omega) ?_ n (Nat.le_refl _) hb
      rcases h with h | ⟨h1, h2⟩
      · exact .inl (rowsC_old hr (by omega) hb h m (by omega))
      · exact .inr ⟨rowsC_old hr (by omega) hk h1 m (by omega), rowsC_old hr hk hb h2 m (by omega)⟩
    · exact rowC_old (by rw [hl]; exact hr) (by omega) (by omega) hb (rowsC_new hr hk hb h m (by omega) (by omega)) n (Nat.le_refl _)
theorem closC_W {r : List Bool} (hr : r.length = n * n) : ∀ m, m ≤ n → ∀ a b, a < n → b < n → W (fun a b => g1 n r a b = true) m a b → g1 n (closC n r m) a b = true
  | 0, _, a, b, _, _, h => h
  | m + 1, hm, a, b, ha, hb, h => by
    have ih := closC_W hr m (by omega)
    rw [closC_succ]
    refine rowsC_new (by rw [closC_len]; exact hr) (by omega) hb ?_ n (Nat.le_refl _) ha
    rcases h with h | ⟨h1, h2⟩
    · exact .inl (ih a b ha hb h)
    · exact .inr ⟨ih a m ha (by omega) h1, ih m b (by omega) hb h2⟩
theorem bl_len (f : Nat → Nat → Bool) (m : Nat) : (bl n f m).length = n * n := by simp [bl]
theorem bl_get {f : Nat → Nat → Bool} {a b : Nat} (ha : a < n) (hb : b < n) : g1 n (bl n f (n * n)) a b = f a b := by
  have h := ix_lt ha hb
  have hd := ix_div (a := a) hb
  unfold g1
  rw [getD_lt (by rw [bl_len]; exact h)]
  unfold bl
  rw [List.getElem_map, List.getElem_range, hd.1, hd.2, decide_eq_true h]; rfl
theorem bl_set {f : Nat → Nat → Bool} {a b : Nat} (ha : a < n) (hb : b < n) {v : Bool} (hv : v = f a b) : (bl n f (a * n + b)).set (a * n + b) v = bl n f (a * n + b + 1) := by
  subst hv
  have h := ix_lt ha hb
  have hd := ix_div (a := a) hb
  refine List.ext_getElem (by simp [bl]) fun i h1 h2 => ?_
  have e1 : ∀ m (h : i < (bl n f m).length), (bl n f m)[i] = (decide (i < m) && f (i / n) (i % n)) := fun m h => by simp [bl]
  rw [List.getElem_set, e1, e1]
  by_cases e : a * n + b = i
  · rw [if_pos e, ← e, hd.1, hd.2, decide_eq_true (by omega)]; rfl
  · rw [if_neg e]
    by_cases hi : i < a * n + b
    · rw [decide_eq_true hi, decide_eq_true (by omega)]
    · rw [decide_eq_false hi, decide_eq_false (by omega)]
theorem bl_zero (f : Nat → Nat → Bool) : List.replicate (n * n) false = bl n f 0 := by
  refine List.ext_getElem (by simp [bl]) fun i h1 h2 => ?_
  simp [bl]
/-- The reference's closure is the transitive closure. -/
theorem closC_iff {f : Nat → Nat → Bool} {R : Nat → Nat → Prop} (hR : ∀ a b, R a b → a < n ∧ b < n) (hf : ∀ a b, a < n → b < n → (f a b = true ↔ R a b)) {a b : Nat} (ha : a < n) (hb : b < n) :
    g1 n (closC n (bl n f (n * n)) n) a b = true ↔ TransGen R a b := by
  constructor
  · refine (closC_in (R := TransGen R) (fun a b c h1 h2 => TransGen.trans h1 h2) ⟨bl_len f _, fun x y hx hy h => ?_⟩ n (Nat.le_refl _)).2 a b ha hb
    rw [bl_get hx hy] at h
    exact .single ((hf x y hx hy).1 h)
  · intro h
    have hW := gen_W (n := n) hR h
    refine closC_W (bl_len f _) n (Nat.le_refl _) a b ha hb ?_
    have key : ∀ m, m ≤ n → ∀ a b, a < n → b < n → W R m a b → W (fun a b => g1 n (bl n f (n * n)) a b = true) m a b := by
      intro m
      induction m with
      | zero =>
        intro _ a b ha hb h
        show g1 n (bl n f (n * n)) a b = true
        rw [bl_get ha hb]
        exact (hf a b ha hb).2 h
      | succ m ih =>
        intro hm a b ha hb h
        rcases h with h | ⟨h1, h2⟩
        · exact .inl (ih (by omega) a b ha hb h)
        · exact .inr ⟨ih (by omega) a m ha (by omega) h1, ih (by omega) m b (by omega) hb h2⟩
    exact key n (Nat.le_refl _) a b ha hb hW
end
end Sp
namespace Sp
open Relation
theorem pair_idx {fo : List Int} (hn : fo.Nodup) {a b : Int} : [a, b].Sublist fo ↔ 0 ≤ idx fo a ∧ idx fo a < idx fo b := by
  have h : [a, b].Sublist fo ↔ ∃ j, j < fo.length ∧ ∃ i, i < j ∧ fo.getD i 0 = a ∧ fo.getD j 0 = b := by
    rw [← pair_iff, List.any_eq_true]
    simp only [List.mem_range, List.any_eq_true, Bool.and_eq_true, decide_eq_true_eq]
  rw [h]
  have key : ∀ i, i < fo.length → idx fo (fo.getD i 0) = (i : Int) := by
    intro i hi
    rw [getD_lt hi]
    unfold idx
    rw [if_pos (List.getElem_mem hi), List.Nodup.idxOf_getElem hn]
  constructor
  · rintro ⟨j, hj, i, hi, rfl, rfl⟩
    rw [key i (by omega), key j hj]
    omega
  · rintro ⟨h1, h2⟩
    have ha : a ∈ fo := by
      refine Classical.byContradiction fun hm => ?_
      unfold idx at h1
      rw [if_neg hm] at h1; omega
    have hb : b ∈ fo := by
      refine Classical.byContradiction fun hm => ?_
      unfold idx at h2
      rw [if_neg hm, if_pos ha] at h2; omega
    unfold idx at h2
    rw [if_pos ha, if_pos hb] at h2
    have la := List.idxOf_lt_length_iff.2 ha
    have lb := List.idxOf_lt_length_iff.2 hb
    exact ⟨fo.idxOf b, lb, fo.idxOf a, by omega, by rw [getD_lt la, List.getElem_idxOf], by rw [getD_lt lb, List.getElem_idxOf]⟩
section
variable {t : Lit} {g : Gr} (h : RightP t g)
include h
theorem RightP.fon : g.2.2.2.1.Nodup := by
  have := h.fo
  unfold isList at this
  simp only [Bool.and_eq_true, decide_eq_true_eq] at this
  exact this.1.1
theorem RightP.rord_iff {a b : Nat} (ha : a < g.1.length) (hb : b < g.1.length) : fO g a b = true ↔ Ord g a b := by
  unfold fO rord Ord
  rw [pair_idx h.fon]
  simp only [Bool.or_eq_true, Bool.and_eq_true, decide_eq_true_eq]
  exact or_congr ⟨fun ⟨h1, h2⟩ => ⟨by omega, hb, h1⟩, fun ⟨h1, _, h2⟩ => ⟨h2, by omega⟩⟩ Iff.rfl
theorem RightP.rflow_iff {a b : Nat} (ha : a < g.1.length) (hb : b < g.1.length) : fF g a b = true ↔ Flow g a b := by
  have hF := h.lenF
  have hE := h.lenE
  have := h.rord_iff ha hb
  unfold fF Flow
  unfold fO at this
  rw [Bool.or_eq_true, this, decide_eq_true_eq]
  exact or_congr Iff.rfl ⟨fun h => ⟨by omega, h⟩, fun h => h.2⟩
theorem RightP.rBef_iff {a b : Nat} (ha : a < g.1.length) (hb : b < g.1.length) : g1 g.1.length (rBef g) a b = true ↔ TransGen (Ord g) a b :=
  closC_iff (fun a b hab => h.ord_lt hab) (fun a b ha hb => h.rord_iff ha hb) ha hb
theorem RightP.rFlow_iff {a b : Nat} (ha : a < g.1.length) (hb : b < g.1.length) : g1 g.1.length (rFlow g) a b = true ↔ TransGen (Flow g) a b :=
  closC_iff (fun a b hab => h.flow_lt hab) (fun a b ha hb => h.rflow_iff ha hb) ha hb
theorem RightP.kinds {a : Nat} (ha : a < g.1.length) (h4 : (ev g.1 a).2.1.1 ≠ 4) : (ev g.1 a).2.1.1 = 1 ∨ (ev g.1 a).2.1.1 = 2 ∨ (ev g.1 a).2.1.1 = 3 := by
  have hE := h.lenE
  have hu := (valid_ev h.valid).2 _ (ev_mem (n := a) (by omega))
  rw [← (h.src a (by omega)).2.1] at hu
  exact Sp.kinds hu h4
theorem RightP.rcoh_eq (hadd : ∀ a < g.1.length, (ev g.1 a).2.1.1 = 3 → (plc g a).2.1 = (plc g a).1 - 1) {a b : Nat} (ha : a < g.1.length) (hb : b < g.1.length) (h4 : (ev g.1 a).2.1.1 ≠ 4) (h5 : (ev g.1 b).2.1.1 ≠ 4) :
    rcoh g a b = coh g a b := by
  have k1 := h.kinds ha h4
  have k2 := h.kinds hb h5
  have a1 := hadd a ha
  have a2 := hadd b hb
  refine Bool.eq_iff_iff.2 ?_
  unfold rcoh coh
  have hw : ∀ o : LOp, writes o = true ↔ (o.1 = 2 ∨ o.1 = 3) := fun o => by unfold writes; simp
  have hr : ∀ o : LOp, reads o = true ↔ (o.1 = 1 ∨ o.1 = 3) := fun o => by unfold reads; simp
  simp only [Bool.and_eq_true, Bool.not_eq_true', Bool.or_eq_true, Bool.and_eq_false_iff, decide_eq_true_eq, decide_eq_false_iff_not, ← Bool.not_eq_true, hw, hr]
  generalize (ev g.1 (a : Int)).2.1.1 = ka at *
  generalize (ev g.1 (b : Int)).2.1.1 = kb at *
  by_cases h2 : ka = 2 ∨ ka = 3
  · rw [if_pos h2]; omega
  · rw [if_neg h2]; omega
theorem RightP.allowed_of (h1 : ∀ a < g.1.length, ok1 g a) (h2 : ∀ a < g.1.length, ∀ b < g.1.length, ok2 g a b) : allowed t g = true := by
  rw [allowed_iff]
  refine ⟨h, fun a ha => ?_, fun a ha h3 => (h1 a ha).2 h3, fun a ha b hb h4 h5 hab hx => ?_⟩
  · have hl := (gen_lt (fun a b h' => h.flow_lt h') ha).1
    have := (h1 a hl).1
    rw [(h.rFlow_iff hl hl).2 ha] at this
    cases this
  · rw [← h.rcoh_eq (fun a ha => (h1 a ha).2) ha hb h4 h5]
    exact h2 a ha b hb ((h.rBef_iff ha hb).2 hab) h4 h5 hx
theorem RightP.not1 {a : Nat} (ha : a < g.1.length) (hn : ¬ ok1 g a) : allowed t g = false := by
  cases hal : allowed t g
  · rfl
  · exfalso
    have hA := (allowed_iff t g).1 hal
    refine hn ⟨?_, fun h3 => hA.add a ha h3⟩
    cases hf : g1 g.1.length (rFlow g) a a
    · rfl
    · exact absurd ((h.rFlow_iff ha ha).1 hf) (hA.acyc a)
theorem RightP.not2 {a b : Nat} (ha : a < g.1.length) (hb : b < g.1.length) (hn : ¬ ok2 g a b) : allowed t g = false := by
  cases hal : allowed t g
  · rfl
  · exfalso
    have hA := (allowed_iff t g).1 hal
    refine hn fun hbf h4 h5 hx => ?_
    rw [h.rcoh_eq hA.add ha hb h4 h5]
    exact hA.coh a ha b hb h4 h5 ((h.rBef_iff ha hb).1 hbf) hx
end
end Sp
namespace Go.User
open Go.Proofs Go.Lf
set_option maxRecDepth 100000
theorem vc11 : funI C11 (stpP C11) S11 L11 Try.f11 = (
let q0 : Prop := (True ∧ True) ∧ True;
let q1 : Prop := True ∧ True ∧ True;
let q2 : Prop := True ∧ q1;
let q3 : Prop := True ∧ q2;
let q4 : Prop := q2 ∧ True;
let q5 : Int := (0 : Int);
let q6 : Int := (4 : Int);
let q7 : Prop := q6 ≠ q5;
let q8 : Int := (1 : Int);
let q9 : Nat := q5.toNat;
let q10 : Nat := (1 : Nat);
let q11 : List (List (Int × Int × Int × Unit)) := ([] : List tLOp.slice.den);
let q12 : List (List (Int × Int × Int × Unit)) := ([] : List tLOp.den) :: q11;
let q13 : List (List (Int × Int × Int × Unit)) × Unit := (q11, ());
let q14 : Prop := q13 = q13;
let q15 : List Step := Step.fst :: ([] : List Step);
let q16 : List Step := List.append._f (([] : List Step)) PUnit.unit q15;
let q17 : Nat := (2 : Nat);
let q18 : Int := (3 : Int);
let q19 : Prop := q1 ∧ True;
let q20 : Int × Unit := (q5, ());
let q21 : Int := (9 : Int);
let q22 : Prop := (True ∧ True) ∧ True ∧ True;
let q23 : Prop := Step.fst = Step.fst ∧ True;
let q24 : Prop := True ∧ True ∧ True ∧ True ∧ True ∧ True ∧ True ∧ True ∧ True ∧ True ∧ True ∧ True ∧ True ∧ True ∧ True ∧ True ∧ True ∧ True ∧ True ∧ True ∧ True ∧ True ∧ True ∧ True ∧ True ∧ True ∧ True ∧ True ∧ True ∧ True ∧ True ∧ True ∧ True ∧ True ∧ True ∧ True ∧ True ∧ True ∧ True ∧ True ∧ True ∧ True ∧ True ∧ True ∧ True ∧ True ∧ True ∧ True ∧ True ∧ True ∧ True ∧ True ∧ True ∧ True ∧ True ∧ True ∧ True ∧ True ∧ True ∧ True ∧ True ∧ True ∧ True ∧ True ∧ True ∧ True ∧ True ∧ True ∧ True ∧ True ∧ True ∧ True ∧ True ∧ True ∧ True ∧ True ∧ True ∧ True ∧ True ∧ True ∧ True ∧ True ∧ True ∧ True ∧ True ∧ True ∧ True ∧ True ∧ True ∧ True ∧ True ∧ True ∧ True ∧ True ∧ True ∧ True ∧ True ∧ True ∧ True ∧ True ∧ q3;
let q25 : Int := (2 : Int);
let q26 : Int × Int × Unit := (q5, q20);
let q27 : Prop := q14 ∧ q8 = q8 ∧ True;
∀ (x : List Int × Unit),
  let q28 : Nat := x.1.length;
  let q29 : Int := (↑q28 : Int);
  let q30 : Bool := decide (q29 > q5);
  let q31 : Int := q8 + x.1.getD q9 q5 % q6;
  let q32 : Prop := x.1 = x.1;
  let q33 : Prop := q32 ∧ q14 ∧ q31 = q31 ∧ True;
  let q34 : Nat := (Sp.nC x.1).toNat;
  let q35 : List (List (Int × Int × Int × Unit)) × Unit := (Sp.madeP x.1, ());
  let q36 : Prop := q32 ∧ q27;
  True →
    dFact (Ty.int IntKind.u8).slice x.1 ∧ True →
      q0 ∧
        (q3 ∧ True ∧ True) ∧
          q0 ∧
            q4 ∧
              (q30 = true →
                  ((True ∧ inN q5 q28 ∧ True ∧ q7 ∧ True ∧ inK IntKind.i64 q31 ∧ True ∧ True) ∧ True) ∧
                    q0 ∧
                      (∃ (x_1 : Nat), (q10 ≤ x_1 ∧ (↑x_1 : Int) ≤ Sp.nC x.1) ∧ q8 = (↑x_1 : Int) ∧ (q12, ()) = (List.replicate x_1 (([] : List tLOp.den)), ()) ∧ q33) ∧
                        ∀ (x_1 : Nat),
                          let q37 : List (List (Int × Int × Int × Unit)) := List.replicate x_1 (([] : List tLOp.den));
                          let q38 : List (List (Int × Int × Int × Unit)) × Unit := (q37, ());
                          let q39 : Bool := decide ((↑x_1 : Int) < q31);
                          let q40 : Int := (↑x_1 : Int) + q8;
                          q10 ≤ x_1 ∧ (↑x_1 : Int) ≤ Sp.nC x.1 →
                            dFact (Ty.int IntKind.i64) (↑x_1 : Int) ∧ dFact (((Ty.int IntKind.i64).prod ((Ty.int IntKind.i64).prod ((Ty.int IntKind.i64).prod Ty.unit))).slice.slice.prod Ty.unit) q38 ∧ True →
                              q4 ∧
                                (q39 = true → (q3 ∧ (↑(q37.length + q12.length) : Int) ≤ maxNew ∧ True ∧ q16 = q16 ∧ True) ∧ ((True ∧ inK IntKind.i64 q40 ∧ True ∧ True) ∧ True) ∧ ∃ (y : Nat), (q10 ≤ y ∧ (↑y : Int) ≤ Sp.nC x.1) ∧ q34 - y < q34 - x_1 ∧ q40 = (↑y : Int) ∧ (q37 ++ q12, ()) = (List.replicate y (([] : List tLOp.den)), ()) ∧ q33) ∧
                                  (q39 = false →
                                    q0 ∧
                                      (∃ (x_2 : Nat), x_2 ≤ Sp.nK x.1 ∧ q8 = (↑(q17 * x_2 + q10) : Int) ∧ q38 = (Sp.madeN x.1 x_2, ()) ∧ q33) ∧
                                        ∀ (x_2 : Nat),
                                          let q41 : Int := (↑(q17 * x_2 + q10) : Int);
                                          let q42 : List (List (Int × Int × Int × Unit)) × Unit := (Sp.madeN x.1 x_2, ());
                                          let q43 : Int := q41 + q8;
                                          let q44 : Prop := inK IntKind.i64 q43;
                                          let q45 : Bool := decide (q43 < q29);
                                          let q46 : Prop := (true && bif q45 then true else false) = true → True;
                                          let q47 : Bool := bif q45 then decide (q41 < (13 : Int)) else false;
                                          let q48 : Prop := inN q41 q28;
                                          let q49 : Int := x.1.getD q41.toNat q5;
                                          let q50 : Int := q8 + q49 % q6;
                                          let q51 : Int := (q49 / q6).tmod q18;
                                          let q52 : Int × Int × Int × Unit := (q50, q51, q20);
                                          let q53 : Bool := Sp.writes q52;
                                          let q54 : Prop := inN q43 q28;
                                          let q55 : Int := x.1.getD q43.toNat q5;
                                          let q56 : Int := q8 + (q55 / q6).tmod q21;
                                          let q57 : Bool := q50 == q6;
                                          let q58 : Prop := q57 = true;
                                          let q59 : Prop := (True ∧ True ∧ q44 ∧ q54 ∧ True ∧ True ∧ True ∧ q31 ≠ q5 ∧ True ∧ True) ∧ True;
                                          let q60 : Int := q55.tmod q31;
                                          let q61 : Nat := (Sp.madeN x.1 x_2).length;
                                          let q62 : Prop := inN q60 q61;
                                          let q63 : Nat := q60.toNat;
                                          let q64 : List (Int × Int × Int × Unit) := (Sp.madeN x.1 x_2).getD q63 (([] : List tLOp.den));
                                          let q65 : Nat := q64.length;
                                          let q66 : Int × Unit := (q56, ());
                                          let q67 : List (Int × Int × Int × Unit) := (q50, q5, q66) :: ([] : List tLOp.den);
                                          let q68 : Prop := q62 ∧ True;
                                          let q69 : Prop := True ∧ True ∧ True ∧ True ∧ True ∧ True ∧ True ∧ True ∧ True ∧ True ∧ ((True ∧ q23 ∧ True ∧ True ∧ q23 ∧ True ∧ True ∧ (Step.fst = Step.fst ∧ Step.idx q63 = Step.idx q63 ∧ True) ∧ q3) ∧ q24) ∧ True ∧ True;
                                          let q70 : List Step := List.append._f q15 ⟨List.append._f (([] : List Step)) PUnit.unit, PUnit.unit⟩ (Step.idx q63 :: ([] : List Step));
                                          let q71 : Prop := q70 = q70 ∧ True;
                                          let q72 : Int := q41 + q25;
                                          let q73 : Prop := (True ∧ inK IntKind.i64 q72 ∧ True ∧ True) ∧ True;
                                          let q74 : Prop := q57 = false;
                                          let q75 : List (Int × Int × Int × Unit) := (q50, q51, q66) :: ([] : List tLOp.den);
                                          let q76 : List (Int × Int × Int × Unit) := (q50, q26) :: ([] : List tLOp.den);
                                          let q77 : List (Int × Int × Int × Unit) := q52 :: ([] : List tLOp.den);
                                          let q78 : List (Int × (Int × Int × Int × Unit) × Int × Unit) := Sp.evs q5 (Sp.madeN x.1 x_2);
                                          let q79 : Bool := (↑q78.length : Int) == q5;
                                          x_2 ≤ Sp.nK x.1 → dFact (Ty.int IntKind.i64) q41 ∧ dFact (((Ty.int IntKind.i64).prod ((Ty.int IntKind.i64).prod ((Ty.int IntKind.i64).prod Ty.unit))).slice.slice.prod Ty.unit) q42 ∧ True → ((True ∧ q44 ∧ True ∧ True ∧ True ∧ True ∧ q46 ∧ q46 ∧ True ∧ True) ∧ True) ∧ (q47 = true → ((True ∧ True ∧ q48 ∧ True ∧ q7 ∧ True ∧ inK IntKind.i64 q50 ∧ True ∧ True ∧ q48 ∧ True ∧ q7 ∧ True ∧ q18 ≠ q5 ∧ q1) ∧ True ∧ True) ∧ q19 ∧ (q53 = true → ((True ∧ True ∧ q44 ∧ q54 ∧ True ∧ q7 ∧ True ∧ q21 ≠ q5 ∧ inK IntKind.i64 q56 ∧ True ∧ True) ∧ True ∧ True) ∧ q4 ∧ (q58 → q22 ∧ q59 ∧ (((True ∧ True ∧ True ∧ True ∧ True ∧ True ∧ q62 ∧ True ∧ True ∧ True ∧ (↑(q65 + q67.length) : Int) ≤ maxNew ∧ q68) ∧ q69) ∧ q71) ∧ q73 ∧ ∃ (y : Nat), y ≤ Sp.nK x.1 ∧ Sp.nK x.1 - y < Sp.nK x.1 - x_2 ∧ q72 = (↑(q17 * y + q10) : Int) ∧ ((Sp.madeN x.1 x_2).set q63 (q64 ++ q67), ()) = (Sp.madeN x.1 y, ()) ∧ q33) ∧ (q74 → q59 ∧ (((True ∧ True ∧ True ∧ True ∧ True ∧ True ∧ q62 ∧ True ∧ True ∧ True ∧ (↑(q65 + q75.length) : Int) ≤ maxNew ∧ q68) ∧ q69) ∧ q71) ∧ q73 ∧ ∃ (y : Nat), y ≤ Sp.nK x.1 ∧ Sp.nK x.1 - y < Sp.nK x.1 - x_2 ∧ q72 = (↑(q17 * y + q10) : Int) ∧ ((Sp.madeN x.1 x_2).set q63 (q64 ++ q75), ()) = (Sp.madeN x.1 y, ()) ∧ q33)) ∧ (q53 = false → q4 ∧ (q58 → q22 ∧ q59 ∧ (((True ∧ True ∧ True ∧ True ∧ True ∧ True ∧ q62 ∧ True ∧ True ∧ True ∧ (↑(q65 + q76.length) : Int) ≤ maxNew ∧ q68) ∧ q69) ∧ q71) ∧ q73 ∧ ∃ (y : Nat), y ≤ Sp.nK x.1 ∧ Sp.nK x.1 - y < Sp.nK x.1 - x_2 ∧ q72 = (↑(q17 * y + q10) : Int) ∧ ((Sp.madeN x.1 x_2).set q63 (q64 ++ q76), ()) = (Sp.madeN x.1 y, ()) ∧ q33) ∧ (q74 → q59 ∧ (((True ∧ True ∧ True ∧ True ∧ True ∧ True ∧ q62 ∧ True ∧ True ∧ True ∧ (↑(q65 + q77.length) : Int) ≤ maxNew ∧ q68) ∧ q69) ∧ q71) ∧ q73 ∧ ∃ (y : Nat), y ≤ Sp.nK x.1 ∧ Sp.nK x.1 - y < Sp.nK x.1 - x_2 ∧ q72 = (↑(q17 * y + q10) : Int) ∧ ((Sp.madeN x.1 x_2).set q63 (q64 ++ q77), ()) = (Sp.madeN x.1 y, ()) ∧ q33))) ∧ (q47 = false → ((True ∧ q78.length ≤ (1000 : Nat) ∧ q1) ∧ True) ∧ (q79 = true → ((True ∧ True ∧ True ∧ True ∧ inN q5 q61 ∧ True) ∧ True ∧ True) ∧ q22 ∧ ((Sp.madeN x.1 x_2).set q9 ((q8, q26) :: ([] : List tLOp.den)), ()) = q35) ∧ (q79 = false → q22 ∧ q42 = q35)))) ∧
                (q30 = false →
                  q0 ∧
                    (∃ (x_1 : Nat), (q10 ≤ x_1 ∧ (↑x_1 : Int) ≤ Sp.nC x.1) ∧ q8 = (↑x_1 : Int) ∧ (q12, ()) = (List.replicate x_1 (([] : List tLOp.den)), ()) ∧ q36) ∧
                      ∀ (x_1 : Nat),
                        let q80 : List (List (Int × Int × Int × Unit)) := List.replicate x_1 (([] : List tLOp.den));
                        let q81 : List (List (Int × Int × Int × Unit)) × Unit := (q80, ());
                        let q82 : Bool := decide ((↑x_1 : Int) < q8);
                        let q83 : Int := (↑x_1 : Int) + q8;
                        q10 ≤ x_1 ∧ (↑x_1 : Int) ≤ Sp.nC x.1 →
                          dFact (Ty.int IntKind.i64) (↑x_1 : Int) ∧ dFact (((Ty.int IntKind.i64).prod ((Ty.int IntKind.i64).prod ((Ty.int IntKind.i64).prod Ty.unit))).slice.slice.prod Ty.unit) q81 ∧ True →
                            q4 ∧
                              (q82 = true → (q3 ∧ (↑(q80.length + q12.length) : Int) ≤ maxNew ∧ True ∧ q16 = q16 ∧ True) ∧ ((True ∧ inK IntKind.i64 q83 ∧ True ∧ True) ∧ True) ∧ ∃ (y : Nat), (q10 ≤ y ∧ (↑y : Int) ≤ Sp.nC x.1) ∧ q34 - y < q34 - x_1 ∧ q83 = (↑y : Int) ∧ (q80 ++ q12, ()) = (List.replicate y (([] : List tLOp.den)), ()) ∧ q36) ∧
                                (q82 = false →
                                  q0 ∧
                                    (∃ (x_2 : Nat), x_2 ≤ Sp.nK x.1 ∧ q8 = (↑(q17 * x_2 + q10) : Int) ∧ q81 = (Sp.madeN x.1 x_2, ()) ∧ q36) ∧
                                      ∀ (x_2 : Nat),
                                        let q84 : Int := (↑(q17 * x_2 + q10) : Int);
                                        let q85 : List (List (Int × Int × Int × Unit)) × Unit := (Sp.madeN x.1 x_2, ());
                                        let q86 : Int := q84 + q8;
                                        let q87 : Prop := inK IntKind.i64 q86;
                                        let q88 : Bool := decide (q86 < q29);
                                        let q89 : Prop := (true && bif q88 then true else false) = true → True;
                                        let q90 : Bool := bif q88 then decide (q84 < (13 : Int)) else false;
                                        let q91 : Prop := inN q84 q28;
                                        let q92 : Int := x.1.getD q84.toNat q5;
                                        let q93 : Int := q8 + q92 % q6;
                                        let q94 : Int := (q92 / q6).tmod q18;
                                        let q95 : Int × Int × Int × Unit := (q93, q94, q20);
                                        let q96 : Bool := Sp.writes q95;
                                        let q97 : Prop := inN q86 q28;
                                        let q98 : Int := x.1.getD q86.toNat q5;
                                        let q99 : Int := q8 + (q98 / q6).tmod q21;
                                        let q100 : Bool := q93 == q6;
                                        let q101 : Prop := q100 = true;
                                        let q102 : Prop := (True ∧ True ∧ q87 ∧ q97 ∧ True ∧ True ∧ True ∧ q8 ≠ q5 ∧ True ∧ True) ∧ True;
                                        let q103 : Int := q98.tmod q8;
                                        let q104 : Nat := (Sp.madeN x.1 x_2).length;
                                        let q105 : Prop := inN q103 q104;
                                        let q106 : Nat := q103.toNat;
                                        let q107 : List (Int × Int × Int × Unit) := (Sp.madeN x.1 x_2).getD q106 (([] : List tLOp.den));
                                        let q108 : Nat := q107.length;
                                        let q109 : Int × Unit := (q99, ());
                                        let q110 : List (Int × Int × Int × Unit) := (q93, q5, q109) :: ([] : List tLOp.den);
                                        let q111 : Prop := q105 ∧ True;
                                        let q112 : Prop := True ∧ True ∧ True ∧ True ∧ True ∧ True ∧ True ∧ True ∧ True ∧ True ∧ ((True ∧ q23 ∧ True ∧ True ∧ q23 ∧ True ∧ True ∧ (Step.fst = Step.fst ∧ Step.idx q106 = Step.idx q106 ∧ True) ∧ q3) ∧ q24) ∧ True ∧ True;
                                        let q113 : List Step := List.append._f q15 ⟨List.append._f (([] : List Step)) PUnit.unit, PUnit.unit⟩ (Step.idx q106 :: ([] : List Step));
                                        let q114 : Prop := q113 = q113 ∧ True;
                                        let q115 : Int := q84 + q25;
                                        let q116 : Prop := (True ∧ inK IntKind.i64 q115 ∧ True ∧ True) ∧ True;
                                        let q117 : Prop := q100 = false;
                                        let q118 : List (Int × Int × Int × Unit) := (q93, q94, q109) :: ([] : List tLOp.den);
                                        let q119 : List (Int × Int × Int × Unit) := (q93, q26) :: ([] : List tLOp.den);
                                        let q120 : List (Int × Int × Int × Unit) := q95 :: ([] : List tLOp.den);
                                        let q121 : List (Int × (Int × Int × Int × Unit) × Int × Unit) := Sp.evs q5 (Sp.madeN x.1 x_2);
                                        let q122 : Bool := (↑q121.length : Int) == q5;
                                        x_2 ≤ Sp.nK x.1 → dFact (Ty.int IntKind.i64) q84 ∧ dFact (((Ty.int IntKind.i64).prod ((Ty.int IntKind.i64).prod ((Ty.int IntKind.i64).prod Ty.unit))).slice.slice.prod Ty.unit) q85 ∧ True → ((True ∧ q87 ∧ True ∧ True ∧ True ∧ True ∧ q89 ∧ q89 ∧ True ∧ True) ∧ True) ∧ (q90 = true → ((True ∧ True ∧ q91 ∧ True ∧ q7 ∧ True ∧ inK IntKind.i64 q93 ∧ True ∧ True ∧ q91 ∧ True ∧ q7 ∧ True ∧ q18 ≠ q5 ∧ q1) ∧ True ∧ True) ∧ q19 ∧ (q96 = true → ((True ∧ True ∧ q87 ∧ q97 ∧ True ∧ q7 ∧ True ∧ q21 ≠ q5 ∧ inK IntKind.i64 q99 ∧ True ∧ True) ∧ True ∧ True) ∧ q4 ∧ (q101 → q22 ∧ q102 ∧ (((True ∧ True ∧ True ∧ True ∧ True ∧ True ∧ q105 ∧ True ∧ True ∧ True ∧ (↑(q108 + q110.length) : Int) ≤ maxNew ∧ q111) ∧ q112) ∧ q114) ∧ q116 ∧ ∃ (y : Nat), y ≤ Sp.nK x.1 ∧ Sp.nK x.1 - y < Sp.nK x.1 - x_2 ∧ q115 = (↑(q17 * y + q10) : Int) ∧ ((Sp.madeN x.1 x_2).set q106 (q107 ++ q110), ()) = (Sp.madeN x.1 y, ()) ∧ q36) ∧ (q117 → q102 ∧ (((True ∧ True ∧ True ∧ True ∧ True ∧ True ∧ q105 ∧ True ∧ True ∧ True ∧ (↑(q108 + q118.length) : Int) ≤ maxNew ∧ q111) ∧ q112) ∧ q114) ∧ q116 ∧ ∃ (y : Nat), y ≤ Sp.nK x.1 ∧ Sp.nK x.1 - y < Sp.nK x.1 - x_2 ∧ q115 = (↑(q17 * y + q10) : Int) ∧ ((Sp.madeN x.1 x_2).set q106 (q107 ++ q118), ()) = (Sp.madeN x.1 y, ()) ∧ q36)) ∧ (q96 = false → q4 ∧ (q101 → q22 ∧ q102 ∧ (((True ∧ True ∧ True ∧ True ∧ True ∧ True ∧ q105 ∧ True ∧ True ∧ True ∧ (↑(q108 + q119.length) : Int) ≤ maxNew ∧ q111) ∧ q112) ∧ q114) ∧ q116 ∧ ∃ (y : Nat), y ≤ Sp.nK x.1 ∧ Sp.nK x.1 - y < Sp.nK x.1 - x_2 ∧ q115 = (↑(q17 * y + q10) : Int) ∧ ((Sp.madeN x.1 x_2).set q106 (q107 ++ q119), ()) = (Sp.madeN x.1 y, ()) ∧ q36) ∧ (q117 → q102 ∧ (((True ∧ True ∧ True ∧ True ∧ True ∧ True ∧ q105 ∧ True ∧ True ∧ True ∧ (↑(q108 + q120.length) : Int) ≤ maxNew ∧ q111) ∧ q112) ∧ q114) ∧ q116 ∧ ∃ (y : Nat), y ≤ Sp.nK x.1 ∧ Sp.nK x.1 - y < Sp.nK x.1 - x_2 ∧ q115 = (↑(q17 * y + q10) : Int) ∧ ((Sp.madeN x.1 x_2).set q106 (q107 ++ q120), ()) = (Sp.madeN x.1 y, ()) ∧ q36))) ∧ (q90 = false → ((True ∧ q121.length ≤ (1000 : Nat) ∧ q1) ∧ True) ∧ (q122 = true → ((True ∧ True ∧ True ∧ True ∧ inN q5 q104 ∧ True) ∧ True ∧ True) ∧ q22 ∧ ((Sp.madeN x.1 x_2).set q9 ((q8, q26) :: ([] : List tLOp.den)), ()) = q35) ∧ (q122 = false → q22 ∧ q85 = q35))))) := by kernel_rfl
end Go.User
namespace Go.User
open Go.Lf Go.Proofs

theorem made_step {b : List Int} (hb : ∀ x ∈ b, inK .u8 x) {k : Nat} (hk : k < Sp.nK b) {n : Int} (hn : n = Sp.nC b) (o : Sp.LOp) (ho : o = Sp.opOf b (2 * k + 1)) :
    (inN ((b.getD (2 * k + 2) 0).tmod n) (Sp.madeN b k).length ∧ (((List.length ((Sp.madeN b k).getD ((b.getD (2 * k + 2) 0).tmod n).toNat []) + 1 : Nat)) : Int) ≤ maxNew ∧ inN ((b.getD (2 * k + 2) 0).tmod n) (Sp.madeN b k).length) ∧
      inK .i64 (((2 * k + 1 : Nat) : Int) + 2) ∧ ∃ y : Nat, y ≤ Sp.nK b ∧ Sp.nK b - y < Sp.nK b - k ∧ ((2 * k + 1 : Nat) : Int) + 2 = ((2 * y + 1 : Nat) : Int) ∧
        ((Sp.madeN b k).set ((b.getD (2 * k + 2) 0).tmod n).toNat ((Sp.madeN b k).getD ((b.getD (2 * k + 2) 0).tmod n).toNat [] ++ [o]), ()) = (Sp.madeN b y, ()) := by
  subst hn; subst ho
  have hc := Sp.cOf hb (2 * k + 2)
  have hl := Sp.madeN_len b k
  have hK : Sp.nK b ≤ 6 := by unfold Sp.nK; omega
  have he := Sp.madeN_evs hb k
  have hg := Sp.evs_get (Sp.madeN b k) ((b.getD (2 * k + 2) 0).tmod (Sp.nC b)).toNat 0
  refine ⟨⟨⟨hc.1, by omega⟩, by rw [maxNew_eq]; omega, ⟨hc.1, by omega⟩⟩, inK_of (by omega) (by omega), k + 1, by omega, by omega, by omega, rfl⟩

theorem ok11 : FOk Try.prog 11 S11 := by
  have hC : CtxOK Try.prog C11 := ctx_ok rfl rfl (fns_cons ok32 (fns_cons ok33 fns_nil)) ptrs_nil
  refine FOk.intro hC (stpP_ok hC) Try.call11 Try.func11 (by kernel_rfl) (by kernel_rfl) L11 (vc11.mpr ?_)
  simp only [z1, z2, z3, z4, z5, z6, z7, z8, z9, z10, z11, z12, z13, z14, z15, z16, z17, z18, z19, z20, z21, z22, z23, z24, z25, z26, z27, z28, z29, z30, z31, z32, z33, z34, z35, z36, z37, z38, dFact]
  intro x hx
  obtain ⟨hlim, hb⟩ := hx
  have hnr := Sp.nC_range x.1
  have hK : Sp.nK x.1 ≤ 6 := by unfold Sp.nK; omega
  have hB := fun i => Sp.byte_at hb i
  have htoNat : ∀ k : Nat, (((2 * k + 1 : Nat) : Int) + 1).toNat = 2 * k + 2 := fun k => by omega
  have hend : ∀ k : Nat, k ≤ Sp.nK x.1 → (decide (((2 * k + 1 : Nat) : Int) + 1 < (x.1.length : Int)) && decide (((2 * k + 1 : Nat) : Int) < 13)) = false → k = Sp.nK x.1 := by
    intro k hk h
    unfold Sp.nK at hk ⊢
    rw [Bool.and_eq_false_iff, decide_eq_false_iff_not, decide_eq_false_iff_not] at h
    omega
  have hlast : ∀ k : Nat, k = Sp.nK x.1 → (Sp.evs 0 (Sp.madeN x.1 k)).length ≤ 1000 ∧ (((Sp.evs 0 (Sp.madeN x.1 k)).length : Int) = 0 → inN 0 (Sp.madeN x.1 k).length ∧ ((Sp.madeN x.1 k).set (Int.toNat 0) [(1, 0, 0, ())], ()) = (Sp.madeP x.1, ())) ∧
      (¬ ((Sp.evs 0 (Sp.madeN x.1 k)).length : Int) = 0 → (Sp.madeN x.1 k, ()) = (Sp.madeP x.1, ())) := by
    rintro k rfl
    have he := Sp.madeN_evs hb (Sp.nK x.1)
    have hl := Sp.madeN_len x.1 (Sp.nK x.1)
    refine ⟨by omega, fun h => ⟨⟨by omega, by omega⟩, ?_⟩, fun h => ?_⟩
    · unfold Sp.madeP; rw [if_pos (by omega)]; rfl
    · unfold Sp.madeP; rw [if_neg (by omega)]
  refine ⟨fun hlen => ?_, fun hlen => ?_⟩
  · have hn : 1 + x.1.getD (Int.toNat 0) 0 % 4 = Sp.nC x.1 := by
      unfold Sp.nC; rw [if_pos (by omega)]; rfl
    rw [hn]
    refine ⟨⟨⟨by omega, hlen⟩, by decide, inK_of (by omega) (by omega)⟩, ⟨1, ⟨by omega, hnr.1⟩, rfl, rfl⟩, ?_⟩
    intro i hi _
    refine ⟨fun hlt => ⟨by rw [List.length_replicate, maxNew_eq]; omega, inK_of (by omega) (by omega), i + 1, ⟨by omega, by omega⟩, by omega, rfl, by rw [List.replicate_succ']⟩, fun hge => ⟨⟨0, Nat.zero_le _, rfl, ?_⟩, ?_⟩⟩
    · show (List.replicate i [], ()) = (List.replicate (Sp.nC x.1).toNat [], ())
      rw [show i = (Sp.nC x.1).toNat from by omega]
    · intro k hk _
      refine ⟨inK_of (by omega) (by omega), fun hc => ?_, fun h => hlast k (hend k hk h)⟩
      have hkk : k < Sp.nK x.1 := by unfold Sp.nK at hk ⊢; omega
      have b1 := hB (2 * k + 1)
      have b2 := hB (2 * k + 2)
      have hin : inN (((2 * k + 1 : Nat)) : Int) x.1.length := ⟨by omega, by omega⟩
      have hin2 : inN (((2 * k + 1 : Nat) : Int) + 1) x.1.length := ⟨by omega, by omega⟩
      have hk1 : inK .i64 (((2 * k + 1 : Nat) : Int) + 1) := inK_of (by omega) (by omega)
      have hne : ¬ Sp.nC x.1 = 0 := by omega
      rw [htoNat k]
      have t9 := Int.tmod_nonneg 9 (show 0 ≤ x.1.getD (2 * k + 2) 0 / 4 by omega)
      have t9' := Int.tmod_lt_of_pos (x.1.getD (2 * k + 2) 0 / 4) (show (0 : Int) < 9 by omega)
      refine ⟨⟨hin, by decide, inK_of (by omega) (by omega), hin, by decide, by decide⟩, fun hw => ⟨⟨hk1, hin2, by decide, by decide, inK_of (by omega) (by omega)⟩, fun h4 => ?_, fun h4 => ⟨⟨hk1, hin2, hne⟩, made_step hb hkk rfl _ ?_⟩⟩, fun hw => ⟨fun h4 => ⟨⟨hk1, hin2, hne⟩, made_step hb hkk rfl _ ?_⟩, fun h4 => ⟨⟨hk1, hin2, hne⟩, made_step hb hkk rfl _ ?_⟩⟩⟩
      · unfold Sp.writes at hw
        rw [h4] at hw; cases hw
      · have hw' : (1 + x.1.getD (2 * k + 1) 0 % 4) = 2 ∨ (1 + x.1.getD (2 * k + 1) 0 % 4) = 3 := by
          unfold Sp.writes at hw
          simpa using hw
        unfold Sp.opOf
        rw [if_neg h4, if_pos hw']
      · have hw' : ¬ ((1 + x.1.getD (2 * k + 1) 0 % 4) = 2 ∨ (1 + x.1.getD (2 * k + 1) 0 % 4) = 3) := by omega
        unfold Sp.opOf
        rw [if_pos h4, if_neg hw']
      · have hw' : ¬ ((1 + x.1.getD (2 * k + 1) 0 % 4) = 2 ∨ (1 + x.1.getD (2 * k + 1) 0 % 4) = 3) := by
          unfold Sp.writes at hw
          simpa using hw
        unfold Sp.opOf
        rw [if_neg h4, if_neg hw']
  · have hn : Sp.nC x.1 = 1 := by unfold Sp.nC; rw [if_neg (by omega)]
    refine ⟨⟨1, ⟨by omega, by omega⟩, rfl, rfl⟩, ?_⟩
    intro i hi _
    refine ⟨fun hlt => by omega, fun hge => ⟨⟨0, Nat.zero_le _, rfl, ?_⟩, ?_⟩⟩
    · show (List.replicate i [], ()) = (List.replicate (Sp.nC x.1).toNat [], ())
      rw [show i = (Sp.nC x.1).toNat from by omega]
    · intro k hk _
      refine ⟨inK_of (by omega) (by omega), fun hc => ?_, fun h => hlast k (hend k hk h)⟩
      omega

theorem gr_eta : ∀ g : Sp.Gr, (g.1, g.2.1, g.2.2.1, g.2.2.2.1, ()) = g
  | (_, _, _, _, ()) => rfl
theorem graph_eta (t : Sp.Lit) (b : List Int) : (Sp.gE t b, Sp.gF t b, Sp.gM t b, Sp.gO t b, ()) = Sp.graph t b := by
  unfold Sp.gE Sp.gF Sp.gM Sp.gO
  exact gr_eta _
theorem s12c : S12c = S12 :=
  congrArg (fun f => ({ args := [.val tLit, .val (.slice (.int .u8))], multi := false, res := tGr, mode := mGr, pre := fun x => fine x.1, fn := f } : FSpec)) (funext fun x => graph_eta x.1 x.2.1)
theorem ok12c : FOk Try.prog 12 S12c := by rw [s12c]; exact ok12

end Go.User
namespace Sp
theorem usual_iff (o : LOp) : usual o = true ↔ (o.1 = 4 ∧ o.2.1 = 0 ∧ o.2.2.1 = 0) ∨ (o.1 = 1 ∧ 0 ≤ o.2.1 ∧ o.2.1 < 3 ∧ o.2.2.1 = 0) ∨ ((o.1 = 2 ∨ o.1 = 3) ∧ 0 ≤ o.2.1 ∧ o.2.1 < 3 ∧ -100 ≤ o.2.2.1 ∧ o.2.2.1 ≤ 100) := by
  unfold usual
  split
  · simp only [Bool.and_eq_true, decide_eq_true_eq]; omega
  · split
    · simp only [Bool.and_eq_true, decide_eq_true_eq]; omega
    · split
      · simp only [Bool.and_eq_true, decide_eq_true_eq]; omega
      · constructor
        · intro h; cases h
        · intro h; omega
theorem valid_iff (t : Lit) : valid t = true ↔ 1 ≤ t.1.length ∧ t.1.length ≤ 4 ∧ 1 ≤ (evs 0 t.1).length ∧ (evs 0 t.1).length ≤ 6 ∧ ∀ x ∈ evs 0 t.1, usual x.2.1 = true := by
  unfold valid
  simp only [Bool.and_eq_true, decide_eq_true_eq, List.all_eq_true]
  exact ⟨fun ⟨⟨⟨⟨a, b⟩, c⟩, d⟩, e⟩ => ⟨a, b, c, d, e⟩, fun ⟨a, b, c, d, e⟩ => ⟨⟨⟨⟨a, b⟩, c⟩, d⟩, e⟩⟩
theorem false_of {b : Bool} (h : ¬ b = true) : false = b := by cases b <;> simp_all
theorem true_of {b : Bool} (h : b = true) : true = b := h.symm
theorem has_evs {o : LOp} : ∀ (P : List (List LOp)) (c : Int) (l : List LOp), l ∈ P → o ∈ l → ∃ x ∈ evs c P, x.2.1 = o
  | [], c, l, h, _ => by cases h
  | m :: P, c, l, h, ho => by
    simp only [evs, List.mem_append, List.mem_map]
    rcases List.mem_cons.1 h with rfl | h
    · exact ⟨mkEv c o, .inl ⟨o, ho, rfl⟩, rfl⟩
    · obtain ⟨x, h1, h2⟩ := has_evs P (c + 1) l h ho
      exact ⟨x, .inr h1, h2⟩
end Sp
namespace Go.User
open Go.Lf Go.Proofs

theorem ok59 : FOk Try.prog 59 S59 := by
  have hC : CtxOK Try.prog C59 := ctx_ok rfl rfl (fns_cons ok32 fns_nil) ptrs_nil
  refine FOk.intro hC (stpP_ok hC) Try.call59 Try.func59 (by kernel_rfl) (by kernel_rfl) L59 (vc59.mpr ?_)
  simp only [z1, z2, z3, z4, z5, z6, z7, z8, z9, z10, z11, z12, z13, z14, z15, z16, z17, z18, z19, z20, z21, z22, z23, z24, z25, z26, z27, z28, z29, z30, z31, z32, z33, z34, z35, z36, z37, z38]
  intro x hx
  refine ⟨fun h => Sp.false_of fun h' => ?_, fun h => ⟨fun h2 => Sp.false_of fun h' => ?_, fun h2 => ?_⟩⟩
  · rw [Sp.usual_iff] at h'
    simp only [Bool.or_eq_true, decide_eq_true_eq] at h
    omega
  · rw [Sp.usual_iff] at h'
    omega
  · refine Bool.eq_iff_iff.2 ?_
    rw [Sp.usual_iff]
    unfold Sp.writes
    simp only [Bool.or_eq_true, decide_eq_true_eq, beq_iff_eq, Bool.and_eq_false_iff, beq_eq_false_iff_ne, bne_eq_false_iff_eq] at h2 ⊢
    omega

theorem ok20 : FOk Try.prog 20 S20 := by
  have hC : CtxOK Try.prog C20 := ctx_ok rfl rfl (fns_cons ok59 fns_nil) ptrs_nil
  refine FOk.intro hC (stpP_ok hC) Try.call20 Try.func20 (by kernel_rfl) (by kernel_rfl) L20 (vc20.mpr ?_)
  simp only [z1, z2, z3, z4, z5, z6, z7, z8, z9, z10, z11, z12, z13, z14, z15, z16, z17, z18, z19, z20, z21, z22, z23, z24, z25, z26, z27, z28, z29, z30, z31, z32, z33, z34, z35, z36, z37, z38]
  intro x hx
  refine ⟨fun h => Sp.false_of fun h' => ?_, fun h => ⟨⟨0, ⟨Nat.zero_le _, fun l hl => by simp at hl, by omega, by omega⟩, rfl, rfl⟩, ?_⟩⟩
  · rw [Sp.valid_iff] at h'
    simp only [Bool.or_eq_true, decide_eq_true_eq] at h
    omega
  intro i hi _
  obtain ⟨hi, hall, h1, h4⟩ := hi
  have hst : ∀ c ≤ x.1.1.length, (∀ l ∈ x.1.1.take c, l.length ≤ 6) → (Sp.evs 0 (x.1.1.take c)).length ≤ 6 * c := by
    intro c
    induction c with
    | zero => intro _ _; simp [Sp.evs]
    | succ c ih =>
      intro hc h
      have ht : x.1.1.take (c + 1) = x.1.1.take c ++ [x.1.1.getD c []] := by rw [List.take_succ_eq_append_getElem (by omega), Sp.getD_lt (by omega)]
      have h2 := ih (by omega) (fun l hl => h l (by rw [ht]; exact List.mem_append_left _ hl))
      have h3 := h (x.1.1.getD c []) (by rw [ht]; exact List.mem_append_right _ (List.mem_singleton.2 rfl))
      have h5 := Sp.evs_succ (p := x.1.1) (i := c) (by omega)
      rw [h5, List.length_append, List.length_map]
      omega
  have hsti := hst i hi (fun l hl => (hall l hl).1)
  refine ⟨fun hlt => ?_, fun hge => ?_⟩
  · have hlt' : i < x.1.1.length := by omega
    have hmem : x.1.1.getD i [] ∈ x.1.1 := by rw [Sp.getD_lt hlt']; exact List.getElem_mem _
    refine ⟨inN_of hlt, fun h6 => Sp.false_of fun h' => ?_, fun h6 => ⟨⟨0, ⟨hlt', Nat.zero_le _, by omega, fun o ho => by simp at ho⟩, rfl, by omega⟩, ?_⟩⟩
    · rw [Sp.valid_iff] at h'
      have := Sp.evs_get x.1.1 i 0
      omega
    intro k hk _
    obtain ⟨_, hkl, hk6, hku⟩ := hk
    refine ⟨inN_of hlt, fun hkk => ⟨inK_of (by omega) (by omega), ⟨inN_of hlt, inN_of hkk⟩, fun hu => Sp.false_of fun h' => ?_, fun hu => ⟨inK_of (by omega) (by omega), k + 1, ⟨hlt', by omega, hk6, fun o ho => ?_⟩, by omega, by omega, by omega⟩⟩, fun hkk => ⟨inK_of (by omega) (by omega), i + 1, ⟨by omega, fun l hl => ?_, h1, h4⟩, by omega, by omega, ?_⟩⟩
    · rw [Sp.valid_iff] at h'
      obtain ⟨y, hy, he⟩ := Sp.has_evs (o := (x.1.1.getD i []).getD k (0, 0, 0, ())) x.1.1 0 _ hmem (by rw [Sp.getD_lt (l := x.1.1.getD i []) (by omega)]; exact List.getElem_mem _)
      have := h'.2.2.2.2 y hy
      rw [he, hu] at this
      cases this
    · rw [List.take_succ_eq_append_getElem (by omega), List.mem_append, List.mem_singleton] at ho
      rcases ho with ho | rfl
      · exact hku o ho
      · rw [Sp.getD_lt (by omega)] at hu; exact hu
    · rw [List.take_succ_eq_append_getElem hlt', List.mem_append, List.mem_singleton] at hl
      rcases hl with hl | rfl
      · exact hall l hl
      · rw [Sp.getD_lt hlt'] at hk6 hku hkl hkk
        refine ⟨hk6, fun o ho => hku o ?_⟩
        rw [List.take_of_length_le (by omega)]; exact ho
    · rw [Sp.evs_succ hlt', List.length_append, List.length_map]; omega
  · have hie : i = x.1.1.length := by omega
    subst hie
    rw [List.take_length] at hall ⊢
    refine Bool.eq_iff_iff.2 ?_
    rw [Sp.valid_iff]
    simp only [Bool.and_eq_true, decide_eq_true_eq]
    constructor
    · rintro ⟨a, b⟩
      refine ⟨h1, h4, by omega, by omega, fun y hy => ?_⟩
      obtain ⟨l, hl, ho⟩ := Sp.mem_evs _ _ y hy
      exact (hall l hl).2 _ ho
    · rintro ⟨_, _, a, b, _⟩
      exact ⟨by omega, by omega⟩

theorem ok48 : FOk Try.prog 48 S48 := by
  have hC : CtxOK Try.prog C48 := ctx_ok rfl rfl (fns_cons ok39 fns_nil) ptrs_nil
  refine FOk.intro hC (stpP_ok hC) Try.call48 Try.func48 (by kernel_rfl) (by kernel_rfl) L48 (vc48.mpr ?_)
  simp only [z1, z2, z3, z4, z5, z6, z7, z8, z9, z10, z11, z12, z13, z14, z15, z16, z17, z18, z19, z20, z21, z22, z23, z24, z25, z26, z27, z28, z29, z30, z31, z32, z33, z34, z35, z36, z37, z38]
  intro x hx
  have hL : Sp.listsB x.1 x.2.1 = true ↔ x.1.length = x.2.1.length ∧ ∀ w ∈ x.2.1, w ∈ x.1 := by
    unfold Sp.listsB
    simp only [Bool.and_eq_true, decide_eq_true_eq, List.all_eq_true]
  have hlim := hx.2.1
  rw [lim_eq] at hlim
  refine ⟨fun h => Sp.false_of fun h' => ?_, fun h => ⟨⟨0, ⟨Nat.zero_le _, by omega, fun w hw => by simp at hw⟩, rfl⟩, ?_⟩⟩
  · have := (hL.1 h').1; omega
  intro i hi _
  obtain ⟨hi, hl, hall⟩ := hi
  refine ⟨fun hlt => ?_, fun hge => ?_⟩
  · have hlt' : i < x.2.1.length := by omega
    refine ⟨inN_of hlt, fun hn => Sp.false_of fun h' => ?_, fun hn => ⟨inK_of (by omega) (by omega), i + 1, ⟨by omega, hl, fun w hw => ?_⟩, by omega, by omega⟩⟩
    · have hm := (hL.1 h').2 (x.2.1.getD i 0) (by rw [Sp.getD_lt hlt']; exact List.getElem_mem _)
      have := (Sp.idx_mem hm).1
      omega
    · rw [List.take_succ_eq_append_getElem hlt', List.mem_append, List.mem_singleton] at hw
      rcases hw with hw | rfl
      · exact hall w hw
      · rw [Sp.getD_lt hlt'] at hn
        refine Classical.byContradiction fun hm => ?_
        rw [← Sp.idx_none hm] at hn
        omega
  · have hie : i = x.2.1.length := by omega
    subst hie
    rw [List.take_length] at hall
    exact Sp.true_of (hL.2 ⟨hl, hall⟩)

theorem ok49 : FOk Try.prog 49 S49 := by
  have hC : CtxOK Try.prog C49 := ctx_ok rfl rfl (fns_cons ok37 (fns_cons ok32 fns_nil)) ptrs_nil
  refine FOk.intro hC (stpP_ok hC) Try.call49 Try.func49 (by kernel_rfl) (by kernel_rfl) L49 (vc49.mpr ?_)
  simp only [z1, z2, z3, z4, z5, z6, z7, z8, z9, z10, z11, z12, z13, z14, z15, z16, z17, z18, z19, z20, z21, z22, z23, z24, z25, z26, z27, z28, z29, z30, z31, z32, z33, z34, z35, z36, z37, z38]
  intro x hp hx
  have hb : ∀ a b : Bool, (bif a then b else false) = (a && b) := fun a b => by cases a <;> rfl
  refine ⟨fun h => Sp.true_of ?_, fun h => ⟨⟨hp, fun h1 => ⟨h1.1.2, h1.2⟩, fun h1 => ?_, fun h1 => hp⟩, ?_⟩⟩
  · unfold Sp.srcB
    rw [decide_eq_true h]; rfl
  · exact ⟨h1.1.1.2, h1.1.2⟩
  · refine Bool.eq_iff_iff.2 ?_
    unfold Sp.srcB Sp.ev
    simp only [hb, Bool.and_eq_true, Bool.or_eq_true, Bool.and_true, decide_eq_true_eq, beq_iff_eq]
    constructor
    · intro h1; exact .inr h1
    · rintro (h1 | h1)
      · exact absurd h1 h
      · exact h1

theorem ok55 : FOk Try.prog 55 S55 := by
  have hC : CtxOK Try.prog C55 := ctx_ok rfl rfl (fns_cons ok39 fns_nil) ptrs_nil
  refine FOk.intro hC (stpP_ok hC) Try.call55 Try.func55 (by kernel_rfl) (by kernel_rfl) L55 (vc55.mpr ?_)
  simp only [z1, z2, z3, z4, z5, z6, z7, z8, z9, z10, z11, z12, z13, z14, z15, z16, z17, z18, z19, z20, z21, z22, z23, z24, z25, z26, z27, z28, z29, z30, z31, z32, z33, z34, z35, z36, z37, z38]
  intro x hp hx
  refine ⟨hp, fun h => Sp.true_of ?_, fun h => ?_⟩
  · unfold Sp.rord Sp.ev
    rw [decide_eq_true h.2]
    have h1 := h.1
    simp only [Bool.or_eq_true, Bool.and_eq_true, decide_eq_true_eq]
    exact .inl ⟨h1, trivial⟩
  · refine Bool.eq_iff_iff.2 ?_
    unfold Sp.rord Sp.ev
    simp only [Bool.or_eq_true, Bool.and_eq_true, decide_eq_true_eq, Bool.and_eq_false_iff, beq_eq_false_iff_ne, decide_eq_false_iff_not] at h ⊢
    constructor
    · intro h1; exact .inr h1
    · rintro (h1 | h1)
      · exfalso
        rcases h with h | h
        · exact h h1.1
        · exact h h1.2
      · exact h1

theorem ok57 : FOk Try.prog 57 S57 := by
  have hC : CtxOK Try.prog C57 := ctx_ok rfl rfl (fns_cons ok39 fns_nil) ptrs_nil
  refine FOk.intro hC (stpP_ok hC) Try.call57 Try.func57 (by kernel_rfl) (by kernel_rfl) L57 (vc57.mpr ?_)
  simp only [z1, z2, z3, z4, z5, z6, z7, z8, z9, z10, z11, z12, z13, z14, z15, z16, z17, z18, z19, z20, z21, z22, z23, z24, z25, z26, z27, z28, z29, z30, z31, z32, z33, z34, z35, z36, z37, z38]
  intro x hp hx
  refine ⟨⟨hp.1, hp.2.2⟩, fun h => ⟨hp.2.1, ?_⟩, fun h => ?_⟩
  · rw [h]; rfl
  · rw [h]; rfl
end Go.User
namespace Go.User
open Go.Lf Go.Proofs

theorem ok58 : FOk Try.prog 58 S58 := by
  have hC : CtxOK Try.prog C58 := ctx_ok rfl rfl (fns_cons ok32 (fns_cons ok37 (fns_cons ok57 fns_nil))) ptrs_nil
  refine FOk.intro hC (stpP_ok hC) Try.call58 Try.func58 (by kernel_rfl) (by kernel_rfl) L58 (vc58.mpr ?_)
  simp only [z1, z2, z3, z4, z5, z6, z7, z8, z9, z10, z11, z12, z13, z14, z15, z16, z17, z18, z19, z20, z21, z22, z23, z24, z25, z26, z27, z28, z29, z30, z31, z32, z33, z34, z35, z36, z37, z38]
  intro x hp hx
  obtain ⟨hA, hB⟩ := hp
  have hrc : Sp.rcoh x.1 x.2.1 x.2.2.1 = (!(Sp.writes (Sp.ev x.1.1 x.2.1).2.1 && Sp.writes (Sp.ev x.1.1 x.2.2.1).2.1 && decide (Sp.idx (x.1.2.2.1.getD (Sp.ev x.1.1 x.2.2.1).2.1.2.1.toNat []) x.2.2.1 ≤ Sp.idx (x.1.2.2.1.getD (Sp.ev x.1.1 x.2.1).2.1.2.1.toNat []) x.2.1)) &&
      !(Sp.writes (Sp.ev x.1.1 x.2.1).2.1 && Sp.reads (Sp.ev x.1.1 x.2.2.1).2.1 && decide (Sp.idx (x.1.2.2.1.getD (Sp.ev x.1.1 x.2.2.1).2.1.2.1.toNat []) (x.1.2.1.getD x.2.2.1.toNat 0) < Sp.idx (x.1.2.2.1.getD (Sp.ev x.1.1 x.2.1).2.1.2.1.toNat []) x.2.1)) &&
      !(Sp.reads (Sp.ev x.1.1 x.2.1).2.1 && Sp.writes (Sp.ev x.1.1 x.2.2.1).2.1 && decide (Sp.idx (x.1.2.2.1.getD (Sp.ev x.1.1 x.2.2.1).2.1.2.1.toNat []) x.2.2.1 ≤ Sp.idx (x.1.2.2.1.getD (Sp.ev x.1.1 x.2.1).2.1.2.1.toNat []) (x.1.2.1.getD x.2.1.toNat 0))) &&
      (!Sp.reads (Sp.ev x.1.1 x.2.1).2.1 || !Sp.reads (Sp.ev x.1.1 x.2.2.1).2.1 || decide (Sp.idx (x.1.2.2.1.getD (Sp.ev x.1.1 x.2.1).2.1.2.1.toNat []) (x.1.2.1.getD x.2.1.toNat 0) ≤ Sp.idx (x.1.2.2.1.getD (Sp.ev x.1.1 x.2.2.1).2.1.2.1.toNat []) (x.1.2.1.getD x.2.2.1.toNat 0)))) := rfl
  have hev1 : x.1.1.getD x.2.1.toNat (0, (0, 0, 0, ()), 0, ()) = Sp.ev x.1.1 x.2.1 := rfl
  have hev2 : x.1.1.getD x.2.2.1.toNat (0, (0, 0, 0, ()), 0, ()) = Sp.ev x.1.1 x.2.2.1 := rfl
  rw [hev1, hev2, hrc]
  clear hrc hev1 hev2 hx
  generalize Sp.idx (x.1.2.2.1.getD (Sp.ev x.1.1 x.2.2.1).2.1.2.1.toNat []) x.2.2.1 = wb
  generalize Sp.idx (x.1.2.2.1.getD (Sp.ev x.1.1 x.2.1).2.1.2.1.toNat []) x.2.1 = wa
  generalize Sp.idx (x.1.2.2.1.getD (Sp.ev x.1.1 x.2.2.1).2.1.2.1.toNat []) (x.1.2.1.getD x.2.2.1.toNat 0) = rb
  generalize Sp.idx (x.1.2.2.1.getD (Sp.ev x.1.1 x.2.1).2.1.2.1.toNat []) (x.1.2.1.getD x.2.1.toNat 0) = ra
  generalize Sp.writes (Sp.ev x.1.1 x.2.1).2.1 = a1
  generalize Sp.writes (Sp.ev x.1.1 x.2.2.1).2.1 = b1
  generalize Sp.reads (Sp.ev x.1.1 x.2.1).2.1 = a2
  generalize Sp.reads (Sp.ev x.1.1 x.2.2.1).2.1 = b2
  refine ⟨hA.1, hB.1, ⟨fun _ => hA, fun _ => hB⟩, fun h => ?_, fun h1 => ⟨⟨fun _ => hA, fun _ => hB⟩, fun h => ?_, fun h2 => ⟨⟨fun _ => hA, fun _ => hB⟩, fun h => ?_, fun h3 => ⟨⟨fun _ => hA, fun _ => hB⟩, ?_⟩⟩⟩⟩
  all_goals cases a1 <;> cases b1 <;> cases a2 <;> cases b2 <;> simp_all

theorem ok56 : FOk Try.prog 56 S56 := by
  have hC : CtxOK Try.prog C56 := ctx_ok rfl rfl fns_nil ptrs_nil
  refine FOk.intro hC (stpP_ok hC) Try.call56 Try.func56 (by kernel_rfl) (by kernel_rfl) L56 (vc56.mpr ?_)
  simp only [z1, z2, z3, z4, z5, z6, z7, z8, z9, z10, z11, z12, z13, z14, z15, z16, z17, z18, z19, z20, z21, z22, z23, z24, z25, z26, z27, z28, z29, z30, z31, z32, z33, z34, z35, z36, z37, z38]
  intro x hp hx
  obtain ⟨h0, h6, hl⟩ := hp
  have hn : (x.1 : Int) = ((x.1.toNat : Nat) : Int) := (Int.toNat_of_nonneg h0).symm
  clear hx
  generalize x.2.1 = r at *
  generalize hN : x.1.toNat = n at *
  rw [hn] at h6 ⊢
  have hn6 : n ≤ 6 := by omega
  have hnn : n * n ≤ 6 * 6 := Nat.mul_le_mul hn6 hn6
  have hix : ∀ a b : Nat, (a : Int) * (n : Int) + (b : Int) = ((a * n + b : Nat) : Int) := fun a b => by rw [Int.natCast_add, Int.natCast_mul]
  have hmul : ∀ a : Nat, a < n → inK .i64 ((a : Int) * (n : Int)) := fun a ha => by
    have := Sp.ix_lt (n := n) ha (show 0 < n by omega)
    have e := hix a 0
    simp only [Int.natCast_zero, Int.add_zero, Nat.add_zero] at e
    rw [e]; exact inK_of (by omega) (by omega)
  simp only [hix, Int.toNat_natCast]
  refine ⟨by rw [maxNew_eq]; omega, ⟨0, Nat.zero_le _, rfl, rfl⟩, ?_⟩
  intro k hk _
  refine ⟨fun hlt => ⟨⟨0, Nat.zero_le _, rfl, rfl⟩, ?_⟩, fun hge => by rw [show k = n from by omega]⟩
  intro a ha _
  refine ⟨fun hlt2 => ⟨⟨0, Nat.zero_le _, rfl, rfl⟩, ?_⟩, fun hge2 => ⟨inK_of (by omega) (by omega), k + 1, by omega, by omega, by omega, by rw [show a = n from by omega, Sp.closC_succ]⟩⟩
  intro b hb _
  have hlen : (Sp.rowC n k a (Sp.rowsC n k (Sp.closC n r k) a) b).length = n * n := by rw [Sp.rowC_len, Sp.rowsC_len, Sp.closC_len]; exact hl
  refine ⟨fun hlt3 => ?_, fun hge3 => ⟨inK_of (by omega) (by omega), a + 1, by omega, by omega, by omega, by rw [show b = n from by omega, Sp.rowsC_succ]⟩⟩
  have hk' : k < n := by omega
  have ha' : a < n := by omega
  have hb' : b < n := by omega
  have i1 := Sp.ix_lt ha' hk'
  have i2 := Sp.ix_lt hk' hb'
  have i3 := Sp.ix_lt ha' hb'
  rw [hlen]
  refine ⟨⟨hmul a ha', inK_of (by omega) (by omega), ⟨by omega, by omega⟩, fun _ => hmul k hk', fun _ => inK_of (by omega) (by omega), fun _ => ⟨by omega, by omega⟩⟩, fun hc => ⟨⟨hmul a ha', inK_of (by omega) (by omega), ⟨by omega, by omega⟩⟩, inK_of (by omega) (by omega), b + 1, by omega, by omega, by omega, ?_⟩, fun hc => ⟨inK_of (by omega) (by omega), b + 1, by omega, by omega, by omega, ?_⟩⟩
  · rw [Sp.rowC_succ]
    unfold Sp.stepC Sp.g1
    rw [if_pos hc]
  · rw [Sp.rowC_succ]
    unfold Sp.stepC Sp.g1
    rw [if_neg]
    intro h
    rw [h.1, h.2] at hc
    cases hc

theorem ok17 : FOk Try.prog 17 S17 := by
  have hC : CtxOK Try.prog C17 := ctx_ok rfl rfl (fns_cons ok20 (fns_cons ok33 (fns_cons ok36 (fns_cons ok48 (fns_cons ok34 (fns_cons ok49 (fns_cons ok37 (fns_cons ok40 fns_nil)))))))) ptrs_nil
  refine FOk.intro hC (stpP_ok hC) Try.call17 Try.func17 (by kernel_rfl) (by kernel_rfl) L17 (vc17.mpr ?_)
  simp only [z1, z2, z3, z4, z5, z6, z7, z8, z9, z10, z11, z12, z13, z14, z15, z16, z17, z18, z19, z20, z21, z22, z23, z24, z25, z26, z27, z28, z29, z30, z31, z32, z33, z34, z35, z36, z37, z38]
  intro x h1000 hx
  have hR := Sp.right_iff x.1 x.2.1
  have hno : ∀ {p : Prop}, (Sp.RightP x.1 x.2.1 → p) → ¬ p → false = Sp.right x.1 x.2.1 := fun h1 h2 => Sp.false_of fun h => h2 (h1 (hR.1 h))
  refine ⟨fun h => hno (fun h => h.valid) (by rw [h]; decide), fun hv => ⟨h1000, fun _ => h1000, fun h => ?_, fun h => ⟨⟨0, ⟨by omega, fun p hp => by omega⟩, rfl⟩, ?_⟩⟩⟩
  · refine Sp.false_of fun h' => ?_
    have hr := hR.1 h'
    have e1 := hr.lenE
    have e2 := hr.lenF
    have e3 := hr.lenM
    have e4 := hr.fo
    rw [← Sp.lists_fen] at e4
    rw [e4] at h
    simp only [Bool.or_eq_true, bne_iff_ne, ne_eq, Bool.not_true, Bool.or_false] at h
    rcases h with (h | h) | h
    · exact h (by rw [e1])
    · exact h (by rw [e2])
    · exact h (by rw [e3]; rfl)
  obtain ⟨⟨⟨hE, hF⟩, hM⟩, hfo⟩ := h
  rw [Sp.lists_fen] at hfo
  intro q hq _
  obtain ⟨hq, hqs⟩ := hq
  refine ⟨fun hlt => ⟨⟨⟨by omega, by omega⟩, h1000⟩, fun h => hno (fun hr => (Sp.lists_wr _ _ q).trans (hr.mo q (by omega))) (by rw [h]; decide), fun h => ⟨inK_of (by omega) (by omega), q + 1, ⟨by omega, fun p hp => ?_⟩, by omega, by omega⟩⟩, fun hge => ⟨⟨0, ⟨Nat.zero_le _, fun j hj => by omega⟩, rfl⟩, ?_⟩⟩
  · rcases Nat.lt_or_ge p q with h' | h'
    · exact hqs p h'
    · rw [show p = q from by omega]; exact h
  have hmo : ∀ p < 3, Sp.isList (x.2.1.2.2.1.getD p []) (Sp.evs 0 x.1.1) (fun o => Sp.writes o && decide (o.2.1 = (p : Int))) = true := fun p hp => by rw [← Sp.lists_wr]; exact hqs p (by omega)
  intro i hi _
  obtain ⟨hi, his⟩ := hi
  have hev : ∀ (e : List Sp.LEv) (n : Nat), e.getD n (0, (0, 0, 0, ()), 0, ()) = Sp.ev e (n : Int) := fun e n => rfl
  simp only [hev]
  have heq : ∀ a b : Sp.LOp, (a.1 = b.1 ∧ a.2.1 = b.2.1 ∧ a.2.2.1 = b.2.2.1) ↔ a = b := fun a b => by
    obtain ⟨a1, a2, a3, a4⟩ := a
    obtain ⟨b1, b2, b3, b4⟩ := b
    simp
  refine ⟨fun hlt => ?_, fun hge2 => ⟨⟨0, ⟨Nat.zero_le _, fun j hj => by omega⟩, rfl⟩, ?_⟩⟩
  · have hlt' : i < (Sp.evs 0 x.1.1).length := by omega
    refine ⟨⟨⟨by omega, by omega⟩, ⟨by omega, by omega⟩, fun _ => ⟨by omega, by omega⟩, fun _ => ⟨by omega, by omega⟩, fun _ => ⟨by omega, by omega⟩, fun _ => ⟨by omega, by omega⟩⟩, fun h => Sp.false_of fun h' => ?_, fun h => ⟨inK_of (by omega) (by omega), i + 1, ⟨by omega, fun j hj => ?_⟩, by omega, by omega⟩⟩
    · have hs := (Sp.src_iff _ _ _).1 ((hR.1 h').src i hlt')
      rw [hs.1, hs.2.1, hs.2.2] at h
      simp at h
    · rcases Nat.lt_or_ge j i with h' | h'
      · exact his j h'
      · rw [show j = i from by omega]
        exact ⟨h.1.1, (heq _ _).1 h.1.2, h.2⟩
  have hsrc : ∀ n < (Sp.evs 0 x.1.1).length, Sp.src (Sp.evs 0 x.1.1) x.2.1 n := fun n hn => (Sp.src_iff _ _ _).2 (his n (by omega))
  intro m hm _
  obtain ⟨hm, hms⟩ := hm
  have hgot : ∀ n : Nat, n < (Sp.evs 0 x.1.1).length → (Sp.gotE (Sp.evs 0 x.1.1) x.2.1 n ↔ Sp.got x.2.1 n) := fun n hn => by
    unfold Sp.gotE Sp.got
    rw [(hsrc n hn).2.1]
  refine ⟨fun hlt => ?_, fun hge3 => ?_⟩
  · have hlt' : m < (Sp.evs 0 x.1.1).length := by omega
    have hsm := hsrc m hlt'
    have hnext : Sp.gotE (Sp.evs 0 x.1.1) x.2.1 m → ∃ y : Nat, (y ≤ (Sp.evs 0 x.1.1).length ∧ ∀ j : Nat, j < y → Sp.gotE (Sp.evs 0 x.1.1) x.2.1 j) ∧ (Sp.evs 0 x.1.1).length - y < (Sp.evs 0 x.1.1).length - m ∧ (m : Int) + 1 = (y : Int) := by
      intro h
      refine ⟨m + 1, ⟨by omega, fun j hj => ?_⟩, by omega, by omega⟩
      rcases Nat.lt_or_ge j m with h' | h'
      · exact hms j h'
      · rw [show j = m from by omega]; exact h
    refine ⟨inN_of hlt, fun hr => ⟨⟨⟨by omega, by omega⟩, by have := hsm.2.2.2.1; omega⟩, ⟨by omega, by omega⟩, fun h => hno (fun hr' => (hgot m hlt').2 (hr'.got m (by omega))) ?_, fun h => ⟨inK_of (by omega) (by omega), hnext ?_⟩⟩, fun hr => ⟨⟨by omega, by omega⟩, fun h => hno (fun hr' => (hgot m hlt').2 (hr'.got m (by omega))) ?_, fun h => ⟨inK_of (by omega) (by omega), hnext ?_⟩⟩⟩
    · unfold Sp.gotE; rw [if_pos hr]; exact h
    · unfold Sp.gotE; rw [if_pos hr]; exact h
    · unfold Sp.gotE; rw [if_neg (by rw [hr]; decide)]; exact h
    · unfold Sp.gotE; rw [if_neg (by rw [hr]; decide)]; exact h
  · exact Sp.true_of (hR.2 ⟨hv, by omega, by omega, by omega, hsrc, fun n hn => (hgot n (by omega)).1 (hms n (by omega)), hmo, hfo⟩)
end Go.User
namespace Go.User
open Go.Lf Go.Proofs

theorem ok19 : FOk Try.prog 19 S19 := by
  have hC : CtxOK Try.prog C19 := ctx_ok rfl rfl (fns_cons ok17 (fns_cons ok55 (fns_cons ok56 (fns_cons ok57 (fns_cons ok58 fns_nil))))) ptrs_nil
  refine FOk.intro hC (stpP_ok hC) Try.call19 Try.func19 (by kernel_rfl) (by kernel_rfl) L19 (vc19.mpr ?_)
  simp only [z1, z2, z3, z4, z5, z6, z7, z8, z9, z10, z11, z12, z13, z14, z15, z16, z17, z18, z19, z20, z21, z22, z23, z24, z25, z26, z27, z28, z29, z30, z31, z32, z33, z34, z35, z36, z37, z38]
  intro x h1000 hx
  refine ⟨h1000, fun h => Sp.false_of fun h' => ?_, fun hr => ?_⟩
  · unfold Sp.allowed at h'
    rw [h] at h'
    cases h'
  have hR := (Sp.right_iff _ _).1 hr
  have h6 := hR.six
  have hF := hR.lenF
  have hE := hR.lenE
  have hok : ∀ n : Nat, n < x.2.1.1.length → okAt x.2.1 (n : Int) := fun n hn => hR.ok hn
  have hML : ∀ n : Nat, n < x.2.1.1.length → -1 ≤ Sp.idx (x.2.1.2.2.1.getD (Sp.ev x.2.1.1 (n : Int)).2.1.2.1.toNat []) (n : Int) ∧ Sp.idx (x.2.1.2.2.1.getD (Sp.ev x.2.1.1 (n : Int)).2.1.2.1.toNat []) (n : Int) ≤ lim := fun n hn => by
    have h1 := Sp.idx_range (x.2.1.2.2.1.getD (Sp.ev x.2.1.1 (n : Int)).2.1.2.1.toNat []) (n : Int)
    have h2 : (x.2.1.2.2.1.getD (Sp.ev x.2.1.1 (n : Int)).2.1.2.1.toNat []).length ≤ lim := by
      rcases Nat.lt_or_ge (Sp.ev x.2.1.1 (n : Int)).2.1.2.1.toNat x.2.1.2.2.1.length with h | h
      · rw [Sp.getD_lt h]
        exact (hx.2.2.2.1.2 _ (List.getElem_mem _)).1
      · rw [List.getD_eq_getElem?_getD, List.getElem?_eq_none h]; exact Nat.zero_le _
    omega
  have hn1 : ∀ {a : Nat}, a < x.2.1.1.length → ¬ Sp.ok1 x.2.1 a → false = Sp.allowed x.1 x.2.1 := fun ha h => (hR.not1 ha h).symm
  have hn2 : ∀ {a b : Nat}, a < x.2.1.1.length → b < x.2.1.1.length → ¬ Sp.ok2 x.2.1 a b → false = Sp.allowed x.1 x.2.1 := fun ha hb h => (hR.not2 ha hb h).symm
  have hal := hR.allowed_of
  have hd1 : ∀ a, Sp.ok1 x.2.1 a ↔ (Sp.g1 x.2.1.1.length (Sp.rFlow x.2.1) a a = false ∧ ((Sp.ev x.2.1.1 a).2.1.1 = 3 → (Sp.plc x.2.1 a).2.1 = (Sp.plc x.2.1 a).1 - 1)) := fun a => Iff.rfl
  have hev : ∀ n : Nat, x.2.1.1.getD n (0, (0, 0, 0, ()), 0, ()) = Sp.ev x.2.1.1 (n : Int) := fun n => rfl
  simp only [hev]
  have hrbl : (Sp.rBef x.2.1).length = x.2.1.1.length * x.2.1.1.length := by unfold Sp.rBef; rw [Sp.closC_len, Sp.bl_len]
  have hrfl : (Sp.rFlow x.2.1).length = x.2.1.1.length * x.2.1.1.length := by unfold Sp.rFlow; rw [Sp.closC_len, Sp.bl_len]
  have hFl : x.2.1.2.1.length = x.2.1.1.length := by omega
  have hrb : ∀ a b : Nat, (Sp.rBef x.2.1).getD (a * x.2.1.1.length + b) false = Sp.g1 x.2.1.1.length (Sp.rBef x.2.1) a b := fun a b => rfl
  have hrf : ∀ a b : Nat, (Sp.rFlow x.2.1).getD (a * x.2.1.1.length + b) false = Sp.g1 x.2.1.1.length (Sp.rFlow x.2.1) a b := fun a b => rfl
  generalize hn : x.2.1.1.length = n at *
  have hnn : n * n ≤ 6 * 6 := Nat.mul_le_mul h6 h6
  have hix : ∀ a b : Nat, (a : Int) * (n : Int) + (b : Int) = ((a * n + b : Nat) : Int) := fun a b => by rw [Int.natCast_add, Int.natCast_mul]
  have hnm : (n : Int) * (n : Int) = ((n * n : Nat) : Int) := by rw [Int.natCast_mul]
  have hmul : ∀ a : Nat, a < n → inK .i64 ((a : Int) * (n : Int)) := fun a ha => by
    have := Sp.ix_lt (n := n) ha (show 0 < n by omega)
    have e := hix a 0
    simp only [Int.natCast_zero, Int.add_zero, Nat.add_zero] at e
    rw [e]; exact inK_of (by omega) (by omega)
  simp only [hix, Int.toNat_natCast, hnm, Sp.bl_len]
  refine ⟨⟨inK_of (by omega) (by omega), by show (0 : Int) ≤ _; omega, by omega, by rw [maxNew_eq]; omega⟩, ⟨inK_of (by omega) (by omega), by show (0 : Int) ≤ _; omega, by omega, by rw [maxNew_eq]; omega⟩, ⟨0, Nat.zero_le _, rfl, by rw [Sp.bl_zero, Nat.zero_mul], by rw [Sp.bl_zero, Nat.zero_mul]⟩, ?_⟩
  intro a ha _
  refine ⟨fun hlt => ⟨⟨0, ⟨by omega, Nat.zero_le _⟩, rfl, rfl, rfl⟩, ?_⟩, fun hge => ?_⟩
  · intro b hb _
    obtain ⟨ha', hb⟩ := hb
    refine ⟨fun hltb => ?_, fun hgeb => ⟨inK_of (by omega) (by omega), a + 1, by omega, by omega, by omega, by rw [show b = n from by omega, Nat.succ_mul], by rw [show b = n from by omega, Nat.succ_mul]⟩⟩
    have hb' : b < n := by omega
    have hi := Sp.ix_lt ha' hb'
    have hs1 := Sp.bl_set (f := Sp.fO x.2.1) ha' hb' (v := Sp.rord x.2.1.1 x.2.1.2.2.2.1 (a : Int) (b : Int)) rfl
    have hgs : ((Sp.bl n (Sp.fO x.2.1) (a * n + b)).set (a * n + b) (Sp.rord x.2.1.1 x.2.1.2.2.2.1 (a : Int) (b : Int))).getD (a * n + b) false = Sp.rord x.2.1.1 x.2.1.2.2.2.1 (a : Int) (b : Int) := by
      rw [Sp.getD_lt (by rw [List.length_set, Sp.bl_len]; exact hi), List.getElem_set_self]
    rw [hgs]
    refine ⟨⟨hmul a ha', inK_of (by omega) (by omega), ⟨⟨by omega, by omega⟩, ⟨by omega, by omega⟩⟩, ⟨by omega, by omega⟩⟩, ⟨hmul a ha', inK_of (by omega) (by omega), hmul a ha', inK_of (by omega) (by omega), ⟨by omega, by rw [List.length_set, Sp.bl_len]; omega⟩, fun _ => ⟨by omega, by omega⟩, ⟨by omega, by omega⟩⟩, inK_of (by omega) (by omega), b + 1, ⟨ha', by omega⟩, by omega, by omega, ?_, ?_⟩
    · rw [hs1, ← Nat.add_assoc]
    · rw [Sp.bl_set ha' hb', ← Nat.add_assoc]
      unfold Sp.fF
      congr 1
  have han : a = n := by omega
  subst han
  have hcb : Sp.closC a (Sp.bl a (Sp.fO x.2.1) (a * a)) a = Sp.rBef x.2.1 := by unfold Sp.rBef; rw [hn]
  have hcf : Sp.closC a (Sp.bl a (Sp.fF x.2.1) (a * a)) a = Sp.rFlow x.2.1 := by unfold Sp.rFlow; rw [hn]
  refine ⟨⟨by show (0 : Int) ≤ _; omega, by omega, trivial⟩, ⟨by show (0 : Int) ≤ _; omega, by omega, trivial⟩, ⟨0, ⟨Nat.zero_le _, fun c hc => by omega⟩, rfl, hcb, hcf⟩, ?_⟩
  intro b hb _
  obtain ⟨hb, hbs⟩ := hb
  refine ⟨fun hlt => ?_, fun hgeb => ⟨⟨0, ⟨Nat.zero_le _, fun c hc => by omega⟩, rfl⟩, ?_⟩⟩
  · have hb' : b < a := by omega
    have hi := Sp.ix_lt hb' hb'
    have hk := hok b (by omega)
    have hm := hML b (by omega)
    rw [lim_eq] at hm
    rw [hrf, hrfl]
    refine ⟨⟨hmul b hb', inK_of (by omega) (by omega), ⟨by omega, by omega⟩⟩, fun hc => hn1 hb' fun h => ?_, fun hc => ⟨⟨⟨by omega, by omega⟩, fun _ => ⟨⟨by omega, by omega⟩, ⟨by omega, by omega⟩, hk.2.2⟩, fun _ => ⟨⟨by omega, by omega⟩, ⟨by omega, by omega⟩, hk.2.2⟩, fun _ => inK_of (by omega) (by omega)⟩, fun hbad => hn1 hb' fun h => ?_, fun hgood => ⟨inK_of (by omega) (by omega), b + 1, ⟨by omega, fun c hc' => ?_⟩, by omega, by omega⟩⟩⟩
    · have := h.1
      rw [hn, hc] at this
      cases this
    · exact hbad.2 (h.2 hbad.1)
    · rcases Nat.lt_or_ge c b with h' | h'
      · exact hbs c h'
      · rw [show c = b from by omega]
        refine ⟨by rw [hn]; exact hc, fun h3 => ?_⟩
        rw [h3] at hgood
        simp only [beq_self_eq_true, Bool.true_and, bne_eq_false_iff_eq] at hgood
        exact hgood
  have hba : b = a := by omega
  subst hba
  intro c hc _
  obtain ⟨hc, hcs⟩ := hc
  refine ⟨fun hlt => ⟨⟨0, ⟨by omega, Nat.zero_le _, fun d hd => by omega⟩, rfl⟩, ?_⟩, fun hgec => Sp.true_of (hal (fun a ha => hbs a (by omega)) (fun a ha d hd => hcs a (by omega) d (by omega)))⟩
  intro d hd _
  obtain ⟨hc', hd, hds⟩ := hd
  refine ⟨fun hltd => ?_, fun hged => ⟨inK_of (by omega) (by omega), c + 1, ⟨by omega, fun e he f hf => ?_⟩, by omega, by omega⟩⟩
  · have hd' : d < b := by omega
    have hi := Sp.ix_lt hc' hd'
    have k1 := hok c (by omega)
    have k2 := hok d (by omega)
    rw [hrb, hrbl]
    refine ⟨⟨⟨by omega, by omega⟩, fun _ => ⟨by omega, by omega⟩⟩, ⟨hmul c hc', inK_of (by omega) (by omega), ⟨by omega, by omega⟩, fun _ => ⟨by omega, by omega⟩, fun _ => ⟨by omega, by omega⟩, fun _ => ⟨⟨⟨by omega, by omega⟩, ⟨by omega, by omega⟩, k1.2.2⟩, ⟨by omega, by omega⟩, ⟨by omega, by omega⟩, k2.2.2⟩⟩, fun hbad => hn2 hc' hd' fun h => ?_, fun hgood => ⟨inK_of (by omega) (by omega), d + 1, ⟨hc', by omega, fun e he => ?_⟩, by omega, by omega⟩⟩
    · have := h (by rw [hn]; exact hbad.1.1.1) hbad.1.1.2.1 hbad.1.1.2.2 hbad.1.2
      rw [hbad.2] at this
      cases this
    · rcases Nat.lt_or_ge e d with h' | h'
      · exact hds e h'
      · rw [show e = d from by omega]
        intro g1 g2 g3 g4
        rw [hn] at g1
        rw [g1, beq_false_of_ne g2, beq_false_of_ne g3, g4] at hgood
        simpa using hgood
  · rcases Nat.lt_or_ge e c with h' | h'
    · exact hcs e h' f hf
    · rw [show e = c from by omega]; exact hds f (by omega)
end Go.User
namespace Sp
open Relation
theorem bool_iff {a b : Bool} (h : a = true ↔ b = true) : a = b := by
  cases a <;> cases b <;> simp_all
/-- A graph is right but for the values that were read. -/
structure Shape (t : Lit) (g : Gr) : Prop where
  valid : valid t = true
  lenE : g.1.length = (evs 0 t.1).length
  lenF : g.2.1.length = (evs 0 t.1).length
  lenM : g.2.2.1.length = 3
  src : ∀ n < (evs 0 t.1).length, src (evs 0 t.1) g n
  mo : ∀ p < 3, isList (g.2.2.1.getD p []) (evs 0 t.1) (fun o => writes o && decide (o.2.1 = (p : Int))) = true
  fo : isList g.2.2.2.1 (evs 0 t.1) (fun o => decide (o.1 = 4)) = true
theorem RightP.shape {t : Lit} {g : Gr} (h : RightP t g) : Shape t g := ⟨h.valid, h.lenE, h.lenF, h.lenM, h.src, h.mo, h.fo⟩
theorem Shape.rightP {t : Lit} {g : Gr} (h : Shape t g) (hg : ∀ n < g.1.length, got g n) : RightP t g := ⟨h.valid, h.lenE, h.lenF, h.lenM, h.src, hg, h.mo, h.fo⟩

theorem not_mem_eraseIdx : ∀ {l : List Int} (k : Nat) (hk : k < l.length), l.Nodup → l[k] ∉ l.eraseIdx k ∧ (l.eraseIdx k).Nodup
  | x :: l, 0, _, h => by
    rw [List.nodup_cons] at h
    exact ⟨by simpa using h.1, by simpa using h.2⟩
  | x :: l, k + 1, hk, h => by
    rw [List.nodup_cons] at h
    simp only [List.length_cons] at hk
    have ih := not_mem_eraseIdx k (by omega) h.2
    simp only [List.getElem_cons_succ, List.eraseIdx_cons_succ, List.mem_cons, List.nodup_cons, not_or]
    refine ⟨⟨fun e => h.1 (e ▸ List.getElem_mem _), ih.1⟩, fun hm => h.1 (List.mem_of_mem_eraseIdx hm), ih.2⟩
theorem shuf_nodup : ∀ (n : Nat) (l b : List Int) (i : Int), l.length = n → l.Nodup → (shuf n l b i).Nodup
  | 0, l, b, i, _, _ => by simp [shuf]
  | n + 1, l, b, i, hl, hn => by
    have ht := tmod_toNat_lt (byteAt b i) (show 0 < l.length by omega)
    have h1 := not_mem_eraseIdx ((byteAt b i).tmod (l.length : Int)).toNat ht hn
    have hl2 : (l.eraseIdx ((byteAt b i).tmod (l.length : Int)).toNat).length = n := by rw [List.length_eraseIdx, if_pos ht]; omega
    simp only [shuf, List.nodup_cons]
    refine ⟨?_, shuf_nodup n _ b (i + 1) hl2 h1.2⟩
    rw [(shuf_facts n _ b (i + 1) hl2).2, getD_lt ht]
    exact h1.1
theorem sel_nodup (p : Nat → Bool) (n : Nat) : (sel p n).Nodup := by
  unfold sel List.Nodup
  rw [List.pairwise_map]
  exact ((List.nodup_range (n := n)).filter _).imp (fun h e => h (by omega))
theorem shuffled_nodup {l b : List Int} {i : Int} (h : l.Nodup) : (shuffled l b i).Nodup := shuf_nodup _ _ _ _ rfl h
theorem rnd_same (frm : List Int) (e : List LEv) (n : Nat) (i : Int) : (ev (rnd frm e n) i).1 = (ev e i).1 ∧ (ev (rnd frm e n) i).2.1 = (ev e i).2.1 := by
  unfold rnd
  split
  · exact ev_setR_same _ _ _ _
  · exact ⟨rfl, rfl⟩
theorem rndN_same (frm : List Int) (e : List LEv) (i : Int) : ∀ n, (ev (rndN frm e n) i).1 = (ev e i).1 ∧ (ev (rndN frm e n) i).2.1 = (ev e i).2.1
  | 0 => ⟨rfl, rfl⟩
  | n + 1 => by
    have h1 := rnd_same frm (rndN frm e n) n i
    have h2 := rndN_same frm e i n
    rw [rndN_succ]
    exact ⟨h1.1.trans h2.1, h1.2.trans h2.2⟩
theorem rounds_same (frm : List Int) (e : List LEv) (i : Int) : ∀ n, (ev (rounds frm e n) i).1 = (ev e i).1 ∧ (ev (rounds frm e n) i).2.1 = (ev e i).2.1
  | 0 => ⟨rfl, rfl⟩
  | n + 1 => by
    have h1 := rndN_same frm (rounds frm e n) i (rounds frm e n).length
    have h2 := rounds_same frm e i n
    rw [rounds_succ]
    exact ⟨h1.1.trans h2.1, h1.2.trans h2.2⟩
theorem fromN_get (e : List LEv) (b : List Int) : ∀ n, ∀ i < n, (fromN e b n).1.getD i 0 = -1 ∨ (reads (ev e i).2.1 = true ∧ (fromN e b n).1.getD i 0 ∈ (mo3 e b).getD (ev e i).2.1.2.1.toNat [])
  | 0, i, h => by omega
  | n + 1, i, h => by
    have hl := fromN_len e b n
    have key : ∀ x : Int, ((fromN e b n).1 ++ [x]).getD i 0 = if i = n then x else (fromN e b n).1.getD i 0 := by
      intro x
      rw [List.getD_eq_getElem?_getD]
      by_cases e' : i = n
      · rw [if_pos e', List.getElem?_append_right (by omega)]; simp [hl, e']
      · rw [if_neg e', List.getElem?_append_left (by omega), ← List.getD_eq_getElem?_getD]
    by_cases hr : reads (ev e n).2.1 = true
    · simp only [fromN]
      rw [if_pos hr, key]
      by_cases e' : i = n
      · rw [if_pos e', e']
        rcases pick_mem e (mo3 e b) b (fromN e b n).2 n with h1 | h1
        · exact .inl h1
        · exact .inr ⟨hr, h1⟩
      · rw [if_neg e']
        exact fromN_get e b n i (by omega)
    · simp only [fromN]
      rw [if_neg hr, key]
      by_cases e' : i = n
      · rw [if_pos e']; exact .inl rfl
      · rw [if_neg e']
        exact fromN_get e b n i (by omega)
theorem shape_mk {t : Lit} {R : List LEv} {Fr Fo : List Int} {M : List (List Int)} (hv : valid t = true) (h1 : R.length = (evs 0 t.1).length) (h2 : Fr.length = (evs 0 t.1).length) (h3 : M.length = 3)
    (h4 : ∀ n : Nat, n < (evs 0 t.1).length → (ev R n).1 = (ev (evs 0 t.1) n).1 ∧ (ev R n).2.1 = (ev (evs 0 t.1) n).2.1)
    (h5 : ∀ n : Nat, n < (evs 0 t.1).length → -1 ≤ Fr.getD n 0 ∧ Fr.getD n 0 < ((evs 0 t.1).length : Int) ∧ (0 ≤ Fr.getD n 0 → reads (ev (evs 0 t.1) n).2.1 = true ∧ writes (ev (evs 0 t.1) (Fr.getD n 0)).2.1 = true ∧ (ev (evs 0 t.1) (Fr.getD n 0)).2.1.2.1 = (ev (evs 0 t.1) n).2.1.2.1))
    (h6 : ∀ p < 3, isList (M.getD p []) (evs 0 t.1) (fun o => writes o && decide (o.2.1 = (p : Int))) = true) (h7 : isList Fo (evs 0 t.1) (fun o => decide (o.1 = 4)) = true) : Shape t (R, Fr, M, Fo, ()) :=
  ⟨hv, h1, h2, h3, fun n hn => ⟨(h4 n hn).1, (h4 n hn).2, h5 n hn⟩, h6, h7⟩
theorem graph_shape {t : Lit} (hv : valid t = true) (b : List Int) : Shape t (graph t b) := by
  have hu := valid_ev hv
  have hX3 : ∀ x ∈ evs 0 t.1, Go.Lf.inN x.2.1.2.1 3 := fun x hx => by have := usual_X (hu.2 x hx); exact ⟨this.1, by omega⟩
  have hmo : ∀ p < 3, isList ((mo3 (evs 0 t.1) b).getD p []) (evs 0 t.1) (fun o => writes o && decide (o.2.1 = (p : Int))) = true := by
    intro p hp
    unfold isList
    simp only [Bool.and_eq_true, decide_eq_true_eq]
    refine ⟨⟨?_, fun n hn => ?_⟩, fun n hn hw => ?_⟩
    · unfold mo3
      rw [moN_get _ _ 3 p hp]
      exact shuffled_nodup (sel_nodup _ _)
    · rw [mem_mo3 hp, mem_wr] at hn
      obtain ⟨i, hi, h1, rfl⟩ := hn
      exact ⟨by omega, by omega, h1.1, h1.2⟩
    · rw [mem_mo3 hp, mem_wr]
      exact ⟨n, hn, hw, rfl⟩
  refine shape_mk hv (rounds_len _ _ 8) (fromN_len _ _ _) (moN_len _ _ 3) (fun n hn => rounds_same _ _ _ 8) (fun n hn => ?_) hmo ?_
  · have hfn := hn
    rcases fromN_get (evs 0 t.1) b (evs 0 t.1).length n hn with h | ⟨h1, h2⟩
    · rw [h]; exact ⟨by omega, by omega, fun h => by omega⟩
    · have hx := hX3 _ (ev_mem hn)
      have hx1 := hx.1
      have hx2 := hx.2
      rw [mem_mo3 (by omega), mem_wr] at h2
      obtain ⟨i, hi, h3, h4⟩ := h2
      generalize (fromN (evs 0 t.1) b (evs 0 t.1).length).1.getD n 0 = v at *
      subst h4
      exact ⟨by omega, by omega, fun _ => ⟨h1, h3.1, by rw [h3.2]; omega⟩⟩
  · show isList (foOf (evs 0 t.1) b) (evs 0 t.1) _ = true
    unfold isList foOf
    simp only [Bool.and_eq_true, decide_eq_true_eq]
    refine ⟨⟨shuffled_nodup (sel_nodup _ _), fun n hn => ?_⟩, fun n hn hw => ?_⟩
    · rw [mem_shuffled, mem_fen] at hn
      obtain ⟨i, hi, h1, rfl⟩ := hn
      exact ⟨by omega, by omega, h1⟩
    · rw [mem_shuffled, mem_fen]
      exact ⟨n, hn, hw, rfl⟩

/-- Two graphs with the same events under other numbers. -/
structure Iso (t u : Lit) (g h : Gr) (V T : Nat → Nat) : Prop where
  sg : Shape t g
  sh : Shape u h
  len : h.1.length = g.1.length
  Vl : ∀ k < g.1.length, V k < g.1.length ∧ T (V k) = k
  Tl : ∀ e < g.1.length, T e < g.1.length ∧ V (T e) = e
  kind : ∀ k < g.1.length, (ev h.1 k).2.1.1 = (ev g.1 (V k)).2.1.1 ∧ (ev h.1 k).2.1.2.2.1 = (ev g.1 (V k)).2.1.2.2.1 ∧ (ev h.1 k).2.2.1 = (ev g.1 (V k)).2.2.1
  ord : ∀ a b, a < g.1.length → b < g.1.length → (a < b ∧ (ev h.1 a).1 = (ev h.1 b).1 ↔ V a < V b ∧ (ev g.1 (V a)).1 = (ev g.1 (V b)).1)
  fo : h.2.2.2.1 = g.2.2.2.1.map fun v => ((T v.toNat : Nat) : Int)
  frm : ∀ k < g.1.length, h.2.1.getD k 0 = if g.2.1.getD (V k) 0 < 0 then -1 else ((T (g.2.1.getD (V k) 0).toNat : Nat) : Int)
  plc : ∀ k < g.1.length, (ev g.1 (V k)).2.1.1 ≠ 4 → plc h k = plc g (V k)
  X : ∀ a < g.1.length, ∀ b < g.1.length, (ev g.1 (V a)).2.1.1 ≠ 4 → (ev g.1 (V b)).2.1.1 ≠ 4 → ((ev h.1 a).2.1.2.1 = (ev h.1 b).2.1.2.1 ↔ (ev g.1 (V a)).2.1.2.1 = (ev g.1 (V b)).2.1.2.1)
theorem Shape.ord_lt {t : Lit} {g : Gr} (h : Shape t g) {a b : Nat} (ho : Ord g a b) : a < g.1.length ∧ b < g.1.length := by
  rcases ho with ho | ho
  · exact ⟨by omega, ho.2.1⟩
  · have hfo := h.fo
    have h1 := isList_in hfo (ho.subset (by simp) : (a : Int) ∈ _)
    have h2 := isList_in hfo (ho.subset (by simp) : (b : Int) ∈ _)
    have := h.lenE
    omega
theorem Shape.flow_lt {t : Lit} {g : Gr} (h : Shape t g) {a b : Nat} (ho : Flow g a b) : a < g.1.length ∧ b < g.1.length := by
  rcases ho with ho | ⟨h1, h2⟩
  · exact h.ord_lt ho
  · have hF := h.lenF
    have hE := h.lenE
    obtain ⟨_, _, _, h3, _⟩ := h.src b (by omega)
    rw [h2] at h3
    omega
section
variable {t u : Lit} {g h : Gr} {V T : Nat → Nat} (I : Iso t u g h V T)
include I
theorem Iso.frange {e : Nat} (he : e < g.1.length) : -1 ≤ g.2.1.getD e 0 ∧ g.2.1.getD e 0 < (g.1.length : Int) := by
  have hE := I.sg.lenE
  obtain ⟨_, _, h3, h4, _⟩ := I.sg.src e (by omega)
  exact ⟨h3, by omega⟩
theorem Iso.foOf {v : Int} (hv : v ∈ g.2.2.2.1) : 0 ≤ v ∧ v < (g.1.length : Int) := by
  have h1 := isList_in I.sg.fo hv
  have hE := I.sg.lenE
  exact ⟨h1.1, by have := h1.2.1; omega⟩
theorem Iso.foBack : h.2.2.2.1.map (fun v => ((V v.toNat : Nat) : Int)) = g.2.2.2.1 := by
  rw [I.fo, List.map_map]
  conv => rhs; rw [← List.map_id g.2.2.2.1]
  refine List.map_congr_left fun v hv => ?_
  have := I.foOf hv
  simp only [Function.comp, id, Int.toNat_natCast]
  rw [(I.Tl v.toNat (by omega)).2]; omega
theorem Iso.ordIff {a b : Nat} (ha : a < g.1.length) (hb : b < g.1.length) : Ord h a b ↔ Ord g (V a) (V b) := by
  have h1 := I.ord a b ha hb
  have hVb := (I.Vl b hb).1
  constructor
  · rintro (h2 | h2)
    · have := h1.1 ⟨h2.1, h2.2.2⟩
      exact .inl ⟨this.1, hVb, this.2⟩
    · right
      have h3 := h2.map (fun v : Int => ((V v.toNat : Nat) : Int))
      rw [I.foBack] at h3
      simpa using h3
  · rintro (h2 | h2)
    · have := h1.2 ⟨h2.1, h2.2.2⟩
      exact .inl ⟨this.1, by rw [I.len]; exact hb, this.2⟩
    · right
      have h3 := h2.map (fun v : Int => ((T v.toNat : Nat) : Int))
      rw [← I.fo] at h3
      simpa [(I.Vl a ha).2, (I.Vl b hb).2] using h3
theorem Iso.flowIff {a b : Nat} (ha : a < g.1.length) (hb : b < g.1.length) : Flow h a b ↔ Flow g (V a) (V b) := by
  have hF := I.frm b hb
  have hVa := I.Vl a ha
  have hVb := I.Vl b hb
  have hr := I.frange hVb.1
  have l1 := I.sh.lenF
  have l2 := I.sg.lenF
  have l3 := I.sh.lenE
  have l4 := I.sg.lenE
  have l5 := I.len
  unfold Flow
  rw [I.ordIff ha hb]
  refine or_congr Iff.rfl ⟨fun ⟨h1, h2⟩ => ⟨by omega, ?_⟩, fun ⟨h1, h2⟩ => ⟨by omega, ?_⟩⟩
  · rw [hF] at h2
    split at h2
    · omega
    · have hT := I.Tl (g.2.1.getD (V b) 0).toNat (by omega)
      have e : T (g.2.1.getD (V b) 0).toNat = a := by omega
      rw [e] at hT
      omega
  · rw [hF, h2, if_neg (by omega), Int.toNat_natCast, hVa.2]
theorem Iso.got {k : Nat} (hk : k < g.1.length) : got h k ↔ got g (V k) := by
  obtain ⟨k1, k2, k3⟩ := I.kind k hk
  have hVk := I.Vl k hk
  have hr := I.frange hVk.1
  have hrd : reads (ev h.1 k).2.1 = reads (ev g.1 (V k)).2.1 := by unfold reads; rw [k1]
  have hval : value h.1 (h.2.1.getD k 0) = value g.1 (g.2.1.getD (V k) 0) := by
    rw [I.frm k hk]
    by_cases hn : g.2.1.getD (V k) 0 < 0
    · rw [if_pos hn]
      unfold value
      rw [if_pos (by omega), if_pos hn]
    · rw [if_neg hn]
      have hT := I.Tl (g.2.1.getD (V k) 0).toNat (by omega)
      obtain ⟨m1, m2, m3⟩ := I.kind _ hT.1
      rw [hT.2, Int.toNat_of_nonneg (by omega)] at m1 m2 m3
      unfold value
      rw [if_neg (show ¬ ((T (g.2.1.getD (V k) 0).toNat : Nat) : Int) < 0 by omega), if_neg hn, m1, m2, m3]
  unfold Sp.got
  rw [k3, hrd, hval]
theorem Iso.rightIff : RightP u h ↔ RightP t g := by
  constructor
  · intro hR
    refine I.sg.rightP fun e he => ?_
    have hT := I.Tl e he
    have := (I.got hT.1).1 (hR.got _ (by rw [I.len]; exact hT.1))
    rwa [hT.2] at this
  · intro hR
    refine I.sh.rightP fun k hk => ?_
    rw [I.len] at hk
    exact (I.got hk).2 (hR.got _ (I.Vl k hk).1)
theorem Iso.allowIff : AllowP u h ↔ AllowP t g := by
  have hl := I.len
  constructor
  · intro hA
    refine hA.of (I.rightIff.1 hA.right) T (fun a b hab => ?_) (fun a b hab => ?_) (fun a ha => ?_) (fun a ha b hb h4 h5 hx => ?_)
    · have hlt := I.sg.ord_lt hab
      have ha := I.Tl a hlt.1
      have hb := I.Tl b hlt.2
      rw [I.ordIff ha.1 hb.1, ha.2, hb.2]; exact hab
    · have hlt := I.sg.flow_lt hab
      have ha := I.Tl a hlt.1
      have hb := I.Tl b hlt.2
      rw [I.flowIff ha.1 hb.1, ha.2, hb.2]; exact hab
    · have hT := I.Tl a ha
      have hk := I.kind _ hT.1
      have hp := I.plc _ hT.1
      rw [hT.2] at hk hp
      exact ⟨by omega, hk.1.symm, fun h4 => (hp h4).symm⟩
    · have hTa := I.Tl a ha
      have hTb := I.Tl b hb
      have := I.X _ hTa.1 _ hTb.1
      rw [hTa.2, hTb.2] at this
      exact (this h4 h5).2 hx
  · intro hA
    refine hA.of (I.rightIff.2 hA.right) V (fun a b hab => ?_) (fun a b hab => ?_) (fun a ha => ?_) (fun a ha b hb h4 h5 hx => ?_)
    · have hlt := I.sh.ord_lt hab
      rw [hl] at hlt
      exact (I.ordIff hlt.1 hlt.2).1 hab
    · have hlt := I.sh.flow_lt hab
      rw [hl] at hlt
      exact (I.flowIff hlt.1 hlt.2).1 hab
    · rw [hl] at ha
      have hk := I.kind a ha
      exact ⟨(I.Vl a ha).1, hk.1, fun h4 => I.plc a ha (by rw [← hk.1]; exact h4)⟩
    · rw [hl] at ha hb
      have k1 := I.kind a ha
      have k2 := I.kind b hb
      exact (I.X a ha b hb (by rw [← k1.1]; exact h4) (by rw [← k2.1]; exact h5)).1 hx
theorem Iso.right_eq : right u h = right t g := bool_iff (by rw [right_iff, right_iff]; exact I.rightIff)
theorem Iso.allowed_eq : allowed u h = allowed t g := bool_iff (by rw [allowed_iff, allowed_iff]; exact I.allowIff)
end
end Sp
