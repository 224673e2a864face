/- Plain facts: closing a relation gives its transitive closure; what it means that a graph is allowed; graphs with other numbers. Plain facts: a graph that is allowed is allowed without one of its fences. Written by gen.py: what is left to show of each function. Written by gen.py: what is left to show of each function. Tests out of bytes, and the law of coherence: the functions compute what they should. One operation after the other on a memory, and the law of sequential executions: the functions compute what they should. The law of fences: the functions compute what they should. -/
import Derived.Test.YtmoonjcbljefaaaLfi
set_option linter.unusedVariables false
set_option linter.unusedSimpArgs false
namespace Sp
open Relation
theorem get2_len {r : Rel} {a b : Nat} (h : get2 r a b = true) : True := trivial
/-- Paths whose inner points are below n. -/
def W (R : Nat → Nat → Prop) : Nat → Nat → Nat → Prop
  | 0, a, b => R a b
  | n + 1, a, b => W R n a b ∨ (W R n a n ∧ W R n n b)
theorem W_trans {R : Nat → Nat → Prop} : ∀ n a b c, b < n → W R n a b → W R n b c → W R n a c
  | 0, a, b, c, h, _, _ => by omega
  | n + 1, a, b, c, h, h1, h2 => by
    have ih := W_trans (R := R) n
    by_cases hb : b = n
    · subst hb
      right
      refine ⟨?_, ?_⟩
      · rcases h1 with h1 | h1
        · exact h1
        · exact h1.1
      · rcases h2 with h2 | h2
        · exact h2
        · exact h2.2
    · have hb : b < n := by omega
      rcases h1 with h1 | h1
      · rcases h2 with h2 | h2
        · exact .inl (ih a b c hb h1 h2)
        · exact .inr ⟨ih a b n hb h1 h2.1, h2.2⟩
      · rcases h2 with h2 | h2
        · exact .inr ⟨h1.1, ih n b c hb h1.2 h2⟩
        · exact .inr ⟨h1.1, h2.2⟩
theorem W_gen {R : Nat → Nat → Prop} : ∀ n a b, W R n a b → TransGen R a b
  | 0, a, b, h => .single h
  | n + 1, a, b, h => by
    have ih := W_gen (R := R) n
    rcases h with h | h
    · exact ih a b h
    · exact TransGen.trans (ih _ _ h.1) (ih _ _ h.2)
theorem W_sub {R : Nat → Nat → Prop} {a b : Nat} (h : R a b) : ∀ n, W R n a b
  | 0 => h
  | n + 1 => .inl (W_sub h n)
theorem gen_W {R : Nat → Nat → Prop} {n : Nat} (hR : ∀ a b, R a b → a < n ∧ b < n) {a b : Nat} (h : TransGen R a b) : W R n a b := by
  induction h with
  | single h => exact W_sub h n
  | tail h1 h2 ih => exact W_trans n _ _ _ (hR _ _ h2).1 ih (W_sub h2 n)

theorem upd_get {r : Rel} {a b : Nat} {v : Bool} (ha : a < r.length) (hb : b < (r.getD a (List.replicate 6 false)).length) : get2 (upd2 r a b v) a b = v := by
  unfold get2 upd2
  generalize r.getD a (List.replicate 6 false) = row at *
  have e : (r.set a (row.set b v)).getD a (List.replicate 6 false) = row.set b v := by
    rw [getD_lt (by simpa using ha), List.getElem_set_self]
  rw [e, getD_lt (by simpa using hb), List.getElem_set_self]
/-- A relation of six events. -/
def sq (r : Rel) : Prop := r.length = 6 ∧ ∀ a < 6, (r.getD a (List.replicate 6 false)).length = 6
theorem sq_upd {r : Rel} (h : sq r) (a b : Nat) (v : Bool) : sq (upd2 r a b v) := by
  refine ⟨by simp [upd2, h.1], fun c hc => ?_⟩
  unfold upd2
  rw [List.getD_eq_getElem?_getD, List.getElem?_set]
  by_cases e : a = c
  · subst e
    rw [if_pos rfl]
    split
    · simp only [Option.getD_some, List.length_set]; exact h.2 a hc
    · rfl
  · rw [if_neg e, ← List.getD_eq_getElem?_getD]; exact h.2 c hc
theorem sq_rowB {r : Rel} (h : sq r) (k a : Nat) : ∀ n, sq (rowB k a r n)
  | 0 => h
  | n + 1 => by rw [Go.User.rowB_succ]; exact sq_upd (sq_rowB h k a n) _ _ _
theorem sq_rowA {r : Rel} (h : sq r) (k : Nat) : ∀ n, sq (rowA k r n)
  | 0 => h
  | n + 1 => by rw [Go.User.rowA_succ]; exact sq_rowB (sq_rowA h k n) _ _ _
theorem sq_closeN {r : Rel} (h : sq r) : ∀ n, sq (closeN r n)
  | 0 => h
  | n + 1 => by rw [Go.User.closeN_succ]; exact sq_rowA (sq_closeN h n) _ _
theorem stepB_new {r : Rel} (hs : sq r) {k a b : Nat} (ha : a < 6) (hb : b < 6) (h : get2 r a b = true ∨ (get2 r a k = true ∧ get2 r k b = true)) : get2 (stepB k a r b) a b = true := by
  unfold stepB
  rw [upd_get (by rw [hs.1]; exact ha) (by rw [hs.2 a ha]; exact hb)]
  rcases h with h | ⟨h1, h2⟩
  · rw [h]; rfl
  · rw [h1, h2]; simp
theorem rowB_new {r : Rel} (hs : sq r) {k a : Nat} (ha : a < 6) {b : Nat} (h : get2 r a b = true ∨ (get2 r a k = true ∧ get2 r k b = true)) : ∀ n, n ≤ 6 → b < n → get2 (rowB k a r n) a b = true
  | 0, _, hb => by omega
  | n + 1, hn, hb => by
    rw [Go.User.rowB_succ]
    by_cases e : b = n
    · subst e
      refine stepB_new (sq_rowB hs k a b) ha (by omega) ?_
      rcases h with h | ⟨h1, h2⟩
      · exact .inl (get2_rowB h b)
      · exact .inr ⟨get2_rowB h1 b, get2_rowB h2 b⟩
    · exact get2_stepB (rowB_new hs ha h n (by omega) (by omega))
theorem rowA_new {r : Rel} (hs : sq r) {k : Nat} {a b : Nat} (hb : b < 6) (h : get2 r a b = true ∨ (get2 r a k = true ∧ get2 r k b = true)) : ∀ n, n ≤ 6 → a < n → get2 (rowA k r n) a b = true
  | 0, _, ha => by omega
  | n + 1, hn, ha => by
    rw [Go.User.rowA_succ]
    by_cases e : a = n
    · subst e
      refine rowB_new (sq_rowA hs k a) (by omega) ?_ 6 (Nat.le_refl _) hb
      rcases h with h | ⟨h1, h2⟩
      · exact .inl (get2_rowA h a)
      · exact .inr ⟨get2_rowA h1 a, get2_rowA h2 a⟩
    · exact get2_rowB (rowA_new hs hb h n (by omega) (by omega)) 6
theorem closeN_W {r : Rel} (hs : sq r) : ∀ n, n ≤ 6 → ∀ a b, a < 6 → b < 6 → W (fun a b => get2 r a b = true) n a b → get2 (closeN r n) a b = true
  | 0, _, a, b, _, _, h => h
  | n + 1, hn, a, b, ha, hb, h => by
    have ih := closeN_W hs n (by omega)
    rw [Go.User.closeN_succ]
    refine rowA_new (sq_closeN hs n) hb ?_ 6 (Nat.le_refl _) ha
    rcases h with h | ⟨h1, h2⟩
    · exact .inl (ih a b ha hb h)
    · exact .inr ⟨ih a n ha (by omega) h1, ih n b (by omega) hb h2⟩
theorem sq_mat (f : Nat → Nat → Bool) : sq (mat f) := ⟨by simp [mat], fun a ha => by rw [mat_row ha]; simp⟩
/-- Closing a relation gives its transitive closure. -/
theorem close_iff {f : Nat → Nat → Bool} (hf : ∀ a b, f a b = true → a < 6 ∧ b < 6) {a b : Nat} : get2 (close (mat f)) a b = true ↔ TransGen (fun a b => f a b = true) a b := by
  have hm : ∀ a b, get2 (mat f) a b = true ↔ f a b = true := by
    intro a b
    constructor
    · intro h; exact (get2_mat_in h).2.2
    · intro h; rw [get2_mat (hf a b h).1 (hf a b h).2]; exact h
  constructor
  · exact close_in (R := TransGen fun a b => f a b = true) (fun a b c h1 h2 => TransGen.trans h1 h2) (fun x y h => .single ((hm x y).1 h)) a b
  · intro h
    have e : (fun a b => get2 (mat f) a b = true) = (fun a b => f a b = true) := by
      funext a b; exact propext (hm a b)
    have hW := gen_W (n := 6) hf h
    have hab : a < 6 ∧ b < 6 := by
      clear hW
      induction h with
      | single h => exact hf _ _ h
      | tail h1 h2 ih => exact ⟨ih.1, (hf _ _ h2).2⟩
    rw [← e] at hW
    exact closeN_W (sq_mat f) 6 (Nat.le_refl _) a b hab.1 hab.2 hW

/-- Two numbers of a list, one behind the other. -/
theorem pair_iff {fo : List Int} {a b : Int} : ((List.range fo.length).any fun j => (List.range j).any fun i => decide (fo.getD i 0 = a) && decide (fo.getD j 0 = b)) = true ↔ [a, b].Sublist fo := by
  rw [List.any_eq_true]
  have : (∃ x, x ∈ List.range fo.length ∧ ((List.range x).any fun i => decide (fo.getD i 0 = a) && decide (fo.getD x 0 = b)) = true) ↔ ∃ j, j < fo.length ∧ ∃ i, i < j ∧ fo.getD i 0 = a ∧ fo.getD j 0 = b := by
    simp only [List.mem_range, List.any_eq_true, Bool.and_eq_true, decide_eq_true_eq]
  rw [this]
  clear this
  induction fo with
  | nil => simp
  | cons x l ih =>
    have hs : [a, b].Sublist (x :: l) ↔ [a, b].Sublist l ∨ (x = a ∧ b ∈ l) := by
      rw [List.sublist_cons_iff]
      constructor
      · rintro (h | ⟨r, h1, h2⟩)
        · exact .inl h
        · simp only [List.cons.injEq] at h1
          obtain ⟨e1, e2⟩ := h1
          subst e2
          exact .inr ⟨e1.symm, List.singleton_sublist.1 h2⟩
      · rintro (h | ⟨h1, h2⟩)
        · exact .inl h
        · exact .inr ⟨[b], by rw [h1], List.singleton_sublist.2 h2⟩
    rw [hs]
    refine Iff.trans ?_ (or_congr ih Iff.rfl)
    constructor
    · rintro ⟨j, hj, i, hi, h1, h2⟩
      match i, j, hi with
      | 0, j + 1, _ =>
        right
        refine ⟨h1, ?_⟩
        have h2 : l.getD j 0 = b := h2
        simp only [List.length_cons] at hj
        rw [getD_lt (by omega)] at h2
        rw [← h2]; exact List.getElem_mem _
      | i + 1, j + 1, hi =>
        left
        simp only [List.length_cons] at hj
        exact ⟨j, by omega, i, by omega, h1, h2⟩
    · rintro (⟨j, hj, i, hi, h1, h2⟩ | ⟨h1, h2⟩)
      · exact ⟨j + 1, by simp only [List.length_cons]; omega, i + 1, by omega, h1, h2⟩
      · obtain ⟨j, hj, e⟩ := List.getElem_of_mem h2
        exact ⟨j + 1, by simp only [List.length_cons]; omega, 0, by omega, h1, by show l.getD j 0 = b; rw [getD_lt hj]; exact e⟩
/-- Ordered before another event. -/
def Ord (g : Gr) (a b : Nat) : Prop := (a < b ∧ b < g.1.length ∧ (ev g.1 a).1 = (ev g.1 b).1) ∨ [(a : Int), (b : Int)].Sublist g.2.2.2.1
def Flow (g : Gr) (a b : Nat) : Prop := Ord g a b ∨ (b < g.2.1.length ∧ g.2.1.getD b 0 = (a : Int))
theorem ordF_iff (g : Gr) (a b : Nat) : ordF g.1 g.2.2.2.1 a b = true ↔ Ord g a b := by
  unfold ordF Ord
  rw [Bool.or_eq_true, pair_iff]
  simp only [Bool.and_eq_true, decide_eq_true_eq, and_assoc]
theorem flowN_iff (g : Gr) (a b : Nat) : flowN g g.2.1.length a b = true ↔ Flow g a b := by
  unfold flowN Flow
  rw [Bool.or_eq_true, ordF_iff]
  simp only [Bool.and_eq_true, decide_eq_true_eq]
theorem RightP.six {t : Lit} {g : Gr} (h : RightP t g) : g.1.length ≤ 6 := by rw [h.lenE]; exact (valid_ev h.valid).1
theorem RightP.ord_lt {t : Lit} {g : Gr} (h : RightP t g) {a b : Nat} (ho : Ord g a b) : a < g.1.length ∧ b < g.1.length := by
  rcases ho with ho | ho
  · exact ⟨by omega, ho.2.1⟩
  · have hfo := h.fo
    have h1 := isList_in hfo (ho.subset (by simp) : (a : Int) ∈ _)
    have h2 := isList_in hfo (ho.subset (by simp) : (b : Int) ∈ _)
    have := h.lenE
    omega
theorem RightP.flow_lt {t : Lit} {g : Gr} (h : RightP t g) {a b : Nat} (ho : Flow g a b) : a < g.1.length ∧ b < g.1.length := by
  rcases ho with ho | ⟨h1, h2⟩
  · exact h.ord_lt ho
  · have hF := h.lenF
    have hE := h.lenE
    obtain ⟨_, _, _, h3, _⟩ := h.src b (by omega)
    rw [h2] at h3
    omega
theorem RightP.before_iff {t : Lit} {g : Gr} (h : RightP t g) {a b : Nat} : get2 (before g) a b = true ↔ TransGen (Ord g) a b := by
  have h6 := h.six
  have e : (fun a b => ordF g.1 g.2.2.2.1 a b = true) = Ord g := by funext a b; exact propext (ordF_iff g a b)
  unfold before order
  rw [close_iff (fun a b hab => by have := h.ord_lt ((ordF_iff g a b).1 hab); omega), e]
theorem RightP.flow_iff {t : Lit} {g : Gr} (h : RightP t g) {a b : Nat} : get2 (flow g) a b = true ↔ TransGen (Flow g) a b := by
  have h6 := h.six
  have e : (fun a b => flowN g g.2.1.length a b = true) = Flow g := by funext a b; exact propext (flowN_iff g a b)
  unfold flow
  rw [close_iff (fun a b hab => by have := h.flow_lt ((flowN_iff g a b).1 hab); omega), e]
theorem gen_lt {R : Nat → Nat → Prop} {n : Nat} (hR : ∀ a b, R a b → a < n ∧ b < n) {a b : Nat} (h : TransGen R a b) : a < n ∧ b < n := by
  induction h with
  | single h => exact hR _ _ h
  | tail h1 h2 ih => exact ⟨ih.1, (hR _ _ h2).2⟩
theorem gen_map {R S : Nat → Nat → Prop} {em : Nat → Nat} (h : ∀ a b, R a b → S (em a) (em b)) {a b : Nat} (hab : TransGen R a b) : TransGen S (em a) (em b) := by
  induction hab with
  | single h1 => exact .single (h _ _ h1)
  | tail h1 h2 ih => exact .tail ih (h _ _ h2)
/-- What it means that a graph is allowed. -/
structure AllowP (t : Lit) (g : Gr) : Prop where
  right : RightP t g
  acyc : ∀ a, ¬ TransGen (Flow g) a a
  add : ∀ a < g.1.length, (ev g.1 a).2.1.1 = 3 → (plc g a).2.1 = (plc g a).1 - 1
  coh : ∀ a < g.1.length, ∀ b < g.1.length, (ev g.1 a).2.1.1 ≠ 4 → (ev g.1 b).2.1.1 ≠ 4 → TransGen (Ord g) a b → (ev g.1 a).2.1.2.1 = (ev g.1 b).2.1.2.1 → coh g a b = true
theorem allowed_iff (t : Lit) (g : Gr) : allowed t g = true ↔ AllowP t g := by
  unfold allowed
  simp only [Bool.and_eq_true, decide_eq_true_eq, Bool.not_eq_true']
  constructor
  · rintro ⟨⟨h1, h2⟩, h3⟩
    have hR := (right_iff t g).1 h1
    refine ⟨hR, fun a ha => ?_, fun a ha h => ?_, fun a ha b hb h4 h5 hab hx => ?_⟩
    · have hf := hR.flow_iff.2 ha
      have h6 := hR.six
      have hl := (gen_lt (fun a b h => hR.flow_lt h) ha).1
      unfold round at h2
      rw [List.any_eq_false] at h2
      exact h2 a (by simp; omega) hf
    · rcases h3 a ha with h4 | ⟨h4, _⟩
      · omega
      · unfold badAdd at h4
        rw [decide_eq_true h] at h4
        simpa using h4
    · rcases h3 a ha with h6 | ⟨_, h6⟩
      · exact absurd h6 h4
      · have := h6 b hb
        unfold badPair at this
        rw [hR.before_iff.2 hab, decide_eq_false h5, decide_eq_true hx] at this
        simpa using this
  · intro h
    refine ⟨⟨(right_iff t g).2 h.right, ?_⟩, fun a ha => ?_⟩
    · unfold round
      rw [List.any_eq_false]
      intro a _ hh
      exact h.acyc a (h.right.flow_iff.1 hh)
    · by_cases h4 : (ev g.1 (a : Int)).2.1.1 = 4
      · exact .inl h4
      · right
        refine ⟨?_, fun b hb => ?_⟩
        · unfold badAdd
          by_cases h3 : (ev g.1 (a : Int)).2.1.1 = 3
          · rw [h.add a ha h3]; simp
          · rw [decide_eq_false h3]; rfl
        · unfold badPair
          cases hb2 : get2 (before g) a b
          · rfl
          by_cases h5 : (ev g.1 (b : Int)).2.1.1 = 4
          · rw [decide_eq_true h5]; simp
          by_cases hx : (ev g.1 (a : Int)).2.1.2.1 = (ev g.1 (b : Int)).2.1.2.1
          · rw [h.coh a ha b hb h4 h5 (h.right.before_iff.1 hb2) hx]; simp
          · rw [decide_eq_false hx]; simp
/-- A graph whose events are some of another one's is allowed if that is. -/
theorem AllowP.of {t u : Lit} {g h : Gr} (hg : AllowP t g) (hR : RightP u h) (em : Nat → Nat) (ho : ∀ a b, Ord h a b → Ord g (em a) (em b)) (hf : ∀ a b, Flow h a b → Flow g (em a) (em b))
    (he : ∀ a < h.1.length, em a < g.1.length ∧ (ev h.1 a).2.1.1 = (ev g.1 (em a)).2.1.1 ∧ ((ev h.1 a).2.1.1 ≠ 4 → plc h a = plc g (em a)))
    (hx : ∀ a < h.1.length, ∀ b < h.1.length, (ev h.1 a).2.1.1 ≠ 4 → (ev h.1 b).2.1.1 ≠ 4 → (ev h.1 a).2.1.2.1 = (ev h.1 b).2.1.2.1 → (ev g.1 (em a)).2.1.2.1 = (ev g.1 (em b)).2.1.2.1) : AllowP u h := by
  refine ⟨hR, fun a ha => hg.acyc (em a) (gen_map hf ha), fun a ha h3 => ?_, fun a ha b hb h4 h5 hab hxx => ?_⟩
  · obtain ⟨h1, h2, h4⟩ := he a ha
    rw [h4 (by omega)]
    exact hg.add _ h1 (by omega)
  · obtain ⟨a1, a2, a3⟩ := he a ha
    obtain ⟨b1, b2, b3⟩ := he b hb
    have := hg.coh _ a1 _ b1 (by omega) (by omega) (gen_map ho hab) (hx a ha b hb h4 h5 hxx)
    unfold Sp.coh at *
    have hw : ∀ o o' : LOp, o.1 = o'.1 → writes o = writes o' ∧ reads o = reads o' := fun o o' h => by unfold writes reads; rw [h]; exact ⟨rfl, rfl⟩
    rw [a3 h4, b3 h5, (hw _ _ a2).1, (hw _ _ b2).1, (hw _ _ b2).2]
    exact this
theorem idx_map {l : List Int} {τ : Int → Int} {v : Int} (h : ∀ w ∈ l, τ w = τ v → w = v) : idx (l.map τ) (τ v) = idx l v := by
  have hm : τ v ∈ l.map τ ↔ v ∈ l := by
    constructor
    · intro hm
      obtain ⟨w, hw, e⟩ := List.mem_map.1 hm
      exact h w hw e ▸ hw
    · exact List.mem_map_of_mem
  unfold idx
  by_cases hv : v ∈ l
  · rw [if_pos hv, if_pos (hm.2 hv)]
    congr 1
    clear hm
    induction l with
    | nil => cases hv
    | cons x l ih =>
      rw [List.map_cons, idx_cons2, idx_cons2]
      by_cases e : x = v
      · rw [if_pos e, if_pos (by rw [e])]
      · rw [if_neg e, if_neg (fun e' => e (h x (by simp) e'))]
        rw [ih (fun w hw => h w (by simp [hw])) (by
          rcases List.mem_cons.1 hv with h' | h'
          · exact absurd h'.symm e
          · exact h')]
  · rw [if_neg hv, if_neg (fun h' => hv (hm.1 h'))]
end Sp
namespace Sp
def emb (gone a : Nat) : Nat := if a < gone then a else a + 1
def tau (gone : Nat) (v : Int) : Int := tq gone v.toNat
theorem tq_emb (gone a : Nat) : tq gone (emb gone a) = (a : Int) := by
  unfold tq emb
  split <;> split <;> first | omega | (split <;> omega)
theorem emb_ne (gone a : Nat) : emb gone a ≠ gone := by unfold emb; split <;> omega
theorem tq_ge {gone i : Nat} (h : i ≠ gone) : 0 ≤ tq gone i := by unfold tq; rw [if_neg h]; split <;> omega
theorem emb_tq {gone i : Nat} (h : i ≠ gone) : emb gone (tq gone i).toNat = i := by
  unfold tq emb
  rw [if_neg h]
  split <;> split <;> omega
theorem emb_lt {gone a n : Nat} (hg : gone < n) (h : a < n - 1) : emb gone a < n := by unfold emb; split <;> omega
theorem tq_lt {gone i n : Nat} (hg : gone < n) (h : i < n) : tq gone i < ((n - 1 : Nat) : Int) := by
  unfold tq
  split
  · omega
  · split <;> omega
theorem tau_inj {gone : Nat} {v w : Int} (hv : 0 ≤ v) (hw : 0 ≤ w) (h1 : v.toNat ≠ gone) (h2 : w.toNat ≠ gone) (h : tau gone v = tau gone w) : v = w := by
  unfold tau at h
  have a := emb_tq h1
  have b := emb_tq h2
  rw [h] at a
  omega

theorem toL_len (gone n : Nat) : (toL gone n).length = n := by simp [toL]
theorem toL_get {gone n i : Nat} (h : i < n) : (toL gone n).getD i 0 = tq gone i := by
  rw [getD_lt (by rw [toL_len]; exact h)]; simp [toL]
theorem toL_succ (gone n : Nat) : toL gone (n + 1) = toL gone n ++ [tq gone n] := by simp [toL, List.range_succ]

theorem erase_ev {E : List LEv} {gone a : Nat} : ev (E.eraseIdx gone) (a : Int) = ev E (emb gone a : Int) := by
  unfold ev emb
  simp only [Int.toNat_natCast]
  rw [List.getD_eq_getElem?_getD, List.getElem?_eraseIdx, List.getD_eq_getElem?_getD]
  split <;> rfl

theorem renN_succ {l to : List Int} {n : Nat} (h : n < l.length) : renN l to (n + 1) = renN l to n ++ (if l.getD n 0 < 0 then [l.getD n 0] else if 0 ≤ to.getD (l.getD n 0).toNat 0 then [to.getD (l.getD n 0).toNat 0] else []) := by
  unfold renN
  rw [List.take_succ_eq_append_getElem h, List.filterMap_append, getD_lt h]
  congr 1
  by_cases h1 : l[n] < 0
  · simp [h1]
  · by_cases h2 : 0 ≤ to.getD l[n].toNat 0
    · simp only [h1, if_false, h2, if_true, List.filterMap_cons, List.filterMap_nil]
    · simp only [h1, if_false, h2, List.filterMap_cons, List.filterMap_nil]
theorem renN_le (l to : List Int) (n : Nat) : (renN l to n).length ≤ n := by
  unfold renN
  exact Nat.le_trans (List.length_filterMap_le _ _) (by simp; omega)
theorem ren_toL {gone n : Nat} : ∀ {l : List Int}, (∀ v ∈ l, 0 ≤ v ∧ v < n) → ren l (toL gone n) = (l.filter fun v => !decide (v.toNat = gone)).map (tau gone)
  | [], _ => rfl
  | v :: l, h => by
    have ih := ren_toL (gone := gone) (n := n) (l := l) (fun w hw => h w (by simp [hw]))
    have hv := h v (by simp)
    unfold ren renN at *
    rw [List.take_length] at *
    rw [List.filterMap_cons, ih]
    have hg := toL_get (gone := gone) (n := n) (i := v.toNat) (by omega)
    rw [hg, if_neg (by omega)]
    by_cases e : v.toNat = gone
    · have : ¬ 0 ≤ tq gone v.toNat := by unfold tq; rw [if_pos e]; omega
      rw [if_neg this]
      simp [e]
    · rw [if_pos (tq_ge e)]
      simp [e, tau]

theorem hFN_full {F : List Int} {gone : Nat} : ∀ m, hFN F gone m = (List.range (if gone < m then m - 1 else m)).map fun a => hF1 F gone (emb gone a)
  | 0 => by simp [hFN]
  | m + 1 => by
    have ih := hFN_full (F := F) (gone := gone) m
    unfold hFN at *
    rw [List.range_succ, List.filter_append, List.map_append, ih]
    rcases Nat.lt_trichotomy m gone with h | h | h
    · rw [if_neg (by omega), if_neg (by omega), List.range_succ, List.map_append]
      congr 1
      have : emb gone m = m := by unfold emb; rw [if_pos h]
      simp [this, Nat.ne_of_lt h]
    · subst h
      rw [if_neg (by omega), if_pos (by omega)]
      simp
    · rw [if_pos (by omega), if_pos (by omega)]
      have e : m + 1 - 1 = (m - 1) + 1 := by omega
      rw [e, List.range_succ, List.map_append]
      congr 1
      have : emb gone (m - 1) = m := by unfold emb; rw [if_neg (by omega)]; omega
      simp [this, Nat.ne_of_gt h]
theorem hFN_succ (F : List Int) (gone n : Nat) : hFN F gone (n + 1) = hFN F gone n ++ (if n = gone then [] else [hF1 F gone n]) := by
  unfold hFN
  rw [List.range_succ, List.filter_append, List.map_append]
  congr 1
  by_cases h : n = gone <;> simp [h]
theorem hFN_le (F : List Int) (gone n : Nat) : (hFN F gone n).length ≤ n := by
  unfold hFN
  rw [List.length_map]
  have := List.length_filter_le (fun i => !decide (i = gone)) (List.range n)
  rwa [List.length_range] at this

theorem stp_succ {p : List (List LOp)} {c : Nat} (h : c < p.length) : stp p (c + 1) = stp p c + (p.getD c []).length := st_succ h
theorem stp_all (p : List (List LOp)) : stp p p.length = (evs 0 p).length := st_all p
theorem stp_mono {p : List (List LOp)} {c d : Nat} (h : c ≤ d) : stp p c ≤ stp p d := st_mono h
theorem map_erase {α β : Type} (f : α → β) : ∀ (l : List α) (i : Nat), (l.map f).eraseIdx i = (l.eraseIdx i).map f
  | [], i => by simp
  | a :: l, 0 => by simp
  | a :: l, i + 1 => by simp [map_erase f l i]
theorem lessN_succ (p : List (List LOp)) (gone i : Nat) : lessN p gone (i + 1) = lessN p gone i ++ [lessK p gone i (p.getD i []).length] := by simp [lessN, List.range_succ]
theorem lessN_len (p : List (List LOp)) (gone i : Nat) : (lessN p gone i).length = i := by simp [lessN]
theorem lessN_evs {p : List (List LOp)} {gone : Nat} : ∀ i, i ≤ p.length → evs 0 (lessN p gone i) = (evs 0 (p.take i)).eraseIdx gone
  | 0, _ => by simp [lessN, evs]
  | i + 1, h => by
    have ih := lessN_evs (p := p) (gone := gone) i (by omega)
    have hs : (evs 0 (p.take i)).length = stp p i := rfl
    rw [lessN_succ, evs_append, ih, lessN_len, evs_succ (by omega)]
    simp only [evs, List.append_nil, Int.zero_add]
    by_cases hg : stp p i ≤ gone
    · rw [List.eraseIdx_append_of_length_le (by omega), List.eraseIdx_of_length_le (l := evs 0 (p.take i)) (by omega)]
      unfold lessK
      rw [if_pos hg, List.take_length, map_erase, hs]
    · rw [List.eraseIdx_append_of_lt_length (by omega)]
      unfold lessK
      rw [if_neg hg, List.take_length]
theorem lessP_evs (p : List (List LOp)) (gone : Nat) : evs 0 (lessP p gone) = (evs 0 p).eraseIdx gone := by
  unfold lessP
  rw [lessN_evs _ (Nat.le_refl _), List.take_length]

section
variable {p : List (List LOp)} {g : Gr} {gone : Nat}
/-- The graph without the fence. -/
def gless (g : Gr) (gone : Nat) : Gr := (g.1.eraseIdx gone, hFN g.2.1 gone g.1.length, hMN g.2.2.1 (toL gone g.1.length) 3, ren g.2.2.2.1 (toL gone g.1.length), ())

theorem gless_right (h : RightP (p, ()) g) (hg : gone < g.1.length) (hf : (ev g.1 gone).2.1.1 = 4) (h2 : 2 ≤ g.1.length) : RightP (lessP p gone, ()) (gless g gone) ∧
    (∀ x < 3, (gless g gone).2.2.1.getD x [] = (g.2.2.1.getD x []).map (tau gone)) ∧
    (gless g gone).2.2.2.1 = (g.2.2.2.1.filter fun v => !decide (v.toNat = gone)).map (tau gone) := by
  have hE : g.1.length = (evs 0 p).length := h.lenE
  have hF : g.2.1.length = (evs 0 p).length := h.lenF
  have hu := valid_ev h.valid
  have hu : (evs 0 p).length ≤ 6 ∧ ∀ x ∈ evs 0 p, usual x.2.1 = true := hu
  have hops : ∀ a : Nat, a < g.1.length → (ev g.1 (a : Int)).2.1 = (ev (evs 0 p) (a : Int)).2.1 := fun a ha => (h.src a (by show a < (evs 0 p).length; omega)).2.1
  have hev : evs 0 (lessP p gone) = (evs 0 p).eraseIdx gone := lessP_evs p gone
  have hlen : (evs 0 (lessP p gone)).length = g.1.length - 1 := by rw [hev, List.length_eraseIdx, if_pos (by omega), hE]
  have hFl : hFN g.2.1 gone g.1.length = (List.range (g.1.length - 1)).map fun a => hF1 g.2.1 gone (emb gone a) := by rw [hFN_full, if_pos hg]
  have hFg : ∀ a : Nat, a < g.1.length - 1 → (hFN g.2.1 gone g.1.length).getD a 0 = hF1 g.2.1 gone (emb gone a) := by
    intro a ha
    rw [hFl, getD_lt (by simpa using ha)]; simp
  have hMx : ∀ x, x < 3 → (∀ v ∈ g.2.2.1.getD x [], 0 ≤ v ∧ v < (g.1.length : Int) ∧ writes (ev g.1 v).2.1 = true ∧ (ev g.1 v).2.1.2.1 = (x : Int) ∧ v.toNat ≠ gone) := by
    intro x hx v hv
    have h1 := isList_in (h.mo x hx) hv
    have h1v : v < ((evs 0 p).length : Int) := h1.2.1
    have h3 := h1.2.2
    simp only [Bool.and_eq_true, decide_eq_true_eq] at h3
    have e := hops v.toNat (by omega)
    rw [Int.toNat_of_nonneg h1.1] at e
    rw [← e] at h3
    refine ⟨h1.1, by omega, h3.1, h3.2, fun e' => ?_⟩
    have hv' : v = (gone : Int) := by omega
    rw [hv'] at h3
    exact writes4 h3.1 hf
  have hOx : ∀ v ∈ g.2.2.2.1, 0 ≤ v ∧ v < (g.1.length : Int) ∧ (ev g.1 v).2.1.1 = 4 := by
    intro v hv
    have h1 := isList_in h.fo hv
    have h1v : v < ((evs 0 p).length : Int) := h1.2.1
    have h3 := h1.2.2
    simp only [decide_eq_true_eq] at h3
    have e := hops v.toNat (by omega)
    rw [Int.toNat_of_nonneg h1.1] at e
    rw [← e] at h3
    exact ⟨h1.1, by omega, h3⟩
  have hMr : ∀ x < 3, (gless g gone).2.2.1.getD x [] = (g.2.2.1.getD x []).map (tau gone) := by
    intro x hx
    show (hMN g.2.2.1 (toL gone g.1.length) 3).getD x [] = _
    unfold hMN
    rw [getD_lt (by simpa using hx)]
    simp only [List.getElem_map, List.getElem_range]
    rw [ren_toL (fun v hv => ⟨(hMx x hx v hv).1, (hMx x hx v hv).2.1⟩)]
    congr 1
    rw [List.filter_eq_self]
    intro v hv
    simp [(hMx x hx v hv).2.2.2.2]
  have hOr : (gless g gone).2.2.2.1 = (g.2.2.2.1.filter fun v => !decide (v.toNat = gone)).map (tau gone) := ren_toL (fun v hv => ⟨(hOx v hv).1, (hOx v hv).2.1⟩)
  have hfrm : ∀ a : Nat, a < g.1.length - 1 → (g.2.1.getD (emb gone a) 0 < 0 ∧ hF1 g.2.1 gone (emb gone a) = -1 ∧ g.2.1.getD (emb gone a) 0 = -1) ∨
      (0 ≤ g.2.1.getD (emb gone a) 0 ∧ g.2.1.getD (emb gone a) 0 < (g.1.length : Int) ∧ (g.2.1.getD (emb gone a) 0).toNat ≠ gone ∧ hF1 g.2.1 gone (emb gone a) = tau gone (g.2.1.getD (emb gone a) 0) ∧ reads (ev g.1 (emb gone a)).2.1 = true ∧
        writes (ev g.1 (g.2.1.getD (emb gone a) 0)).2.1 = true ∧ (ev g.1 (g.2.1.getD (emb gone a) 0)).2.1.2.1 = (ev g.1 (emb gone a)).2.1.2.1) := by
    intro a ha
    have hla := emb_lt hg ha
    obtain ⟨_, e2, h3, h4, h5⟩ := h.src (emb gone a) (by show _ < (evs 0 p).length; omega)
    have h4 : g.2.1.getD (emb gone a) 0 < ((evs 0 p).length : Int) := h4
    unfold hF1
    by_cases hn : g.2.1.getD (emb gone a) 0 < 0
    · left; exact ⟨hn, if_pos hn, by omega⟩
    · right
      obtain ⟨r1, r2, r3⟩ := h5 (by omega)
      have r2 : writes (ev (evs 0 p) (g.2.1.getD (emb gone a) 0)).2.1 = true := r2
      have r3 : (ev (evs 0 p) (g.2.1.getD (emb gone a) 0)).2.1.2.1 = (ev (evs 0 p) (emb gone a)).2.1.2.1 := r3
      have r1 : reads (ev (evs 0 p) (emb gone a)).2.1 = true := r1
      have e := hops (g.2.1.getD (emb gone a) 0).toNat (by omega)
      rw [Int.toNat_of_nonneg (by omega)] at e
      have e2 : (ev g.1 (emb gone a)).2.1 = (ev (evs 0 p) (emb gone a)).2.1 := e2
      refine ⟨by omega, by omega, fun e' => ?_, if_neg hn, by rw [e2]; exact r1, by rw [e]; exact r2, by rw [e, r3, e2]⟩
      have hv' : g.2.1.getD (emb gone a) 0 = (gone : Int) := by omega
      rw [hv'] at e r2
      rw [← e] at r2
      exact writes4 r2 hf
  refine ⟨?_, hMr, hOr⟩
  have hval : ∀ a : Nat, a < g.1.length - 1 → value (g.1.eraseIdx gone) (hF1 g.2.1 gone (emb gone a)) = value g.1 (g.2.1.getD (emb gone a) 0) := by
    intro a ha
    rcases hfrm a ha with ⟨h1, h2, h3⟩ | ⟨h1, h2, h3, h4, _⟩
    · rw [h2, h3]; rfl
    · rw [h4]
      unfold value tau
      have hq := tq_ge h3
      have e := erase_ev (E := g.1) (gone := gone) (a := (tq gone (g.2.1.getD (emb gone a) 0).toNat).toNat)
      rw [Int.toNat_of_nonneg hq, emb_tq h3, Int.toNat_of_nonneg h1] at e
      rw [if_neg (show ¬ tq gone (g.2.1.getD (emb gone a) 0).toNat < 0 by omega), if_neg (show ¬ g.2.1.getD (emb gone a) 0 < 0 by omega)]
      simp only [e]
  refine ⟨?_, ?_, ?_, ?_, fun n hn => ?_, fun n hn => ?_, fun q hq => ?_, ?_⟩
  · have hv := h.valid
    unfold valid at *
    simp only [Bool.and_eq_true, decide_eq_true_eq, List.all_eq_true] at *
    have hl : (lessP p gone).length = p.length := lessN_len _ _ _
    rw [hl, hlen]
    refine ⟨⟨⟨hv.1.1.1, by omega⟩, by omega⟩, fun x hx => hv.2 x ?_⟩
    rw [hev] at hx
    exact List.mem_of_mem_eraseIdx hx
  · show (g.1.eraseIdx gone).length = (evs 0 (lessP p gone)).length
    rw [hlen, List.length_eraseIdx, if_pos hg]
  · show (hFN g.2.1 gone g.1.length).length = (evs 0 (lessP p gone)).length
    rw [hlen, hFl]; simp
  · show (hMN g.2.2.1 (toL gone g.1.length) 3).length = 3
    simp [hMN]
  · have hn : n < g.1.length - 1 := by rw [← hlen]; exact hn
    have hla := emb_lt hg hn
    have hs := h.src (emb gone n) (by show _ < (evs 0 p).length; omega)
    show (ev (g.1.eraseIdx gone) n).1 = (ev (evs 0 (lessP p gone)) n).1 ∧ (ev (g.1.eraseIdx gone) n).2.1 = (ev (evs 0 (lessP p gone)) n).2.1 ∧ -1 ≤ (hFN g.2.1 gone g.1.length).getD n 0 ∧ (hFN g.2.1 gone g.1.length).getD n 0 < ((evs 0 (lessP p gone)).length : Int) ∧
      (0 ≤ (hFN g.2.1 gone g.1.length).getD n 0 → reads (ev (evs 0 (lessP p gone)) n).2.1 = true ∧ writes (ev (evs 0 (lessP p gone)) ((hFN g.2.1 gone g.1.length).getD n 0)).2.1 = true ∧ (ev (evs 0 (lessP p gone)) ((hFN g.2.1 gone g.1.length).getD n 0)).2.1.2.1 = (ev (evs 0 (lessP p gone)) n).2.1.2.1)
    rw [hFg n hn, hlen, hev, erase_ev, erase_ev]
    refine ⟨hs.1, hs.2.1, ?_⟩
    rcases hfrm n hn with ⟨h1, h2, h3⟩ | ⟨h1, h2, h3, h4, h5, h6, h7⟩
    · rw [h2]; exact ⟨by omega, by omega, fun h => by omega⟩
    · have hq := tq_ge h3
      have hq2 := tq_lt hg (i := (g.2.1.getD (emb gone n) 0).toNat) (by omega)
      have e := erase_ev (E := evs 0 p) (gone := gone) (a := (tq gone (g.2.1.getD (emb gone n) 0).toNat).toNat)
      rw [Int.toNat_of_nonneg hq, emb_tq h3, Int.toNat_of_nonneg h1] at e
      have e1 := hops (g.2.1.getD (emb gone n) 0).toNat (by omega)
      rw [Int.toNat_of_nonneg h1] at e1
      rw [h4]
      unfold tau
      rw [e, ← e1, ← hops _ hla]
      exact ⟨by omega, hq2, fun _ => ⟨h5, h6, h7⟩⟩
  · have hn : n < (g.1.eraseIdx gone).length := hn
    rw [List.length_eraseIdx, if_pos hg] at hn
    have hla := emb_lt hg hn
    have hgo := h.got (emb gone n) hla
    unfold got at *
    show (ev (g.1.eraseIdx gone) n).2.2.1 = if reads (ev (g.1.eraseIdx gone) n).2.1 = true then value (g.1.eraseIdx gone) ((hFN g.2.1 gone g.1.length).getD n 0) else 0
    rw [hFg n hn, erase_ev, hval n hn]
    exact hgo
  · show isList ((gless g gone).2.2.1.getD q []) (evs 0 (lessP p gone)) _ = true
    rw [hMr q hq]
    have hm := h.mo q hq
    unfold isList at hm ⊢
    simp only [Bool.and_eq_true, decide_eq_true_eq] at hm ⊢
    obtain ⟨⟨m1, m2⟩, m3⟩ := hm
    refine ⟨⟨?_, fun w hw => ?_⟩, fun n hn hw => ?_⟩
    · unfold List.Nodup
      rw [List.pairwise_map]
      refine List.Pairwise.imp_of_mem ?_ m1
      intro a b ha hb hab e
      have ha' := hMx q hq a ha
      have hb' := hMx q hq b hb
      exact hab (tau_inj ha'.1 hb'.1 ha'.2.2.2.2 hb'.2.2.2.2 e)
    · obtain ⟨v, hv, rfl⟩ := List.mem_map.1 hw
      have hv' := hMx q hq v hv
      have hq1 := tq_ge hv'.2.2.2.2
      have hq2 := tq_lt hg (i := v.toNat) (by omega)
      have e := erase_ev (E := evs 0 p) (gone := gone) (a := (tq gone v.toNat).toNat)
      rw [Int.toNat_of_nonneg hq1, emb_tq hv'.2.2.2.2, Int.toNat_of_nonneg hv'.1] at e
      unfold tau
      rw [hlen, hev, e]
      exact ⟨hq1, hq2, (m2 v hv).2.2⟩
    · rw [hlen] at hn
      rw [hev, erase_ev] at hw
      have := m3 (emb gone n) (by have := emb_lt hg hn; show _ < (evs 0 p).length; omega) hw
      refine List.mem_map.2 ⟨_, this, ?_⟩
      unfold tau
      rw [Int.toNat_natCast, tq_emb]
  · show isList (gless g gone).2.2.2.1 (evs 0 (lessP p gone)) _ = true
    rw [hOr]
    have hm := h.fo
    unfold isList at hm ⊢
    simp only [Bool.and_eq_true, decide_eq_true_eq] at hm ⊢
    obtain ⟨⟨m1, m2⟩, m3⟩ := hm
    have hin : ∀ v ∈ g.2.2.2.1.filter (fun v => !decide (v.toNat = gone)), v ∈ g.2.2.2.1 ∧ v.toNat ≠ gone := by
      intro v hv
      have := List.mem_filter.1 hv
      exact ⟨this.1, by simpa using this.2⟩
    refine ⟨⟨?_, fun w hw => ?_⟩, fun n hn hw => ?_⟩
    · unfold List.Nodup
      rw [List.pairwise_map]
      refine List.Pairwise.imp_of_mem ?_ (m1.filter _)
      intro a b ha hb hab e
      have ha' := hin a ha
      have hb' := hin b hb
      exact hab (tau_inj (hOx a ha'.1).1 (hOx b hb'.1).1 ha'.2 hb'.2 e)
    · obtain ⟨v, hv, rfl⟩ := List.mem_map.1 hw
      have hv' := hin v hv
      have hvO := hOx v hv'.1
      have hq1 := tq_ge hv'.2
      have hq2 := tq_lt hg (i := v.toNat) (by omega)
      have e := erase_ev (E := evs 0 p) (gone := gone) (a := (tq gone v.toNat).toNat)
      rw [Int.toNat_of_nonneg hq1, emb_tq hv'.2, Int.toNat_of_nonneg hvO.1] at e
      unfold tau
      rw [hlen, hev, e]
      exact ⟨hq1, hq2, (m2 v hv'.1).2.2⟩
    · rw [hlen] at hn
      rw [hev, erase_ev] at hw
      have := m3 (emb gone n) (by have := emb_lt hg hn; show _ < (evs 0 p).length; omega) hw
      refine List.mem_map.2 ⟨_, List.mem_filter.2 ⟨this, ?_⟩, ?_⟩
      · simpa using emb_ne gone n
      · unfold tau
        rw [Int.toNat_natCast, tq_emb]

theorem gless_allowed (h : AllowP (p, ()) g) (hg : gone < g.1.length) (hf : (ev g.1 gone).2.1.1 = 4) (h2 : 2 ≤ g.1.length) : AllowP (lessP p gone, ()) (gless g gone) := by
  obtain ⟨hR, hMr, hOr⟩ := gless_right h.right hg hf h2
  have hE : g.1.length = (evs 0 p).length := h.right.lenE
  have hl : (gless g gone).1.length = g.1.length - 1 := by
    show (g.1.eraseIdx gone).length = _
    rw [List.length_eraseIdx, if_pos hg]
  have hF : g.2.1.length = (evs 0 p).length := h.right.lenF
  have hFl : (gless g gone).2.1 = (List.range (g.1.length - 1)).map fun a => hF1 g.2.1 gone (emb gone a) := by
    show hFN g.2.1 gone g.1.length = _
    rw [hFN_full, if_pos hg]
  have hFg : ∀ a : Nat, a < g.1.length - 1 → (gless g gone).2.1.getD a 0 = hF1 g.2.1 gone (emb gone a) := by
    intro a ha
    rw [hFl, getD_lt (by simpa using ha)]; simp
  have hev : ∀ a : Nat, ev (gless g gone).1 (a : Int) = ev g.1 (emb gone a : Int) := fun a => erase_ev
  have hops : ∀ a : Nat, a < g.1.length → (ev g.1 (a : Int)).2.1 = (ev (evs 0 p) (a : Int)).2.1 := fun a ha => (h.right.src a (by show a < (evs 0 p).length; omega)).2.1
  have hO : ∀ a b : Nat, Ord (gless g gone) a b → Ord g (emb gone a) (emb gone b) := by
    intro a b hab
    have hlt := hR.ord_lt hab
    rw [hl] at hlt
    rcases hab with ⟨h1, h3, h4⟩ | h1
    · left
      rw [hev, hev] at h4
      refine ⟨?_, emb_lt hg hlt.2, h4⟩
      unfold emb; split <;> split <;> omega
    · right
      rw [hOr] at h1
      have h3 := h1.map (fun v : Int => ((emb gone v.toNat : Nat) : Int))
      rw [List.map_map] at h3
      have e : (g.2.2.2.1.filter fun v => !decide (v.toNat = gone)).map ((fun v : Int => ((emb gone v.toNat : Nat) : Int)) ∘ tau gone) = g.2.2.2.1.filter fun v => !decide (v.toNat = gone) := by
        conv => rhs; rw [← List.map_id (g.2.2.2.1.filter fun v => !decide (v.toNat = gone))]
        refine List.map_congr_left fun v hv => ?_
        have hv := List.mem_filter.1 hv
        have hv0 := (isList_in h.right.fo hv.1).1
        simp only [Function.comp, id, tau]
        rw [emb_tq (by simpa using hv.2), Int.toNat_of_nonneg hv0]
      rw [e] at h3
      simp only [List.map_cons, List.map_nil, Int.toNat_natCast] at h3
      exact h3.trans List.filter_sublist
  refine h.of hR (emb gone) hO (fun a b hab => ?_) (fun a ha => ?_) (fun a ha b hb h4 h5 hx => ?_)
  · have hlt := hR.flow_lt hab
    rw [hl] at hlt
    rcases hab with hab | ⟨h1, h3⟩
    · exact .inl (hO a b hab)
    · right
      rw [hFg b hlt.2] at h3
      unfold hF1 at h3
      split at h3
      · omega
      · rename_i hn
        have hne : (g.2.1.getD (emb gone b) 0).toNat ≠ gone := by
          intro e
          rw [e] at h3
          unfold tq at h3
          rw [if_pos rfl] at h3
          omega
        have := emb_tq hne
        rw [h3, Int.toNat_natCast] at this
        exact ⟨by have := emb_lt hg hlt.2; omega, by omega⟩
  · rw [hl] at ha
    have hla := emb_lt hg ha
    refine ⟨hla, by rw [hev], fun h4 => ?_⟩
    rw [hev] at h4
    have hu := usual_X ((valid_ev h.right.valid).2 _ (ev_mem (n := emb gone a) (by show _ < (evs 0 p).length; omega)))
    have hu : 0 ≤ (ev (evs 0 p) (emb gone a)).2.1.2.1 ∧ (ev (evs 0 p) (emb gone a)).2.1.2.1 < 3 := hu
    rw [← hops _ hla] at hu
    have hML := fun v => isList_in (n := v) (h.right.mo (ev g.1 (emb gone a)).2.1.2.1.toNat (by omega))
    unfold plc
    rw [hev, hMr _ (by omega), Int.toNat_natCast, Int.toNat_natCast]
    have hML : ∀ v ∈ g.2.2.1.getD (ev g.1 (emb gone a)).2.1.2.1.toNat [], 0 ≤ v ∧ v.toNat ≠ gone := by
      intro v hv
      have h1 := hML v hv
      have h1' : v < ((evs 0 p).length : Int) := h1.2.1
      have h3 := h1.2.2
      simp only [Bool.and_eq_true] at h3
      have h3 : writes (ev (evs 0 p) v).2.1 = true := h3.1
      refine ⟨h1.1, fun e => ?_⟩
      have hv' : v = (gone : Int) := by omega
      rw [hv', ← hops gone hg] at h3
      exact writes4 h3 hf
    generalize g.2.2.1.getD (ev g.1 (emb gone a)).2.1.2.1.toNat [] = l at *
    have e1 : idx (l.map (tau gone)) (a : Int) = idx l ((emb gone a : Nat) : Int) := by
      have : (a : Int) = tau gone ((emb gone a : Nat) : Int) := by unfold tau; rw [Int.toNat_natCast, tq_emb]
      rw [this]
      refine idx_map (fun w hw e => ?_)
      exact tau_inj (hML w hw).1 (by omega) (hML w hw).2 (by rw [Int.toNat_natCast]; exact emb_ne gone a) e
    rw [e1]
    congr 1
    congr 1
    rw [hFg a ha]
    unfold hF1
    split
    · rename_i hn
      rw [← idx_none (fun hm => ?_), ← idx_none (fun hm => ?_)]
      · have := (hML _ hm).1; omega
      · obtain ⟨w, hw, e⟩ := List.mem_map.1 hm
        have := tq_ge (hML w hw).2
        unfold tau at e
        omega
    · rename_i hn
      refine idx_map (τ := tau gone) (fun w hw e => ?_)
      obtain ⟨_, _, _, _, h6⟩ := h.right.src (emb gone a) (by show _ < (evs 0 p).length; omega)
      have r2 : writes (ev (evs 0 p) (g.2.1.getD (emb gone a) 0)).2.1 = true := (h6 (by omega)).2.1
      refine tau_inj (hML w hw).1 (by omega) (hML w hw).2 (fun e' => ?_) e
      have hv' : g.2.1.getD (emb gone a) 0 = (gone : Int) := by omega
      rw [hv', ← hops gone hg] at r2
      exact writes4 r2 hf
  · rw [hev, hev] at hx
    exact hx
end
end Sp
namespace Go.User
open Go.Proofs Go.Lf
set_option maxRecDepth 100000
theorem vc14 : funI C14 (stpP C14) S14 L14 Try.f14 = (
let q0 : Int := (0 : Int);
let q1 : Nat := (100 : Nat);
let q2 : Prop := True ∧ True ∧ True;
let q3 : Prop := q2 ∧ True;
let q4 : Prop := True ∧ q2;
let q5 : Prop := True ∧ q4;
let q6 : Prop := True ∧ q5;
let q7 : Prop := True ∧ True ∧ q6;
let q8 : Prop := (True ∧ True) ∧ True ∧ True;
let q9 : Prop := (True ∧ True) ∧ True;
let q10 : List (List Int) := ([] : List tI.slice.den);
let q11 : List Int × Unit := (([] : List tI.den), ());
let q12 : List (Int × (Int × Int × Int × Unit) × Int × Unit) × List Int × List (List Int) × List Int × Unit := (([] : List tLEv.den), ([] : List tI.den), q10, q11);
let q13 : Prop := q12 = q12;
let q14 : List (List Int) × List Int × Unit := (([] : List tI.den) :: ([] : List tI.den) :: ([] : List tI.den) :: q10, q11);
let q15 : List Int × List (List Int) × List Int × Unit := (([] : List tI.den), q14);
let q16 : Int := (1 : Int);
let q17 : Int := (-1 : tI.den);
let q18 : Prop := q4 ∧ True;
let q19 : List Int := -q16 :: ([] : List tI.den);
let q20 : List Step := Step.fst :: ([] : List Step);
let q21 : List Step := Step.snd :: q20;
let q22 : List Step := List.append._f (([] : List Step)) PUnit.unit q21;
let q23 : Int × Unit := (q0, ());
let q24 : Int × (Int × Int × Int × Unit) × Int × Unit := (q0, (q0, q0, q23), q23);
let q25 : List Step := Step.snd :: q21;
let q26 : List Step := List.append._f (([] : List Step)) PUnit.unit (Step.snd :: q25);
let q27 : Prop := Step.snd = Step.snd ∧ Step.snd = Step.snd ∧ Step.fst = Step.fst ∧ True;
∀ (x : (List (List (Int × Int × Int × Unit)) × Unit) × List Int × Unit),
  let q28 : List (Int × (Int × Int × Int × Unit) × Int × Unit) := Sp.evs q0 x.1.1;
  let q29 : Nat := q28.length;
  let q30 : Nat := x.1.1.length;
  let q31 : Prop := x.2.1 = x.2.1;
  let q32 : Prop := x.1 = x.1;
  let q33 : List (Int × (Int × Int × Int × Unit) × Int × Unit) × List Int × List (List Int) × List Int × Unit := (q28, q15);
  let q34 : Prop := q31 ∧ q32 ∧ q13 ∧ q33 = q33 ∧ True;
  let q35 : List Int := Sp.enN x.1.1 q30;
  (q29 ≤ q1 ∧ ∀ (x : Sp.LEv), x ∈ q28 → inN x.2.1.2.1 (3 : Nat)) ∧ q30 ≤ q1 →
    dFact (((Ty.int IntKind.i64).prod ((Ty.int IntKind.i64).prod ((Ty.int IntKind.i64).prod Ty.unit))).slice.slice.prod Ty.unit) x.1 ∧ dFact (Ty.int IntKind.u8).slice x.2.1 ∧ True →
      q3 ∧
        ((True ∧ q29 ≤ (1000 : Nat) ∧ q7) ∧ True ∧ True) ∧
          q8 ∧
            q8 ∧
              q9 ∧
                q9 ∧
                  (∃ (x_1 : Nat), x_1 ≤ q30 ∧ q0 = (↑x_1 : Int) ∧ q0 = (↑(Sp.evs q0 (List.take x_1 x.1.1)).length : Int) ∧ ([] : List tI.den) = Sp.nxN x.1.1 x_1 ∧ ([] : List tI.den) = Sp.enN x.1.1 x_1 ∧ q34) ∧
                    ∀ (x_1 : Nat),
                      let q36 : Int := (↑(Sp.evs q0 (List.take x_1 x.1.1)).length : Int);
                      let q37 : List Int := Sp.nxN x.1.1 x_1;
                      let q38 : List Int := Sp.enN x.1.1 x_1;
                      let q39 : Bool := decide ((↑x_1 : Int) < (↑q30 : Int));
                      let q40 : List Int := q36 :: ([] : List tI.den);
                      let q41 : Int := q36 + (↑(List.length (x.1.1.getD (↑x_1 : Int).toNat (([] : List tLOp.den)))) : Int);
                      let q42 : Nat := q38.length;
                      let q43 : List Int := q41 :: ([] : List tI.den);
                      let q44 : Int := (↑x_1 : Int) + q16;
                      let q45 : Prop := q38 = q38;
                      let q46 : Prop := q36 = q36;
                      let q47 : Prop := q45 ∧ q46 ∧ True;
                      let q48 : Prop := q31 ∧ q32 ∧ q13 ∧ q37 = q37 ∧ q47;
                      let q49 : Prop := q31 ∧ q32 ∧ q13 ∧ q47;
                      x_1 ≤ q30 →
                        dFact (Ty.int IntKind.i64) (↑x_1 : Int) ∧ dFact (Ty.int IntKind.i64) q36 ∧ dFact (Ty.int IntKind.i64).slice q37 ∧ dFact (Ty.int IntKind.i64).slice q38 ∧ True →
                          (q6 ∧ True) ∧
                            (q39 = true → (q4 ∧ (↑(q37.length + q40.length) : Int) ≤ maxNew ∧ True ∧ True) ∧ ((True ∧ True ∧ True ∧ True ∧ inN (↑x_1 : Int) q30 ∧ True ∧ True ∧ inK IntKind.i64 q41 ∧ True ∧ True) ∧ True) ∧ (q4 ∧ (↑(q42 + q43.length) : Int) ≤ maxNew ∧ True ∧ True) ∧ ((True ∧ inK IntKind.i64 q44 ∧ True ∧ True) ∧ True) ∧ ∃ (y : Nat), y ≤ q30 ∧ q30 - y < q30 - x_1 ∧ q44 = (↑y : Int) ∧ q41 = (↑(Sp.evs q0 (List.take y x.1.1)).length : Int) ∧ q37 ++ q40 = Sp.nxN x.1.1 y ∧ q38 ++ q43 = Sp.enN x.1.1 y ∧ q34) ∧
                              (q39 = false →
                                q9 ∧
                                  (∃ (x : Nat), x ≤ q29 ∧ q0 = (↑x : Int) ∧ q33 = (q28, List.replicate x q17, q14) ∧ q48) ∧
                                    ∀ (x_2 : Nat),
                                      let q50 : List Int := List.replicate x_2 q17;
                                      let q51 : List (Int × (Int × Int × Int × Unit) × Int × Unit) × List Int × List (List Int) × List Int × Unit := (q28, q50, q14);
                                      let q52 : Bool := decide ((↑x_2 : Int) < q36);
                                      let q53 : Int := (↑x_2 : Int) + q16;
                                      x_2 ≤ q29 →
                                        dFact (Ty.int IntKind.i64) (↑x_2 : Int) ∧ dFact (((Ty.int IntKind.i64).prod (((Ty.int IntKind.i64).prod ((Ty.int IntKind.i64).prod ((Ty.int IntKind.i64).prod Ty.unit))).prod ((Ty.int IntKind.i64).prod Ty.unit))).slice.prod ((Ty.int IntKind.i64).slice.prod ((Ty.int IntKind.i64).slice.slice.prod ((Ty.int IntKind.i64).slice.prod Ty.unit)))) q51 ∧ True →
                                          q18 ∧
                                            (q52 = true → (q4 ∧ (↑(q50.length + q19.length) : Int) ≤ maxNew ∧ True ∧ q22 = q22 ∧ True) ∧ ((True ∧ inK IntKind.i64 q53 ∧ True ∧ True) ∧ True) ∧ ∃ (y : Nat), y ≤ q29 ∧ q29 - y < q29 - x_2 ∧ q53 = (↑y : Int) ∧ (q28, q50 ++ q19, q14) = (q28, List.replicate y q17, q14) ∧ q48) ∧
                                              (q52 = false →
                                                q9 ∧
                                                  (∃ (x_3 : Nat),
                                                      let q54 : List Int × List (Int × (Int × Int × Int × Unit) × Int × Unit) × List Int × List (List Int) × List Int := Sp.runN x.1.1 x.2.1 x_3;
                                                      let q55 : List (Int × (Int × Int × Int × Unit) × Int × Unit) × List Int × List (List Int) × List Int := q54.2;
                                                      let q56 : List Int × List (List Int) × List Int := q55.2;
                                                      let q57 : List (List Int) × List Int := q56.2;
                                                      x_3 ≤ q29 ∧ q0 = (↑x_3 : Int) ∧ q37 = q54.1 ∧ q51 = (q55.1, q56.1, q57.1, q57.2, ()) ∧ q49) ∧
                                                    ∀ (x_3 : Nat),
                                                      let q58 : List Int × List (Int × (Int × Int × Int × Unit) × Int × Unit) × List Int × List (List Int) × List Int := Sp.runN x.1.1 x.2.1 x_3;
                                                      let q59 : List Int := q58.1;
                                                      let q60 : List (Int × (Int × Int × Int × Unit) × Int × Unit) × List Int × List (List Int) × List Int := q58.2;
                                                      let q61 : List (Int × (Int × Int × Int × Unit) × Int × Unit) := q60.1;
                                                      let q62 : List Int × List (List Int) × List Int := q60.2;
                                                      let q63 : List Int := q62.1;
                                                      let q64 : List (List Int) × List Int := q62.2;
                                                      let q65 : List (List Int) := q64.1;
                                                      let q66 : List Int := q64.2;
                                                      let q67 : List Int × Unit := (q66, ());
                                                      let q68 : List (List Int) × List Int × Unit := (q65, q67);
                                                      let q69 : List (Int × (Int × Int × Int × Unit) × Int × Unit) × List Int × List (List Int) × List Int × Unit := (q61, q63, q68);
                                                      let q70 : Bool := decide ((↑x_3 : Int) < q36);
                                                      let q71 : Nat := q59.length;
                                                      let q72 : Prop := q31 ∧ q32 ∧ q13 ∧ q69 = q69 ∧ q59 = q59 ∧ q45 ∧ q46 ∧ (↑x_3 : Int) = (↑x_3 : Int) ∧ True;
                                                      let q73 : Nat := q59.length;
                                                      let q74 : Int := Sp.byteAt x.2.1 (↑x_3 : Int);
                                                      let q75 : Nat := q61.length;
                                                      let q76 : Int := (↑x_3 : Int) + q16;
                                                      let q77 : Prop := (True ∧ inK IntKind.i64 q76 ∧ True ∧ True) ∧ True;
                                                      let q78 : Nat := q65.length;
                                                      x_3 ≤ q29 →
                                                        dFact (Ty.int IntKind.i64) (↑x_3 : Int) ∧ dFact (Ty.int IntKind.i64).slice q59 ∧ dFact (((Ty.int IntKind.i64).prod (((Ty.int IntKind.i64).prod ((Ty.int IntKind.i64).prod ((Ty.int IntKind.i64).prod Ty.unit))).prod ((Ty.int IntKind.i64).prod Ty.unit))).slice.prod ((Ty.int IntKind.i64).slice.prod ((Ty.int IntKind.i64).slice.slice.prod ((Ty.int IntKind.i64).slice.prod Ty.unit)))) q69 ∧ True →
                                                          q18 ∧
                                                            (q70 = true →
                                                                q8 ∧
                                                                  q9 ∧
                                                                    (∃ (x : Nat), x ≤ q71 ∧ q0 = (↑x : Int) ∧ ([] : List tI.den) = Sp.canN q59 q35 x ∧ q72) ∧
                                                                      ∀ (x_4 : Nat),
                                                                        let q79 : Bool := decide ((↑x_4 : Int) < (↑q73 : Int));
                                                                        let q80 : Nat := (↑x_4 : Int).toNat;
                                                                        let q81 : Bool := decide (q59.getD q80 q0 < q38.getD q80 q0);
                                                                        let q82 : Nat := (Sp.canN q59 q35 x_4).length;
                                                                        let q83 : List Int := (↑x_4 : Int) :: ([] : List tI.den);
                                                                        let q84 : Int := (↑x_4 : Int) + q16;
                                                                        let q85 : Prop := (True ∧ inK IntKind.i64 q84 ∧ True ∧ True) ∧ True;
                                                                        let q86 : Int := (↑q82 : Int);
                                                                        let q87 : Int := q74.tmod q86;
                                                                        let q88 : Int := (Sp.canN q59 q35 x_4).getD q87.toNat q0;
                                                                        let q89 : Prop := inN q88 q73;
                                                                        let q90 : Nat := q88.toNat;
                                                                        let q91 : Int := q59.getD q90 q0;
                                                                        let q92 : Int := q91 + q16;
                                                                        let q93 : Prop := inN q91 q75;
                                                                        let q94 : Nat := q91.toNat;
                                                                        let q95 : Int × (Int × Int × Int × Unit) × Int × Unit := q61.getD q94 q24;
                                                                        let q96 : (Int × Int × Int × Unit) × Int × Unit := q95.2;
                                                                        let q97 : Int × Int × Int × Unit := q96.1;
                                                                        let q98 : Bool := q97.1 == (4 : Int);
                                                                        let q99 : List Int := q91 :: ([] : List tI.den);
                                                                        let q100 : Nat := q99.length;
                                                                        let q101 : Int := q97.2.1;
                                                                        let q102 : Prop := inN q101 q78;
                                                                        let q103 : Bool := Sp.reads q97;
                                                                        let q104 : Prop := (true && bif q103 then true else false) = true → True;
                                                                        let q105 : Nat := q101.toNat;
                                                                        let q106 : List Int := q65.getD q105 (([] : List tI.den));
                                                                        let q107 : Nat := q106.length;
                                                                        let q108 : Int := (↑q107 : Int);
                                                                        let q109 : Bool := bif q103 then decide (q108 > q0) else false;
                                                                        let q110 : Int := q108 - q16;
                                                                        let q111 : List Int := q63.set q94 (q106.getD q110.toNat q0);
                                                                        let q112 : Int := q111.getD q94 q0;
                                                                        let q113 : Bool := Sp.writes q97;
                                                                        let q114 : Prop := q113 = true;
                                                                        let q115 : Prop := True ∧ True ∧ True ∧ True ∧ True ∧ True ∧ True ∧ (↑(q107 + q100) : Int) ≤ maxNew ∧ q102 ∧ True;
                                                                        let q116 : Prop := Step.snd = Step.snd ∧ Step.snd = Step.snd ∧ Step.fst = Step.fst ∧ Step.idx q105 = Step.idx q105 ∧ True;
                                                                        let q117 : Prop := True ∧ q27 ∧ True ∧ True ∧ q116 ∧ q5;
                                                                        let q118 : Prop := True ∧ True ∧ True ∧ True ∧ True ∧ True ∧ True ∧ True ∧ True ∧ True ∧ q116 ∧ True ∧ True ∧ True ∧ q27 ∧ True ∧ True ∧ True ∧ True ∧ True ∧ True ∧ True ∧ True ∧ True ∧ True ∧ True ∧ True ∧ True ∧ True ∧ True ∧ True ∧ True ∧ True ∧ True ∧ True ∧ True ∧ True ∧ True ∧ True ∧ True ∧ True ∧ True ∧ True ∧ True ∧ True ∧ True ∧ True ∧ True ∧ True ∧ True ∧ True ∧ True ∧ True ∧ True ∧ True ∧ True ∧ True ∧ True ∧ True ∧ True ∧ True ∧ True ∧ True ∧ True ∧ True ∧ True ∧ True ∧ True ∧ True ∧ True ∧ True ∧ True ∧ True ∧ True ∧ True ∧ True ∧ True ∧ True ∧ True ∧ True ∧ True ∧ True ∧ True ∧ True ∧ True ∧ True ∧ True ∧ True ∧ True ∧ True ∧ True ∧ True ∧ True ∧ True ∧ True ∧ True ∧ True ∧ True ∧ True ∧ True ∧ True ∧ True ∧ True ∧ True ∧ True ∧ True ∧ True ∧ True ∧ True ∧ True ∧ True ∧ True ∧ True ∧ True ∧ True ∧ True ∧ True ∧ True ∧ q116 ∧ True ∧ True ∧ True ∧ True ∧ True ∧ True ∧ True ∧ True ∧ True ∧ True ∧ q7;
                                                                        let q119 : List Step := List.append._f q25 ⟨List.append._f q21 ⟨List.append._f q20 ⟨List.append._f (([] : List Step)) PUnit.unit, PUnit.unit⟩, List.append._f (([] : List Step)) PUnit.unit, PUnit.unit⟩, List.append._f q20 ⟨List.append._f (([] : List Step)) PUnit.unit, PUnit.unit⟩, List.append._f (([] : List Step)) PUnit.unit, PUnit.unit⟩ (Step.idx q105 :: ([] : List Step));
                                                                        let q120 : Prop := q119 = q119 ∧ True;
                                                                        let q121 : List (Int × (Int × Int × Int × Unit) × Int × Unit) := q61.set q94 (q95.1, q97, Sp.value q61 q112, q96.2.2);
                                                                        let q122 : List (List Int) × List Int × Unit := (q65.set q105 (q106 ++ q99), q67);
                                                                        let q123 : Prop := q113 = false;
                                                                        x_4 ≤ q71 →
                                                                          dFact (Ty.int IntKind.i64) (↑x_4 : Int) ∧ dFact (Ty.int IntKind.i64).slice (Sp.canN q59 q35 x_4) ∧ True →
                                                                            (q5 ∧ True) ∧
                                                                              (q79 = true → ((True ∧ True ∧ inN (↑x_4 : Int) q73 ∧ True ∧ True ∧ True ∧ inN (↑x_4 : Int) q42 ∧ q2) ∧ True) ∧ (q81 = true → (q4 ∧ (↑(q82 + q83.length) : Int) ≤ maxNew ∧ True ∧ True) ∧ q85 ∧ ∃ (y : Nat), y ≤ q71 ∧ q71 - y < q71 - x_4 ∧ q84 = (↑y : Int) ∧ Sp.canN q59 q35 x_4 ++ q83 = Sp.canN q59 q35 y ∧ q72) ∧ (q81 = false → q85 ∧ ∃ (y : Nat), y ≤ q71 ∧ q71 - y < q71 - x_4 ∧ q84 = (↑y : Int) ∧ Sp.canN q59 q35 x_4 = Sp.canN q59 q35 y ∧ q72)) ∧
                                                                                (q79 = false →
                                                                                  ((True ∧ True ∧ True ∧ (0 : (AK.val tI).den) ≤ (↑x_3 : Int) ∧ True ∧ True ∧ q86 ≠ q0 ∧ inN q87 q82 ∧ q2) ∧ True) ∧
                                                                                    ((True ∧ True ∧ q89 ∧ q2) ∧ True) ∧
                                                                                      ((True ∧ True ∧ q89 ∧ True ∧ inK IntKind.i64 q92 ∧ q89 ∧ True) ∧ True ∧ True) ∧
                                                                                        ((True ∧ True ∧ True ∧ q93 ∧ q4) ∧ True ∧ True) ∧
                                                                                          q18 ∧
                                                                                            (q98 = true →
                                                                                                (q5 ∧ (↑(q66.length + q100) : Int) ≤ maxNew ∧ True ∧ q26 = q26 ∧ True) ∧
                                                                                                  q77 ∧
                                                                                                    ∃ (y : Nat),
                                                                                                      let q124 : List Int × List (Int × (Int × Int × Int × Unit) × Int × Unit) × List Int × List (List Int) × List Int := Sp.runN x.1.1 x.2.1 y;
                                                                                                      let q125 : List (Int × (Int × Int × Int × Unit) × Int × Unit) × List Int × List (List Int) × List Int := q124.2;
                                                                                                      let q126 : List Int × List (List Int) × List Int := q125.2;
                                                                                                      let q127 : List (List Int) × List Int := q126.2;
                                                                                                      y ≤ q29 ∧ q29 - y < q29 - x_3 ∧ q76 = (↑y : Int) ∧ q59.set q90 q92 = q124.1 ∧ (q61, q63, q65, q66 ++ q99, ()) = (q125.1, q126.1, q127.1, q127.2, ()) ∧ q49) ∧
                                                                                              (q98 = false →
                                                                                                ((True ∧ True ∧ True ∧ True ∧ q102 ∧ q2) ∧ True) ∧
                                                                                                  ((True ∧ True ∧ True ∧ q104 ∧ q104 ∧ q104 ∧ True ∧ True) ∧ True) ∧
                                                                                                    (q109 = true →
                                                                                                        ((True ∧ True ∧ True ∧ True ∧ True ∧ True ∧ inK IntKind.i64 q110 ∧ inN q110 q107 ∧ True ∧ inN q91 q63.length ∧ True) ∧ True ∧ True) ∧
                                                                                                          ((True ∧ True ∧ True ∧ True ∧ True ∧ True ∧ True ∧ inN q91 q111.length ∧ True ∧ q112 < (↑q75 : Int) ∧ q93 ∧ True ∧ True) ∧ True ∧ True) ∧
                                                                                                            q3 ∧
                                                                                                              (q114 →
                                                                                                                  ((q115 ∧ True ∧ True ∧ True ∧ True ∧ True ∧ True ∧ True ∧ (q117 ∧ True ∧ True ∧ True ∧ True ∧ True ∧ True ∧ True ∧ True ∧ True ∧ True ∧ True ∧ True ∧ True ∧ True ∧ True ∧ True ∧ True ∧ True ∧ True ∧ True ∧ True ∧ True ∧ True ∧ True ∧ True ∧ True ∧ True ∧ True ∧ True ∧ q116 ∧ q116 ∧ q118) ∧ True ∧ True) ∧ q120) ∧
                                                                                                                    q77 ∧
                                                                                                                      ∃ (y : Nat),
                                                                                                                        let q128 : List Int × List (Int × (Int × Int × Int × Unit) × Int × Unit) × List Int × List (List Int) × List Int := Sp.runN x.1.1 x.2.1 y;
                                                                                                                        let q129 : List (Int × (Int × Int × Int × Unit) × Int × Unit) × List Int × List (List Int) × List Int := q128.2;
                                                                                                                        let q130 : List Int × List (List Int) × List Int := q129.2;
                                                                                                                        let q131 : List (List Int) × List Int := q130.2;
                                                                                                                        y ≤ q29 ∧ q29 - y < q29 - x_3 ∧ q76 = (↑y : Int) ∧ q59.set q90 q92 = q128.1 ∧ (q121, q111, q122) = (q129.1, q130.1, q131.1, q131.2, ()) ∧ q49) ∧
                                                                                                                (q123 →
                                                                                                                  q77 ∧
                                                                                                                    ∃ (y : Nat),
                                                                                                                      let q132 : List Int × List (Int × (Int × Int × Int × Unit) × Int × Unit) × List Int × List (List Int) × List Int := Sp.runN x.1.1 x.2.1 y;
                                                                                                                      let q133 : List (Int × (Int × Int × Int × Unit) × Int × Unit) × List Int × List (List Int) × List Int := q132.2;
                                                                                                                      let q134 : List Int × List (List Int) × List Int := q133.2;
                                                                                                                      let q135 : List (List Int) × List Int := q134.2;
                                                                                                                      y ≤ q29 ∧ q29 - y < q29 - x_3 ∧ q76 = (↑y : Int) ∧ q59.set q90 q92 = q132.1 ∧ (q121, q111, q68) = (q133.1, q134.1, q135.1, q135.2, ()) ∧ q49)) ∧
                                                                                                      (q109 = false →
                                                                                                        q3 ∧
                                                                                                          (q114 →
                                                                                                              ((q115 ∧ True ∧ True ∧ True ∧ True ∧ True ∧ True ∧ True ∧ (q117 ∧ True ∧ True ∧ True ∧ True ∧ True ∧ True ∧ True ∧ True ∧ True ∧ True ∧ True ∧ True ∧ True ∧ True ∧ True ∧ True ∧ True ∧ True ∧ True ∧ True ∧ True ∧ True ∧ True ∧ True ∧ True ∧ True ∧ True ∧ True ∧ True ∧ True ∧ True ∧ q118) ∧ True ∧ True) ∧ q120) ∧
                                                                                                                q77 ∧
                                                                                                                  ∃ (y : Nat),
                                                                                                                    let q136 : List Int × List (Int × (Int × Int × Int × Unit) × Int × Unit) × List Int × List (List Int) × List Int := Sp.runN x.1.1 x.2.1 y;
                                                                                                                    let q137 : List (Int × (Int × Int × Int × Unit) × Int × Unit) × List Int × List (List Int) × List Int := q136.2;
                                                                                                                    let q138 : List Int × List (List Int) × List Int := q137.2;
                                                                                                                    let q139 : List (List Int) × List Int := q138.2;
                                                                                                                    y ≤ q29 ∧ q29 - y < q29 - x_3 ∧ q76 = (↑y : Int) ∧ q59.set q90 q92 = q136.1 ∧ (q61, q63, q122) = (q137.1, q138.1, q139.1, q139.2, ()) ∧ q49) ∧
                                                                                                            (q123 →
                                                                                                              q77 ∧
                                                                                                                ∃ (y : Nat),
                                                                                                                  let q140 : List Int × List (Int × (Int × Int × Int × Unit) × Int × Unit) × List Int × List (List Int) × List Int := Sp.runN x.1.1 x.2.1 y;
                                                                                                                  let q141 : List (Int × (Int × Int × Int × Unit) × Int × Unit) × List Int × List (List Int) × List Int := q140.2;
                                                                                                                  let q142 : List Int × List (List Int) × List Int := q141.2;
                                                                                                                  let q143 : List (List Int) × List Int := q142.2;
                                                                                                                  y ≤ q29 ∧ q29 - y < q29 - x_3 ∧ q76 = (↑y : Int) ∧ q59.set q90 q92 = q140.1 ∧ q69 = (q141.1, q142.1, q143.1, q143.2, ()) ∧ q49))))) ∧
                                                              (q70 = false → q8 ∧ q69 = (Sp.iE x.1 x.2.1, Sp.iF x.1 x.2.1, Sp.iM x.1 x.2.1, Sp.iO x.1 x.2.1, ()))))) := by kernel_rfl
theorem vc4 : funI C4 (stpP C4) S4 L4 Try.f4 = (
let q0 : Prop := (True ∧ True) ∧ True;
let q1 : Prop := True ∧ True ∧ True;
let q2 : Prop := q1 ∧ True;
let q3 : Int := (0 : Int);
let q4 : Nat := (100 : Nat);
let q5 : Prop := (true && true) = true;
let q6 : Prop := q5 → True;
∀ (x : List Int × List Int × Unit),
  let q7 : List (Int × (Int × Int × Int × Unit) × Int × Unit) := Sp.evs q3 (Sp.madeP x.1);
  let q8 : Nat := q7.length;
  let q9 : Prop := q8 ≤ (1000 : Nat);
  let q10 : List (List (Int × Int × Int × Unit)) × Unit := (Sp.madeP x.1, ());
  let q11 : List (Int × (Int × Int × Int × Unit) × Int × Unit) × List Int × List (List Int) × List Int × Unit := (Sp.iE q10 x.2.1, Sp.iF q10 x.2.1, Sp.iM q10 x.2.1, Sp.iO q10 x.2.1, ());
  let q12 : Bool := Sp.right q10 q11;
  let q13 : Prop := (true && bif q12 then true else false) = true;
  let q14 : Prop := q13 → True;
  True → dFact (Ty.int IntKind.u8).slice x.1 ∧ dFact (Ty.int IntKind.u8).slice x.2.1 ∧ True → q0 ∧ q2 ∧ q2 ∧ ((!true) = true → q0 ∧ false = true) ∧ ((!true) = false → ((True ∧ q1) ∧ True ∧ True) ∧ ((True ∧ True ∧ ((q8 ≤ q4 ∧ ∀ (x : Sp.LEv), x ∈ q7 → inN x.2.1.2.1 (3 : Nat)) ∧ (Sp.madeP x.1).length ≤ q4) ∧ True ∧ True) ∧ True ∧ True) ∧ ((True ∧ True ∧ q6 ∧ q6 ∧ (q5 → q9) ∧ True ∧ True ∧ q14 ∧ q14 ∧ (q13 → q9) ∧ q1) ∧ True) ∧ (bif q12 then Sp.allowed q10 q11 else false) = true)) := by kernel_rfl
end Go.User
namespace Go.User
open Go.Proofs Go.Lf
set_option maxRecDepth 100000
theorem vc11 : funI C11 (stpP C11) S11 L11 Try.f11 = (
let q0 : Prop := (True ∧ True) ∧ True;
let q1 : Prop := True ∧ True ∧ True;
let q2 : Prop := True ∧ q1;
let q3 : Prop := True ∧ q2;
let q4 : Prop := q2 ∧ True;
let q5 : Int := (0 : Int);
let q6 : Int := (4 : Int);
let q7 : Prop := q6 ≠ q5;
let q8 : Int := (1 : Int);
let q9 : Nat := q5.toNat;
let q10 : Nat := (1 : Nat);
let q11 : List (List (Int × Int × Int × Unit)) := ([] : List tLOp.slice.den);
let q12 : List (List (Int × Int × Int × Unit)) := ([] : List tLOp.den) :: q11;
let q13 : List (List (Int × Int × Int × Unit)) × Unit := (q11, ());
let q14 : Prop := q13 = q13;
let q15 : List Step := Step.fst :: ([] : List Step);
let q16 : List Step := List.append._f (([] : List Step)) PUnit.unit q15;
let q17 : Nat := (2 : Nat);
let q18 : Int := (3 : Int);
let q19 : Prop := q1 ∧ True;
let q20 : Int × Unit := (q5, ());
let q21 : Int := (9 : Int);
let q22 : Prop := (True ∧ True) ∧ True ∧ True;
let q23 : Prop := Step.fst = Step.fst ∧ True;
let q24 : Prop := True ∧ True ∧ True ∧ True ∧ True ∧ True ∧ True ∧ True ∧ True ∧ True ∧ True ∧ True ∧ True ∧ True ∧ True ∧ True ∧ True ∧ True ∧ True ∧ True ∧ True ∧ True ∧ True ∧ True ∧ True ∧ True ∧ True ∧ True ∧ True ∧ True ∧ True ∧ True ∧ True ∧ True ∧ True ∧ True ∧ True ∧ True ∧ True ∧ True ∧ True ∧ True ∧ True ∧ True ∧ True ∧ True ∧ True ∧ True ∧ True ∧ True ∧ True ∧ True ∧ True ∧ True ∧ True ∧ True ∧ True ∧ True ∧ True ∧ True ∧ True ∧ True ∧ True ∧ True ∧ True ∧ True ∧ True ∧ True ∧ True ∧ True ∧ True ∧ True ∧ True ∧ True ∧ True ∧ True ∧ True ∧ True ∧ True ∧ True ∧ True ∧ True ∧ True ∧ True ∧ True ∧ True ∧ True ∧ True ∧ True ∧ True ∧ True ∧ True ∧ True ∧ True ∧ True ∧ True ∧ True ∧ True ∧ True ∧ True ∧ q3;
let q25 : Int := (2 : Int);
let q26 : Int × Int × Unit := (q5, q20);
let q27 : Prop := q14 ∧ q8 = q8 ∧ True;
∀ (x : List Int × Unit),
  let q28 : Nat := x.1.length;
  let q29 : Int := (↑q28 : Int);
  let q30 : Bool := decide (q29 > q5);
  let q31 : Int := q8 + x.1.getD q9 q5 % q6;
  let q32 : Prop := x.1 = x.1;
  let q33 : Prop := q32 ∧ q14 ∧ q31 = q31 ∧ True;
  let q34 : Nat := (Sp.nC x.1).toNat;
  let q35 : List (List (Int × Int × Int × Unit)) × Unit := (Sp.madeP x.1, ());
  let q36 : Prop := q32 ∧ q27;
  True →
    dFact (Ty.int IntKind.u8).slice x.1 ∧ True →
      q0 ∧
        (q3 ∧ True ∧ True) ∧
          q0 ∧
            q4 ∧
              (q30 = true →
                  ((True ∧ inN q5 q28 ∧ True ∧ q7 ∧ True ∧ inK IntKind.i64 q31 ∧ True ∧ True) ∧ True) ∧
                    q0 ∧
                      (∃ (x_1 : Nat), (q10 ≤ x_1 ∧ (↑x_1 : Int) ≤ Sp.nC x.1) ∧ q8 = (↑x_1 : Int) ∧ (q12, ()) = (List.replicate x_1 (([] : List tLOp.den)), ()) ∧ q33) ∧
                        ∀ (x_1 : Nat),
                          let q37 : List (List (Int × Int × Int × Unit)) := List.replicate x_1 (([] : List tLOp.den));
                          let q38 : List (List (Int × Int × Int × Unit)) × Unit := (q37, ());
                          let q39 : Bool := decide ((↑x_1 : Int) < q31);
                          let q40 : Int := (↑x_1 : Int) + q8;
                          q10 ≤ x_1 ∧ (↑x_1 : Int) ≤ Sp.nC x.1 →
                            dFact (Ty.int IntKind.i64) (↑x_1 : Int) ∧ dFact (((Ty.int IntKind.i64).prod ((Ty.int IntKind.i64).prod ((Ty.int IntKind.i64).prod Ty.unit))).slice.slice.prod Ty.unit) q38 ∧ True →
                              q4 ∧
                                (q39 = true → (q3 ∧ (↑(q37.length + q12.length) : Int) ≤ maxNew ∧ True ∧ q16 = q16 ∧ True) ∧ ((True ∧ inK IntKind.i64 q40 ∧ True ∧ True) ∧ True) ∧ ∃ (y : Nat), (q10 ≤ y ∧ (↑y : Int) ≤ Sp.nC x.1) ∧ q34 - y < q34 - x_1 ∧ q40 = (↑y : Int) ∧ (q37 ++ q12, ()) = (List.replicate y (([] : List tLOp.den)), ()) ∧ q33) ∧
                                  (q39 = false →
                                    q0 ∧
                                      (∃ (x_2 : Nat), x_2 ≤ Sp.nK x.1 ∧ q8 = (↑(q17 * x_2 + q10) : Int) ∧ q38 = (Sp.madeN x.1 x_2, ()) ∧ q33) ∧
                                        ∀ (x_2 : Nat),
                                          let q41 : Int := (↑(q17 * x_2 + q10) : Int);
                                          let q42 : List (List (Int × Int × Int × Unit)) × Unit := (Sp.madeN x.1 x_2, ());
                                          let q43 : Int := q41 + q8;
                                          let q44 : Prop := inK IntKind.i64 q43;
                                          let q45 : Bool := decide (q43 < q29);
                                          let q46 : Prop := (true && bif q45 then true else false) = true → True;
                                          let q47 : Bool := bif q45 then decide (q41 < (13 : Int)) else false;
                                          let q48 : Prop := inN q41 q28;
                                          let q49 : Int := x.1.getD q41.toNat q5;
                                          let q50 : Int := q8 + q49 % q6;
                                          let q51 : Int := (q49 / q6).tmod q18;
                                          let q52 : Int × Int × Int × Unit := (q50, q51, q20);
                                          let q53 : Bool := Sp.writes q52;
                                          let q54 : Prop := inN q43 q28;
                                          let q55 : Int := x.1.getD q43.toNat q5;
                                          let q56 : Int := q8 + (q55 / q6).tmod q21;
                                          let q57 : Bool := q50 == q6;
                                          let q58 : Prop := q57 = true;
                                          let q59 : Prop := (True ∧ True ∧ q44 ∧ q54 ∧ True ∧ True ∧ True ∧ q31 ≠ q5 ∧ True ∧ True) ∧ True;
                                          let q60 : Int := q55.tmod q31;
                                          let q61 : Nat := (Sp.madeN x.1 x_2).length;
                                          let q62 : Prop := inN q60 q61;
                                          let q63 : Nat := q60.toNat;
                                          let q64 : List (Int × Int × Int × Unit) := (Sp.madeN x.1 x_2).getD q63 (([] : List tLOp.den));
                                          let q65 : Nat := q64.length;
                                          let q66 : Int × Unit := (q56, ());
                                          let q67 : List (Int × Int × Int × Unit) := (q50, q5, q66) :: ([] : List tLOp.den);
                                          let q68 : Prop := q62 ∧ True;
                                          let q69 : Prop := True ∧ True ∧ True ∧ True ∧ True ∧ True ∧ True ∧ True ∧ True ∧ True ∧ ((True ∧ q23 ∧ True ∧ True ∧ q23 ∧ True ∧ True ∧ (Step.fst = Step.fst ∧ Step.idx q63 = Step.idx q63 ∧ True) ∧ q3) ∧ q24) ∧ True ∧ True;
                                          let q70 : List Step := List.append._f q15 ⟨List.append._f (([] : List Step)) PUnit.unit, PUnit.unit⟩ (Step.idx q63 :: ([] : List Step));
                                          let q71 : Prop := q70 = q70 ∧ True;
                                          let q72 : Int := q41 + q25;
                                          let q73 : Prop := (True ∧ inK IntKind.i64 q72 ∧ True ∧ True) ∧ True;
                                          let q74 : Prop := q57 = false;
                                          let q75 : List (Int × Int × Int × Unit) := (q50, q51, q66) :: ([] : List tLOp.den);
                                          let q76 : List (Int × Int × Int × Unit) := (q50, q26) :: ([] : List tLOp.den);
                                          let q77 : List (Int × Int × Int × Unit) := q52 :: ([] : List tLOp.den);
                                          let q78 : List (Int × (Int × Int × Int × Unit) × Int × Unit) := Sp.evs q5 (Sp.madeN x.1 x_2);
                                          let q79 : Bool := (↑q78.length : Int) == q5;
                                          x_2 ≤ Sp.nK x.1 → dFact (Ty.int IntKind.i64) q41 ∧ dFact (((Ty.int IntKind.i64).prod ((Ty.int IntKind.i64).prod ((Ty.int IntKind.i64).prod Ty.unit))).slice.slice.prod Ty.unit) q42 ∧ True → ((True ∧ q44 ∧ True ∧ True ∧ True ∧ True ∧ q46 ∧ q46 ∧ True ∧ True) ∧ True) ∧ (q47 = true → ((True ∧ True ∧ q48 ∧ True ∧ q7 ∧ True ∧ inK IntKind.i64 q50 ∧ True ∧ True ∧ q48 ∧ True ∧ q7 ∧ True ∧ q18 ≠ q5 ∧ q1) ∧ True ∧ True) ∧ q19 ∧ (q53 = true → ((True ∧ True ∧ q44 ∧ q54 ∧ True ∧ q7 ∧ True ∧ q21 ≠ q5 ∧ inK IntKind.i64 q56 ∧ True ∧ True) ∧ True ∧ True) ∧ q4 ∧ (q58 → q22 ∧ q59 ∧ (((True ∧ True ∧ True ∧ True ∧ True ∧ True ∧ q62 ∧ True ∧ True ∧ True ∧ (↑(q65 + q67.length) : Int) ≤ maxNew ∧ q68) ∧ q69) ∧ q71) ∧ q73 ∧ ∃ (y : Nat), y ≤ Sp.nK x.1 ∧ Sp.nK x.1 - y < Sp.nK x.1 - x_2 ∧ q72 = (↑(q17 * y + q10) : Int) ∧ ((Sp.madeN x.1 x_2).set q63 (q64 ++ q67), ()) = (Sp.madeN x.1 y, ()) ∧ q33) ∧ (q74 → q59 ∧ (((True ∧ True ∧ True ∧ True ∧ True ∧ True ∧ q62 ∧ True ∧ True ∧ True ∧ (↑(q65 + q75.length) : Int) ≤ maxNew ∧ q68) ∧ q69) ∧ q71) ∧ q73 ∧ ∃ (y : Nat), y ≤ Sp.nK x.1 ∧ Sp.nK x.1 - y < Sp.nK x.1 - x_2 ∧ q72 = (↑(q17 * y + q10) : Int) ∧ ((Sp.madeN x.1 x_2).set q63 (q64 ++ q75), ()) = (Sp.madeN x.1 y, ()) ∧ q33)) ∧ (q53 = false → q4 ∧ (q58 → q22 ∧ q59 ∧ (((True ∧ True ∧ True ∧ True ∧ True ∧ True ∧ q62 ∧ True ∧ True ∧ True ∧ (↑(q65 + q76.length) : Int) ≤ maxNew ∧ q68) ∧ q69) ∧ q71) ∧ q73 ∧ ∃ (y : Nat), y ≤ Sp.nK x.1 ∧ Sp.nK x.1 - y < Sp.nK x.1 - x_2 ∧ q72 = (↑(q17 * y + q10) : Int) ∧ ((Sp.madeN x.1 x_2).set q63 (q64 ++ q76), ()) = (Sp.madeN x.1 y, ()) ∧ q33) ∧ (q74 → q59 ∧ (((True ∧ True ∧ True ∧ True ∧ True ∧ True ∧ q62 ∧ True ∧ True ∧ True ∧ (↑(q65 + q77.length) : Int) ≤ maxNew ∧ q68) ∧ q69) ∧ q71) ∧ q73 ∧ ∃ (y : Nat), y ≤ Sp.nK x.1 ∧ Sp.nK x.1 - y < Sp.nK x.1 - x_2 ∧ q72 = (↑(q17 * y + q10) : Int) ∧ ((Sp.madeN x.1 x_2).set q63 (q64 ++ q77), ()) = (Sp.madeN x.1 y, ()) ∧ q33))) ∧ (q47 = false → ((True ∧ q78.length ≤ (1000 : Nat) ∧ q1) ∧ True) ∧ (q79 = true → ((True ∧ True ∧ True ∧ True ∧ inN q5 q61 ∧ True) ∧ True ∧ True) ∧ q22 ∧ ((Sp.madeN x.1 x_2).set q9 ((q8, q26) :: ([] : List tLOp.den)), ()) = q35) ∧ (q79 = false → q22 ∧ q42 = q35)))) ∧
                (q30 = false →
                  q0 ∧
                    (∃ (x_1 : Nat), (q10 ≤ x_1 ∧ (↑x_1 : Int) ≤ Sp.nC x.1) ∧ q8 = (↑x_1 : Int) ∧ (q12, ()) = (List.replicate x_1 (([] : List tLOp.den)), ()) ∧ q36) ∧
                      ∀ (x_1 : Nat),
                        let q80 : List (List (Int × Int × Int × Unit)) := List.replicate x_1 (([] : List tLOp.den));
                        let q81 : List (List (Int × Int × Int × Unit)) × Unit := (q80, ());
                        let q82 : Bool := decide ((↑x_1 : Int) < q8);
                        let q83 : Int := (↑x_1 : Int) + q8;
                        q10 ≤ x_1 ∧ (↑x_1 : Int) ≤ Sp.nC x.1 →
                          dFact (Ty.int IntKind.i64) (↑x_1 : Int) ∧ dFact (((Ty.int IntKind.i64).prod ((Ty.int IntKind.i64).prod ((Ty.int IntKind.i64).prod Ty.unit))).slice.slice.prod Ty.unit) q81 ∧ True →
                            q4 ∧
                              (q82 = true → (q3 ∧ (↑(q80.length + q12.length) : Int) ≤ maxNew ∧ True ∧ q16 = q16 ∧ True) ∧ ((True ∧ inK IntKind.i64 q83 ∧ True ∧ True) ∧ True) ∧ ∃ (y : Nat), (q10 ≤ y ∧ (↑y : Int) ≤ Sp.nC x.1) ∧ q34 - y < q34 - x_1 ∧ q83 = (↑y : Int) ∧ (q80 ++ q12, ()) = (List.replicate y (([] : List tLOp.den)), ()) ∧ q36) ∧
                                (q82 = false →
                                  q0 ∧
                                    (∃ (x_2 : Nat), x_2 ≤ Sp.nK x.1 ∧ q8 = (↑(q17 * x_2 + q10) : Int) ∧ q81 = (Sp.madeN x.1 x_2, ()) ∧ q36) ∧
                                      ∀ (x_2 : Nat),
                                        let q84 : Int := (↑(q17 * x_2 + q10) : Int);
                                        let q85 : List (List (Int × Int × Int × Unit)) × Unit := (Sp.madeN x.1 x_2, ());
                                        let q86 : Int := q84 + q8;
                                        let q87 : Prop := inK IntKind.i64 q86;
                                        let q88 : Bool := decide (q86 < q29);
                                        let q89 : Prop := (true && bif q88 then true else false) = true → True;
                                        let q90 : Bool := bif q88 then decide (q84 < (13 : Int)) else false;
                                        let q91 : Prop := inN q84 q28;
                                        let q92 : Int := x.1.getD q84.toNat q5;
                                        let q93 : Int := q8 + q92 % q6;
                                        let q94 : Int := (q92 / q6).tmod q18;
                                        let q95 : Int × Int × Int × Unit := (q93, q94, q20);
                                        let q96 : Bool := Sp.writes q95;
                                        let q97 : Prop := inN q86 q28;
                                        let q98 : Int := x.1.getD q86.toNat q5;
                                        let q99 : Int := q8 + (q98 / q6).tmod q21;
                                        let q100 : Bool := q93 == q6;
                                        let q101 : Prop := q100 = true;
                                        let q102 : Prop := (True ∧ True ∧ q87 ∧ q97 ∧ True ∧ True ∧ True ∧ q8 ≠ q5 ∧ True ∧ True) ∧ True;
                                        let q103 : Int := q98.tmod q8;
                                        let q104 : Nat := (Sp.madeN x.1 x_2).length;
                                        let q105 : Prop := inN q103 q104;
                                        let q106 : Nat := q103.toNat;
                                        let q107 : List (Int × Int × Int × Unit) := (Sp.madeN x.1 x_2).getD q106 (([] : List tLOp.den));
                                        let q108 : Nat := q107.length;
                                        let q109 : Int × Unit := (q99, ());
                                        let q110 : List (Int × Int × Int × Unit) := (q93, q5, q109) :: ([] : List tLOp.den);
                                        let q111 : Prop := q105 ∧ True;
                                        let q112 : Prop := True ∧ True ∧ True ∧ True ∧ True ∧ True ∧ True ∧ True ∧ True ∧ True ∧ ((True ∧ q23 ∧ True ∧ True ∧ q23 ∧ True ∧ True ∧ (Step.fst = Step.fst ∧ Step.idx q106 = Step.idx q106 ∧ True) ∧ q3) ∧ q24) ∧ True ∧ True;
                                        let q113 : List Step := List.append._f q15 ⟨List.append._f (([] : List Step)) PUnit.unit, PUnit.unit⟩ (Step.idx q106 :: ([] : List Step));
                                        let q114 : Prop := q113 = q113 ∧ True;
                                        let q115 : Int := q84 + q25;
                                        let q116 : Prop := (True ∧ inK IntKind.i64 q115 ∧ True ∧ True) ∧ True;
                                        let q117 : Prop := q100 = false;
                                        let q118 : List (Int × Int × Int × Unit) := (q93, q94, q109) :: ([] : List tLOp.den);
                                        let q119 : List (Int × Int × Int × Unit) := (q93, q26) :: ([] : List tLOp.den);
                                        let q120 : List (Int × Int × Int × Unit) := q95 :: ([] : List tLOp.den);
                                        let q121 : List (Int × (Int × Int × Int × Unit) × Int × Unit) := Sp.evs q5 (Sp.madeN x.1 x_2);
                                        let q122 : Bool := (↑q121.length : Int) == q5;
                                        x_2 ≤ Sp.nK x.1 → dFact (Ty.int IntKind.i64) q84 ∧ dFact (((Ty.int IntKind.i64).prod ((Ty.int IntKind.i64).prod ((Ty.int IntKind.i64).prod Ty.unit))).slice.slice.prod Ty.unit) q85 ∧ True → ((True ∧ q87 ∧ True ∧ True ∧ True ∧ True ∧ q89 ∧ q89 ∧ True ∧ True) ∧ True) ∧ (q90 = true → ((True ∧ True ∧ q91 ∧ True ∧ q7 ∧ True ∧ inK IntKind.i64 q93 ∧ True ∧ True ∧ q91 ∧ True ∧ q7 ∧ True ∧ q18 ≠ q5 ∧ q1) ∧ True ∧ True) ∧ q19 ∧ (q96 = true → ((True ∧ True ∧ q87 ∧ q97 ∧ True ∧ q7 ∧ True ∧ q21 ≠ q5 ∧ inK IntKind.i64 q99 ∧ True ∧ True) ∧ True ∧ True) ∧ q4 ∧ (q101 → q22 ∧ q102 ∧ (((True ∧ True ∧ True ∧ True ∧ True ∧ True ∧ q105 ∧ True ∧ True ∧ True ∧ (↑(q108 + q110.length) : Int) ≤ maxNew ∧ q111) ∧ q112) ∧ q114) ∧ q116 ∧ ∃ (y : Nat), y ≤ Sp.nK x.1 ∧ Sp.nK x.1 - y < Sp.nK x.1 - x_2 ∧ q115 = (↑(q17 * y + q10) : Int) ∧ ((Sp.madeN x.1 x_2).set q106 (q107 ++ q110), ()) = (Sp.madeN x.1 y, ()) ∧ q36) ∧ (q117 → q102 ∧ (((True ∧ True ∧ True ∧ True ∧ True ∧ True ∧ q105 ∧ True ∧ True ∧ True ∧ (↑(q108 + q118.length) : Int) ≤ maxNew ∧ q111) ∧ q112) ∧ q114) ∧ q116 ∧ ∃ (y : Nat), y ≤ Sp.nK x.1 ∧ Sp.nK x.1 - y < Sp.nK x.1 - x_2 ∧ q115 = (↑(q17 * y + q10) : Int) ∧ ((Sp.madeN x.1 x_2).set q106 (q107 ++ q118), ()) = (Sp.madeN x.1 y, ()) ∧ q36)) ∧ (q96 = false → q4 ∧ (q101 → q22 ∧ q102 ∧ (((True ∧ True ∧ True ∧ True ∧ True ∧ True ∧ q105 ∧ True ∧ True ∧ True ∧ (↑(q108 + q119.length) : Int) ≤ maxNew ∧ q111) ∧ q112) ∧ q114) ∧ q116 ∧ ∃ (y : Nat), y ≤ Sp.nK x.1 ∧ Sp.nK x.1 - y < Sp.nK x.1 - x_2 ∧ q115 = (↑(q17 * y + q10) : Int) ∧ ((Sp.madeN x.1 x_2).set q106 (q107 ++ q119), ()) = (Sp.madeN x.1 y, ()) ∧ q36) ∧ (q117 → q102 ∧ (((True ∧ True ∧ True ∧ True ∧ True ∧ True ∧ q105 ∧ True ∧ True ∧ True ∧ (↑(q108 + q120.length) : Int) ≤ maxNew ∧ q111) ∧ q112) ∧ q114) ∧ q116 ∧ ∃ (y : Nat), y ≤ Sp.nK x.1 ∧ Sp.nK x.1 - y < Sp.nK x.1 - x_2 ∧ q115 = (↑(q17 * y + q10) : Int) ∧ ((Sp.madeN x.1 x_2).set q106 (q107 ++ q120), ()) = (Sp.madeN x.1 y, ()) ∧ q36))) ∧ (q90 = false → ((True ∧ q121.length ≤ (1000 : Nat) ∧ q1) ∧ True) ∧ (q122 = true → ((True ∧ True ∧ True ∧ True ∧ inN q5 q104 ∧ True) ∧ True ∧ True) ∧ q22 ∧ ((Sp.madeN x.1 x_2).set q9 ((q8, q26) :: ([] : List tLOp.den)), ()) = q35) ∧ (q122 = false → q22 ∧ q85 = q35))))) := by kernel_rfl
end Go.User
namespace Go.User
open Go.Lf Go.Proofs

theorem made_step {b : List Int} (hb : ∀ x ∈ b, inK .u8 x) {k : Nat} (hk : k < Sp.nK b) {n : Int} (hn : n = Sp.nC b) (o : Sp.LOp) (ho : o = Sp.opOf b (2 * k + 1)) :
    (inN ((b.getD (2 * k + 2) 0).tmod n) (Sp.madeN b k).length ∧ (((List.length ((Sp.madeN b k).getD ((b.getD (2 * k + 2) 0).tmod n).toNat []) + 1 : Nat)) : Int) ≤ maxNew ∧ inN ((b.getD (2 * k + 2) 0).tmod n) (Sp.madeN b k).length) ∧
      inK .i64 (((2 * k + 1 : Nat) : Int) + 2) ∧ ∃ y : Nat, y ≤ Sp.nK b ∧ Sp.nK b - y < Sp.nK b - k ∧ ((2 * k + 1 : Nat) : Int) + 2 = ((2 * y + 1 : Nat) : Int) ∧
        ((Sp.madeN b k).set ((b.getD (2 * k + 2) 0).tmod n).toNat ((Sp.madeN b k).getD ((b.getD (2 * k + 2) 0).tmod n).toNat [] ++ [o]), ()) = (Sp.madeN b y, ()) := by
  subst hn; subst ho
  have hc := Sp.cOf hb (2 * k + 2)
  have hl := Sp.madeN_len b k
  have hK : Sp.nK b ≤ 6 := by unfold Sp.nK; omega
  have he := Sp.madeN_evs hb k
  have hg := Sp.evs_get (Sp.madeN b k) ((b.getD (2 * k + 2) 0).tmod (Sp.nC b)).toNat 0
  refine ⟨⟨⟨hc.1, by omega⟩, by rw [maxNew_eq]; omega, ⟨hc.1, by omega⟩⟩, inK_of (by omega) (by omega), k + 1, by omega, by omega, by omega, rfl⟩

theorem ok11 : FOk Try.prog 11 S11 := by
  have hC : CtxOK Try.prog C11 := ctx_ok rfl rfl (fns_cons ok32 (fns_cons ok33 fns_nil)) ptrs_nil
  refine FOk.intro hC (stpP_ok hC) Try.call11 Try.func11 (by kernel_rfl) (by kernel_rfl) L11 (vc11.mpr ?_)
  simp only [z1, z2, z3, z4, z5, z6, z7, z8, z9, z10, z11, z12, z13, z14, z15, z16, z17, z18, z19, z20, z21, z22, z23, z24, z25, z26, z27, z28, z29, z30, z31, z32, z33, z34, z35, z36, z37, z38, dFact]
  intro x hx
  obtain ⟨hlim, hb⟩ := hx
  have hnr := Sp.nC_range x.1
  have hK : Sp.nK x.1 ≤ 6 := by unfold Sp.nK; omega
  have hB := fun i => Sp.byte_at hb i
  have htoNat : ∀ k : Nat, (((2 * k + 1 : Nat) : Int) + 1).toNat = 2 * k + 2 := fun k => by omega
  have hend : ∀ k : Nat, k ≤ Sp.nK x.1 → (decide (((2 * k + 1 : Nat) : Int) + 1 < (x.1.length : Int)) && decide (((2 * k + 1 : Nat) : Int) < 13)) = false → k = Sp.nK x.1 := by
    intro k hk h
    unfold Sp.nK at hk ⊢
    rw [Bool.and_eq_false_iff, decide_eq_false_iff_not, decide_eq_false_iff_not] at h
    omega
  have hlast : ∀ k : Nat, k = Sp.nK x.1 → (Sp.evs 0 (Sp.madeN x.1 k)).length ≤ 1000 ∧ (((Sp.evs 0 (Sp.madeN x.1 k)).length : Int) = 0 → inN 0 (Sp.madeN x.1 k).length ∧ ((Sp.madeN x.1 k).set (Int.toNat 0) [(1, 0, 0, ())], ()) = (Sp.madeP x.1, ())) ∧
      (¬ ((Sp.evs 0 (Sp.madeN x.1 k)).length : Int) = 0 → (Sp.madeN x.1 k, ()) = (Sp.madeP x.1, ())) := by
    rintro k rfl
    have he := Sp.madeN_evs hb (Sp.nK x.1)
    have hl := Sp.madeN_len x.1 (Sp.nK x.1)
    refine ⟨by omega, fun h => ⟨⟨by omega, by omega⟩, ?_⟩, fun h => ?_⟩
    · unfold Sp.madeP; rw [if_pos (by omega)]; rfl
    · unfold Sp.madeP; rw [if_neg (by omega)]
  refine ⟨fun hlen => ?_, fun hlen => ?_⟩
  · have hn : 1 + x.1.getD (Int.toNat 0) 0 % 4 = Sp.nC x.1 := by
      unfold Sp.nC; rw [if_pos (by omega)]; rfl
    rw [hn]
    refine ⟨⟨⟨by omega, hlen⟩, by decide, inK_of (by omega) (by omega)⟩, ⟨1, ⟨by omega, hnr.1⟩, rfl, rfl⟩, ?_⟩
    intro i hi _
    refine ⟨fun hlt => ⟨by rw [List.length_replicate, maxNew_eq]; omega, inK_of (by omega) (by omega), i + 1, ⟨by omega, by omega⟩, by omega, rfl, by rw [List.replicate_succ']⟩, fun hge => ⟨⟨0, Nat.zero_le _, rfl, ?_⟩, ?_⟩⟩
    · show (List.replicate i [], ()) = (List.replicate (Sp.nC x.1).toNat [], ())
      rw [show i = (Sp.nC x.1).toNat from by omega]
    · intro k hk _
      refine ⟨inK_of (by omega) (by omega), fun hc => ?_, fun h => hlast k (hend k hk h)⟩
      have hkk : k < Sp.nK x.1 := by unfold Sp.nK at hk ⊢; omega
      have b1 := hB (2 * k + 1)
      have b2 := hB (2 * k + 2)
      have hin : inN (((2 * k + 1 : Nat)) : Int) x.1.length := ⟨by omega, by omega⟩
      have hin2 : inN (((2 * k + 1 : Nat) : Int) + 1) x.1.length := ⟨by omega, by omega⟩
      have hk1 : inK .i64 (((2 * k + 1 : Nat) : Int) + 1) := inK_of (by omega) (by omega)
      have hne : ¬ Sp.nC x.1 = 0 := by omega
      rw [htoNat k]
      have t9 := Int.tmod_nonneg 9 (show 0 ≤ x.1.getD (2 * k + 2) 0 / 4 by omega)
      have t9' := Int.tmod_lt_of_pos (x.1.getD (2 * k + 2) 0 / 4) (show (0 : Int) < 9 by omega)
      refine ⟨⟨hin, by decide, inK_of (by omega) (by omega), hin, by decide, by decide⟩, fun hw => ⟨⟨hk1, hin2, by decide, by decide, inK_of (by omega) (by omega)⟩, fun h4 => ?_, fun h4 => ⟨⟨hk1, hin2, hne⟩, made_step hb hkk rfl _ ?_⟩⟩, fun hw => ⟨fun h4 => ⟨⟨hk1, hin2, hne⟩, made_step hb hkk rfl _ ?_⟩, fun h4 => ⟨⟨hk1, hin2, hne⟩, made_step hb hkk rfl _ ?_⟩⟩⟩
      · unfold Sp.writes at hw
        rw [h4] at hw; cases hw
      · have hw' : (1 + x.1.getD (2 * k + 1) 0 % 4) = 2 ∨ (1 + x.1.getD (2 * k + 1) 0 % 4) = 3 := by
          unfold Sp.writes at hw
          simpa using hw
        unfold Sp.opOf
        rw [if_neg h4, if_pos hw']
      · have hw' : ¬ ((1 + x.1.getD (2 * k + 1) 0 % 4) = 2 ∨ (1 + x.1.getD (2 * k + 1) 0 % 4) = 3) := by omega
        unfold Sp.opOf
        rw [if_pos h4, if_neg hw']
      · have hw' : ¬ ((1 + x.1.getD (2 * k + 1) 0 % 4) = 2 ∨ (1 + x.1.getD (2 * k + 1) 0 % 4) = 3) := by
          unfold Sp.writes at hw
          simpa using hw
        unfold Sp.opOf
        rw [if_neg h4, if_neg hw']
  · have hn : Sp.nC x.1 = 1 := by unfold Sp.nC; rw [if_neg (by omega)]
    refine ⟨⟨1, ⟨by omega, by omega⟩, rfl, rfl⟩, ?_⟩
    intro i hi _
    refine ⟨fun hlt => by omega, fun hge => ⟨⟨0, Nat.zero_le _, rfl, ?_⟩, ?_⟩⟩
    · show (List.replicate i [], ()) = (List.replicate (Sp.nC x.1).toNat [], ())
      rw [show i = (Sp.nC x.1).toNat from by omega]
    · intro k hk _
      refine ⟨inK_of (by omega) (by omega), fun hc => ?_, fun h => hlast k (hend k hk h)⟩
      omega

theorem gr_eta : ∀ g : Sp.Gr, (g.1, g.2.1, g.2.2.1, g.2.2.2.1, ()) = g
  | (_, _, _, _, ()) => rfl
theorem graph_eta (t : Sp.Lit) (b : List Int) : (Sp.gE t b, Sp.gF t b, Sp.gM t b, Sp.gO t b, ()) = Sp.graph t b := by
  unfold Sp.gE Sp.gF Sp.gM Sp.gO
  exact gr_eta _
theorem s12c : S12c = S12 :=
  congrArg (fun f => ({ args := [.val tLit, .val (.slice (.int .u8))], multi := false, res := tGr, mode := mGr, pre := fun x => fine x.1, fn := f } : FSpec)) (funext fun x => graph_eta x.1 x.2.1)
theorem ok12c : FOk Try.prog 12 S12c := by rw [s12c]; exact ok12

end Go.User
namespace Go.User
open Go.Lf Go.Proofs

theorem can_succ {nx en : List Int} {i : Nat} (h : nx.getD i 0 < en.getD i 0) : Sp.canN nx en i ++ [(i : Int)] = Sp.canN nx en (i + 1) := by
  unfold Sp.canN; rw [Sp.sel_succ, if_pos (decide_eq_true h)]
theorem can_same {nx en : List Int} {i : Nat} (h : en.getD i 0 ≤ nx.getD i 0) : Sp.canN nx en i = Sp.canN nx en (i + 1) := by
  unfold Sp.canN; rw [Sp.sel_succ, if_neg (by simp; exact h), List.append_nil]

theorem ok14 : FOk Try.prog 14 S14 := by
  have hC : CtxOK Try.prog C14 := ctx_ok rfl rfl (fns_cons ok32 (fns_cons ok33 (fns_cons ok37 (fns_cons ok38 (fns_cons ok40 fns_nil))))) ptrs_nil
  refine FOk.intro hC (stpP_ok hC) Try.call14 Try.func14 (by kernel_rfl) (by kernel_rfl) L14 (vc14.mpr ?_)
  simp only [z1, z2, z3, z4, z5, z6, z7, z8, z9, z10, z11, z12, z13, z14, z15, z16, z17, z18, z19, z20, z21, z22, z23, z24, z25, z26, z27, z28, z29, z30, z31, z32, z33, z34, z35, z36, z37, z38, dFact]
  intro x hp hx
  obtain ⟨⟨h100, hX⟩, hp100⟩ := hp
  have hb := hx.2.2
  have hruns := Sp.IL.all (p := x.1.1) hX x.2.1
  have hst : ∀ i, i ≤ x.1.1.length → (Sp.evs 0 (x.1.1.take i)).length ≤ 100 := by
    intro i hi
    have := Sp.st_mono (p := x.1.1) hi
    rw [Sp.st_all] at this
    unfold Sp.st at this
    omega
  have hst1 : ∀ i, i < x.1.1.length → (Sp.evs 0 (x.1.1.take (i + 1))).length = (Sp.evs 0 (x.1.1.take i)).length + (x.1.1.getD i []).length := fun i hi => Sp.st_succ hi
  refine ⟨by omega, ⟨0, Nat.zero_le _, rfl, rfl, rfl, rfl⟩, ?_⟩
  intro i hi _
  refine ⟨fun hlt => ?_, fun hge => ?_⟩
  · have hlt : i < x.1.1.length := by omega
    have h1 := hst1 i hlt
    have h2 := hst (i + 1) hlt
    rw [Sp.nxN_len, Sp.enN_len]
    refine ⟨by rw [maxNew_eq]; omega, ⟨⟨by omega, by omega⟩, inK_of (by omega) (by show _ + ((x.1.1.getD i []).length : Int) ≤ _; omega)⟩, by rw [maxNew_eq]; omega, inK_of (by omega) (by omega), i + 1, by omega, by omega, by omega, ?_, ?_, ?_⟩
    · rw [h1]; rfl
    · rw [Sp.nxN_succ]
    · rw [Sp.enN_succ, h1]; rfl
  have hi' : i = x.1.1.length := by omega
  subst hi'
  refine ⟨⟨0, Nat.zero_le _, rfl, rfl⟩, ?_⟩
  have hall : (Sp.evs 0 (x.1.1.take x.1.1.length)).length = (Sp.evs 0 x.1.1).length := by rw [List.take_length]
  rw [hall]
  intro j hj _
  refine ⟨fun hlt => ⟨by rw [List.length_replicate, maxNew_eq]; omega, inK_of (by omega) (by omega), j + 1, by omega, by omega, by omega, by rw [List.replicate_succ']⟩, fun hge => ?_⟩
  have hj' : j = (Sp.evs 0 x.1.1).length := by omega
  subst hj'
  refine ⟨⟨0, Nat.zero_le _, rfl, rfl, rfl⟩, ?_⟩
  intro k hk _
  have h := hruns k hk
  have hsl := Sp.seqN_len x.1.1 x.2.1 k
  refine ⟨fun hlt => ?_, fun hge => ?_⟩
  · have hlt : k < (Sp.evs 0 x.1.1).length := by omega
    refine ⟨⟨0, Nat.zero_le _, rfl, rfl⟩, ?_⟩
    obtain ⟨hne, c, hc, hpc, e, hpe, hnx, he1, he2, hen, heX⟩ := h.next x.2.1 (k := k) (by omega)
    have hfoot : ∀ m : Nat, (Sp.runN x.1.1 x.2.1 (k + 1)) = Sp.runS (Sp.enN x.1.1 x.1.1.length) x.2.1 k (Sp.runN x.1.1 x.2.1 k) := fun _ => rfl
    have hlens : ((Sp.runN x.1.1 x.2.1 k).2.2.2.2).length ≤ 100 ∧ ∀ q : Nat, q < 3 → ((Sp.runN x.1.1 x.2.1 k).2.2.2.1.getD q []).length ≤ 100 := by
      refine ⟨?_, fun q hq => ?_⟩
      · rw [h.fo]
        have := List.length_filter_le (Sp.fX (Sp.evs 0 x.1.1)) (Sp.seqN x.1.1 x.2.1 k)
        omega
      · rw [h.mo q hq]
        have := List.length_filter_le (Sp.wX (Sp.evs 0 x.1.1) (q : Int)) (Sp.seqN x.1.1 x.2.1 k)
        omega
    have hpl3 := h.mo
    have hsame := (h.same (e : Int)).2
    have hX3 : inN (Sp.ev (Sp.runN x.1.1 x.2.1 k).2.1 (e : Int)).2.1.2.1 3 := by rw [hsame]; exact hX _ (Sp.ev_mem hen)
    have hnl := h.nxl
    have hel := h.el
    have hfl := h.fl
    have hml := h.ml
    have hinr := h.inr
    generalize hS : Sp.runN x.1.1 x.2.1 k = s at *
    obtain ⟨nx, E, F, M, O⟩ := s
    simp only at *
    intro i hi _
    have hcl : (Sp.canN nx (Sp.enN x.1.1 x.1.1.length) i).length ≤ i := by unfold Sp.canN; exact Sp.sel_len _ _
    have henl := Sp.enN_len x.1.1 x.1.1.length
    refine ⟨fun hlt2 => ⟨⟨inN_of hlt2, by omega, by rw [henl]; omega⟩, fun hcond => ⟨by rw [maxNew_eq]; omega, inK_of (by omega) (by omega), i + 1, by omega, by omega, by omega, can_succ hcond⟩, fun hcond => ⟨inK_of (by omega) (by omega), i + 1, by omega, by omega, by omega, can_same hcond⟩⟩, fun hge2 => ?_⟩
    have hi' : i = nx.length := by omega
    subst hi'
    have hcc : (Sp.canN nx (Sp.enN x.1.1 x.1.1.length) nx.length).getD ((Sp.byteAt x.2.1 (k : Int)).tmod ((Sp.canN nx (Sp.enN x.1.1 x.1.1.length) nx.length).length : Int)).toNat 0 = (c : Int) := hpc
    have hbn := Sp.byteAt_nonneg hb (k : Int)
    have ht1 := Int.tmod_nonneg ((Sp.canN nx (Sp.enN x.1.1 x.1.1.length) nx.length).length : Int) hbn.1
    have ht2 := Int.tmod_lt_of_pos (Sp.byteAt x.2.1 (k : Int)) (show (0 : Int) < ((Sp.canN nx (Sp.enN x.1.1 x.1.1.length) nx.length).length : Int) by omega)
    have hnx' : nx.getD (Int.toNat (c : Int)) 0 = (e : Int) := hnx
    rw [hcc, hnx']
    have hev : E.getD (Int.toNat (e : Int)) (0, (0, 0, 0, ()), 0, ()) = Sp.ev E (e : Int) := rfl
    simp only [hev, Int.toNat_natCast]
    have hev' : E.getD e (0, (0, 0, 0, ()), 0, ()) = Sp.ev E (e : Int) := rfl
    simp only [hev']
    have hrs : Sp.runN x.1.1 x.2.1 (k + 1) = (nx.set c ((e : Int) + 1), Sp.xE E M (e : Int), Sp.xF E F M (e : Int), Sp.xM E M (e : Int), Sp.xO E O (e : Int)) := by
      show Sp.runS (Sp.enN x.1.1 x.1.1.length) x.2.1 k (Sp.runN x.1.1 x.2.1 k) = _
      rw [hS]
      unfold Sp.runS Sp.xN
      simp only
      rw [hpc, hpe, Int.toNat_natCast]
    have hXt := hX3.2
    have hX0 := hX3.1
    have hpl : M.getD (Sp.ev E (e : Int)).2.1.2.1.toNat [] = Sp.plL E M (e : Int) := rfl
    have hplen := hlens.2 (Sp.ev E (e : Int)).2.1.2.1.toNat (by omega)
    simp only [hpl] at hplen ⊢
    have htk : Sp.takes E M (e : Int) = (!decide ((Sp.ev E (e : Int)).2.1.1 = 4) && Sp.reads (Sp.ev E (e : Int)).2.1 && decide (0 < (Sp.plL E M (e : Int)).length)) := rfl
    have hla : ((Sp.plL E M (e : Int)).getD ((((Sp.plL E M (e : Int)).length : Nat) : Int) - 1).toNat 0) = Sp.lastL E M (e : Int) := by
      unfold Sp.lastL; rw [show ((((Sp.plL E M (e : Int)).length : Nat) : Int) - 1).toNat = (Sp.plL E M (e : Int)).length - 1 from by omega]
    simp only [hla]
    have hplX : ∀ a ∈ Sp.plL E M (e : Int), 0 ≤ a ∧ a < (Sp.evs 0 x.1.1).length := by
      intro a ha
      unfold Sp.plL at ha
      rw [hpl3 _ (by omega)] at ha
      exact hinr a (List.mem_filter.1 ha).1
    have hnext : ∀ E' F' M' O', (E', F', M', O', ()) = (Sp.xE E M (e : Int), Sp.xF E F M (e : Int), Sp.xM E M (e : Int), Sp.xO E O (e : Int), ()) → inK .i64 ((k : Int) + 1) ∧ ∃ y : Nat, y ≤ (Sp.evs 0 x.1.1).length ∧ (Sp.evs 0 x.1.1).length - y < (Sp.evs 0 x.1.1).length - k ∧ (k : Int) + 1 = (y : Int) ∧ nx.set c ((e : Int) + 1) = (Sp.runN x.1.1 x.2.1 y).1 ∧ (E', F', M', O', ()) = ((Sp.runN x.1.1 x.2.1 y).2.1, (Sp.runN x.1.1 x.2.1 y).2.2.1, (Sp.runN x.1.1 x.2.1 y).2.2.2.1, (Sp.runN x.1.1 x.2.1 y).2.2.2.2, ()) := by
      intro E' F' M' O' heq
      refine ⟨inK_of (by omega) (by omega), k + 1, by omega, by omega, by omega, ?_, ?_⟩
      · rw [hrs]
      · rw [hrs]; exact heq
    refine ⟨⟨by show (0 : Int) ≤ _; omega, by omega, ⟨ht1, ht2⟩⟩, ⟨by omega, by omega⟩, ⟨⟨by omega, by omega⟩, inK_of (by omega) (by omega), ⟨by omega, by omega⟩⟩, ⟨by omega, by omega⟩, fun h4 => ?_, fun h4 => ⟨⟨by omega, by omega⟩, fun hrd => ?_, fun hrd => ?_⟩⟩
    · have htk0 : Sp.takes E M (e : Int) ≠ true := by rw [htk, decide_eq_true h4]; simp
      have := hnext E F M (O ++ [(e : Int)]) (by unfold Sp.xE Sp.xF Sp.xM Sp.xO; rw [if_neg htk0, if_neg htk0, if_neg (fun h => h.1 h4), if_pos h4])
      exact ⟨by rw [maxNew_eq]; omega, this⟩
    · have htk1 : Sp.takes E M (e : Int) = true := by rw [htk, decide_eq_false h4, hrd.1, decide_eq_true (by have := hrd.2; omega)]; rfl
      have hl0 : 0 < (Sp.plL E M (e : Int)).length := by have := hrd.2; omega
      have hlm : Sp.lastL E M (e : Int) ∈ Sp.plL E M (e : Int) := by
        unfold Sp.lastL; rw [Sp.getD_lt (by omega)]; exact List.getElem_mem _
      have hget : (F.set e (Sp.lastL E M (e : Int))).getD e 0 = Sp.lastL E M (e : Int) := by
        rw [Sp.getD_lt (by simp; omega)]; simp
      have hO : Sp.xO E O (e : Int) = O := by unfold Sp.xO; rw [if_neg h4]
      have hF : Sp.xF E F M (e : Int) = F.set e (Sp.lastL E M (e : Int)) := by unfold Sp.xF; rw [if_pos htk1]; rfl
      have hE : Sp.xE E M (e : Int) = E.set e ((Sp.ev E (e : Int)).1, (Sp.ev E (e : Int)).2.1, Sp.value E (Sp.lastL E M (e : Int)), (Sp.ev E (e : Int)).2.2.2) := by unfold Sp.xE; rw [if_pos htk1]; rfl
      rw [hget]
      refine ⟨⟨inK_of (by omega) (by omega), ⟨by omega, by omega⟩, ⟨by omega, by omega⟩⟩, ⟨⟨by omega, by simp; omega⟩, by have := hplX _ hlm; omega, ⟨by omega, by omega⟩⟩, fun hw => ⟨⟨by rw [maxNew_eq]; omega, ⟨by omega, by omega⟩⟩, hnext _ _ _ _ ?_⟩, fun hw => hnext _ _ _ _ ?_⟩
      · rw [hO, hF, hE]; unfold Sp.xM; rw [if_pos ⟨h4, hw⟩]
      · rw [hO, hF, hE]; unfold Sp.xM; rw [if_neg (fun h => by rw [hw] at h; exact absurd h.2 (by decide))]
    · have htk0 : Sp.takes E M (e : Int) ≠ true := by
        rw [htk, decide_eq_false h4]
        intro hh
        simp only [Bool.not_false, Bool.true_and, Bool.and_eq_true, decide_eq_true_eq] at hh
        rw [hh.1, decide_eq_true (by have := hh.2; omega)] at hrd
        cases hrd
      have hO : Sp.xO E O (e : Int) = O := by unfold Sp.xO; rw [if_neg h4]
      have hF : Sp.xF E F M (e : Int) = F := by unfold Sp.xF; rw [if_neg htk0]
      have hE : Sp.xE E M (e : Int) = E := by unfold Sp.xE; rw [if_neg htk0]
      refine ⟨fun hw => ⟨⟨by rw [maxNew_eq]; omega, ⟨by omega, by omega⟩⟩, hnext _ _ _ _ ?_⟩, fun hw => hnext _ _ _ _ ?_⟩
      · rw [hO, hF, hE]; unfold Sp.xM; rw [if_pos ⟨h4, hw⟩]
      · rw [hO, hF, hE]; unfold Sp.xM; rw [if_neg (fun h => by rw [hw] at h; exact absurd h.2 (by decide))]
  · have hk' : k = (Sp.evs 0 x.1.1).length := by omega
    subst hk'
    rfl

theorem ok4 : FOk Try.prog 4 S4 := by
  have hC : CtxOK Try.prog C4 := ctx_ok rfl rfl (fns_cons ok10 (fns_cons ok11 (fns_cons ok14 (fns_cons ok16 (fns_cons ok18 fns_nil))))) ptrs_nil
  refine FOk.intro hC (stpP_ok hC) Try.call4 Try.func4 (by kernel_rfl) (by kernel_rfl) L4 (vc4.mpr ?_)
  simp only [z1, z2, z3, z4, z5, z6, z7, z8, z9, z10, z11, z12, z13, z14, z15, z16, z17, z18, z19, z20, z21, z22, z23, z24, z25, z26, z27, z28, z29, z30, z31, z32, z33, z34, z35, z36, z37, z38, dFact]
  intro x hx
  have hfine := Sp.madeP_fine hx.1.2
  have hv := Sp.madeP_valid hx.1.2
  have hR := (Sp.run_right (b := x.2.1) hv).1
  have hA := Sp.run_allowed (b := x.2.1) hv
  have hl : (Sp.madeP x.1).length ≤ 100 := by
    have h := hv
    unfold Sp.valid at h
    simp only [Bool.and_eq_true, decide_eq_true_eq] at h
    have := h.1.1.1.2
    exact Nat.le_trans this (by decide)
  refine ⟨⟨hfine, hl⟩, ⟨Nat.le_trans hfine.1 (by decide), fun _ => Nat.le_trans hfine.1 (by decide)⟩, ?_⟩
  exact ⟨(Sp.right_iff _ _).2 hR, hA⟩
end Go.User
namespace Go.User
open Go.Lf Go.Proofs

theorem ok25 : FOk Try.prog 25 S25 := by
  have hC : CtxOK Try.prog C25 := ctx_ok rfl rfl fns_nil ptrs_nil
  refine FOk.intro hC (stpP_ok hC) Try.call25 Try.func25 (by kernel_rfl) (by kernel_rfl) L25 (vc25.mpr ?_)
  simp only [z1, z2, z3, z4, z5, z6, z7, z8, z9, z10, z11, z12, z13, z14, z15, z16, z17, z18, z19, z20, z21, z22, z23, z24, z25, z26, z27, z28, z29, z30, z31, z32, z33, z34, z35, z36, z37, z38, dFact]
  intro x hp hx
  obtain ⟨h1000, hv⟩ := hp
  refine ⟨⟨0, Nat.zero_le _, rfl, rfl⟩, ?_⟩
  intro i hi _
  have hle := Sp.renN_le x.1 x.2.1 i
  refine ⟨fun hlt => ?_, fun hge => ?_⟩
  · have hlt' : i < x.1.length := by omega
    have hs := Sp.renN_succ (l := x.1) (to := x.2.1) hlt'
    have hvi := hv (x.1.getD i 0) (by rw [Sp.getD_lt hlt']; exact List.getElem_mem _)
    refine ⟨inN_of hlt, fun h0 => ⟨⟨inN_of hlt, by rw [maxNew_eq]; omega⟩, inK_of (by omega) (by omega), i + 1, by omega, by omega, by omega, ?_⟩, fun h0 => ⟨⟨inN_of hlt, ⟨h0, hvi⟩⟩, fun h1 => ⟨⟨⟨inN_of hlt, ⟨h0, hvi⟩⟩, by rw [maxNew_eq]; omega⟩, inK_of (by omega) (by omega), i + 1, by omega, by omega, by omega, ?_⟩, fun h1 => ⟨inK_of (by omega) (by omega), i + 1, by omega, by omega, by omega, ?_⟩⟩⟩
    · rw [hs, if_pos h0]
    · rw [hs, if_neg (by omega), if_pos h1]
    · rw [hs, if_neg (by omega), if_neg (by omega), List.append_nil]
  · have : i = x.1.length := by omega
    subst this
    rfl

theorem gg_eta (p : List (List Sp.LOp)) (b : List Int) (n : Int) : (Sp.ggE p b n, Sp.ggF p b n, Sp.ggM p b n, Sp.ggO p b n, ()) = Sp.gg p b n := by
  unfold Sp.ggE Sp.ggF Sp.ggM Sp.ggO
  exact gr_eta _
theorem gg_yes {p : List (List Sp.LOp)} {b : List Int} {n : Int} (h : n % 2 = 0) : Sp.gg p b n = (Sp.gE (p, ()) b, Sp.gF (p, ()) b, Sp.gM (p, ()) b, Sp.gO (p, ()) b, ()) := by unfold Sp.gg; rw [if_pos h]
theorem gg_no {p : List (List Sp.LOp)} {b : List Int} {n : Int} (h : ¬ n % 2 = 0) : Sp.gg p b n = (Sp.iE (p, ()) b, Sp.iF (p, ()) b, Sp.iM (p, ()) b, Sp.iO (p, ()) b, ()) := by unfold Sp.gg; rw [if_neg h]

/-- What is known of the graph before the loops. -/
structure FenceP (p : List (List Sp.LOp)) (E : List Sp.LEv) (F : List Int) (M : List (List Int)) (O : List Int) (G : Nat) : Prop where
  al : Sp.AllowP (p, ()) (E, F, M, O, ())
  mem : (G : Int) ∈ O
  two : 2 ≤ E.length
  len : p.length ≤ 4
theorem fenceP {p : List (List Sp.LOp)} {E : List Sp.LEv} {F : List Int} {M : List (List Int)} {O : List Int} {n : Int} (hn : 0 ≤ n) (hv : Sp.valid (p, ()) = true) (h1 : Sp.allowed (p, ()) (E, F, M, O, ()) = true) (h2 : ¬ (O.length : Int) = 0) (h3 : 2 ≤ (E.length : Int)) :
    (O.getD (n.tmod (O.length : Int)).toNat 0) = (((O.getD (n.tmod (O.length : Int)).toNat 0).toNat : Nat) : Int) ∧ inN (n.tmod (O.length : Int)) O.length ∧ FenceP p E F M O (O.getD (n.tmod (O.length : Int)).toNat 0).toNat := by
  have hA := (Sp.allowed_iff _ _).1 h1
  have t1 := Int.tmod_nonneg (O.length : Int) hn
  have t2 := Int.tmod_lt_of_pos n (show (0 : Int) < (O.length : Int) by omega)
  have hm : O.getD (n.tmod (O.length : Int)).toNat 0 ∈ O := by rw [Sp.getD_lt (by omega)]; exact List.getElem_mem _
  have hr := Sp.isList_in hA.right.fo hm
  have e : (O.getD (n.tmod (O.length : Int)).toNat 0) = (((O.getD (n.tmod (O.length : Int)).toNat 0).toNat : Nat) : Int) := (Int.toNat_of_nonneg hr.1).symm
  refine ⟨e, ⟨t1, t2⟩, hA, by rw [← e]; exact hm, by omega, ?_⟩
  unfold Sp.valid at hv
  simp only [Bool.and_eq_true, decide_eq_true_eq] at hv
  exact hv.1.1.1.2

section
variable {p : List (List Sp.LOp)} {E : List Sp.LEv} {F : List Int} {M : List (List Int)} {O : List Int} {G : Nat} (h : FenceP p E F M O G)
include h
theorem FenceP.lens : E.length = (Sp.evs 0 p).length ∧ F.length = (Sp.evs 0 p).length ∧ M.length = 3 ∧ E.length ≤ 6 ∧ G < E.length ∧ (Sp.ev E (G : Int)).2.1.1 = 4 := by
  have h1 : E.length = _ := h.al.right.lenE
  have h2 : F.length = _ := h.al.right.lenF
  have h3 : M.length = 3 := h.al.right.lenM
  have h4 := h.al.right.six
  have h5 := Sp.isList_in h.al.right.fo h.mem
  have h5b : (G : Int) < ((Sp.evs 0 p).length : Int) := h5.2.1
  have h6 := h5.2.2
  simp only [decide_eq_true_eq] at h6
  have h1 : E.length = (Sp.evs 0 p).length := h1
  have h7 := (h.al.right.src G (by show G < (Sp.evs 0 p).length; omega)).2.1
  exact ⟨h1, h2, h3, h4, by omega, by show (Sp.ev E (G : Int)).2.1.1 = 4; rw [h7]; exact h6⟩
theorem FenceP.frm {i : Nat} (hi : i < E.length) : -1 ≤ F.getD i 0 ∧ F.getD i 0 < (E.length : Int) := by
  have h1 := h.lens
  obtain ⟨_, _, h3, h4, _⟩ := h.al.right.src i (by show i < (Sp.evs 0 p).length; omega)
  have h4 : F.getD i 0 < ((Sp.evs 0 p).length : Int) := h4
  have h3 : -1 ≤ F.getD i 0 := h3
  exact ⟨h3, by omega⟩
theorem FenceP.mo {x : Nat} (hx : x < 3) : (M.getD x []).length ≤ 1000 ∧ ∀ v ∈ M.getD x [], v < (E.length : Int) := by
  have h1 := h.lens
  have hm := h.al.right.mo x hx
  have hin := fun v hv => Sp.isList_in (n := v) hm hv
  unfold Sp.isList at hm
  simp only [Bool.and_eq_true, decide_eq_true_eq] at hm
  have hlt : ∀ v ∈ M.getD x [], 0 ≤ v ∧ v < ((Sp.evs 0 p).length : Int) := fun v hv => ⟨(hin v hv).1, (hin v hv).2.1⟩
  have := Sp.nodup_le (m := (List.range (Sp.evs 0 p).length).map (fun (i : Nat) => (i : Int))) hm.1.1 (by
    intro w hw
    have := hlt w hw
    simp only [List.mem_map, List.mem_range]
    exact ⟨w.toNat, by omega, by omega⟩)
  simp only [List.length_map, List.length_range] at this
  exact ⟨by have : (M.getD x []).length ≤ _ := this; omega, fun v hv => by have := hlt v hv; omega⟩
theorem FenceP.fo : O.length ≤ 1000 ∧ ∀ v ∈ O, v < (E.length : Int) := by
  have h1 := h.lens
  have hm := h.al.right.fo
  have hin := fun v hv => Sp.isList_in (n := v) hm hv
  unfold Sp.isList at hm
  simp only [Bool.and_eq_true, decide_eq_true_eq] at hm
  have hlt : ∀ v ∈ O, 0 ≤ v ∧ v < ((Sp.evs 0 p).length : Int) := fun v hv => ⟨(hin v hv).1, (hin v hv).2.1⟩
  have := Sp.nodup_le (m := (List.range (Sp.evs 0 p).length).map (fun (i : Nat) => (i : Int))) hm.1.1 (by
    intro w hw
    have := hlt w hw
    simp only [List.mem_map, List.mem_range]
    exact ⟨w.toNat, by omega, by omega⟩)
  simp only [List.length_map, List.length_range] at this
  exact ⟨by have : O.length ≤ _ := this; omega, fun v hv => by have := hlt v hv; omega⟩
theorem FenceP.done : (Sp.evs 0 (Sp.lessP p G)).length ≤ 1000 ∧ Sp.right (Sp.lessP p G, ()) (Sp.gless (E, F, M, O, ()) G) = true ∧ Sp.allowed (Sp.lessP p G, ()) (Sp.gless (E, F, M, O, ()) G) = true := by
  have h1 := h.lens
  have hA := Sp.gless_allowed (gone := G) h.al h1.2.2.2.2.1 h1.2.2.2.2.2 h.two
  rw [(Sp.right_iff _ _).2 hA.right, (Sp.allowed_iff _ _).2 hA, Sp.lessP_evs, List.length_eraseIdx]
  refine ⟨?_, rfl, rfl⟩
  split <;> omega
end

theorem erase_snoc {α : Type} (l : List α) (x : α) (j n : Nat) (hn : l.length = n) : (l ++ [x]).eraseIdx j = if n = j then l.eraseIdx j else l.eraseIdx j ++ [x] := by
  subst hn
  by_cases h1 : j < l.length
  · rw [if_neg (by omega), List.eraseIdx_append_of_lt_length h1]
  · rw [List.eraseIdx_append_of_length_le (by omega), List.eraseIdx_of_length_le (l := l) (by omega)]
    by_cases h2 : l.length = j
    · rw [if_pos h2, show j - l.length = 0 from by omega]; simp
    · rw [if_neg h2, List.eraseIdx_of_length_le (by simp; omega)]
theorem lessK_succ {p : List (List Sp.LOp)} {G i k : Nat} (hk : k < (p.getD i []).length) : Sp.lessK p G i (k + 1) = if Sp.stp p i + k = G then Sp.lessK p G i k else Sp.lessK p G i k ++ [(p.getD i []).getD k (0, 0, 0, ())] := by
  unfold Sp.lessK
  rw [List.take_succ_eq_append_getElem hk, Sp.getD_lt hk]
  have hl : ((p.getD i []).take k).length = k := by rw [List.length_take]; omega
  rw [erase_snoc _ _ _ k hl]
  by_cases h1 : Sp.stp p i ≤ G
  · rw [if_pos h1, if_pos h1]
    by_cases h2 : Sp.stp p i + k = G
    · rw [if_pos h2, if_pos (by omega)]
    · rw [if_neg h2, if_neg (by omega)]
  · rw [if_neg h1, if_neg h1, if_neg (by omega)]
theorem hEN_succ {E : List Sp.LEv} {G n : Nat} (hn : n < E.length) : Sp.hEN E G (n + 1) = if n = G then Sp.hEN E G n else Sp.hEN E G n ++ [Sp.ev E (n : Int)] := by
  have e : Sp.ev E (n : Int) = E[n] := by unfold Sp.ev; rw [Int.toNat_natCast, Sp.getD_lt hn]
  unfold Sp.hEN
  rw [List.take_succ_eq_append_getElem hn, e]
  have hl : (E.take n).length = n := by rw [List.length_take]; omega
  rw [erase_snoc _ _ _ n hl]
theorem hEN_len {E : List Sp.LEv} {G n : Nat} (hn : n ≤ E.length) : ((Sp.hEN E G n).length : Int) = if G < n then (n : Int) - 1 else n := by
  unfold Sp.hEN
  rw [List.length_eraseIdx, List.length_take]
  split <;> split <;> omega
theorem last_get {α : Type} {l : List α} {x d : α} {n : Nat} (h : l.length = n) : (l ++ [x]).getD n d = x := by
  subst h
  rw [List.getD_eq_getElem?_getD]; simp
theorem last_set {α : Type} {l : List α} {x v : α} {n : Nat} (h : l.length = n) : (l ++ [x]).set n v = l ++ [v] := by
  subst h
  simp [List.set_append]

set_option maxRecDepth 100000 in
theorem ok7 : FOk Try.prog 7 S7 := by
  have hC : CtxOK Try.prog C7 := ctx_ok rfl rfl (fns_cons ok10 (fns_cons ok11 (fns_cons ok12c (fns_cons ok14 (fns_cons ok16 (fns_cons ok18 (fns_cons ok25 fns_nil))))))) ptrs_nil
  refine FOk.intro hC (stpP_ok hC) Try.call7 Try.func7 (by kernel_rfl) (by kernel_rfl) L7 (vc7.mpr ?_)
  simp only [z1, z2, z3, z4, z5, z6, z7, z8, z9, z10, z11, z12, z13, z14, z15, z16, z17, z18, z19, z20, z21, z22, z23, z24, z25, z26, z27, z28, z29, z30, z31, z32, z33, z34, z35, z36, z37, z38, dFact]
  intro x hx
  have hv := Sp.madeP_valid hx.1.2
  have hfine := Sp.madeP_fine hx.1.2
  have hn8 : 0 ≤ x.2.2.1 := hx.2.2.1
  have hl4 : (Sp.madeP x.1).length ≤ 4 := by
    have h := hv
    unfold Sp.valid at h
    simp only [Bool.and_eq_true, decide_eq_true_eq] at h
    exact h.1.1.1.2
  have hrow : ∀ i, ((Sp.madeP x.1).getD i []).length ≤ 100 := fun i => Nat.le_trans (Sp.evs_get _ i 0) (Sp.madeP_fine hx.1.2).1
  clear hx
  have hge := gg_eta (Sp.madeP x.1) x.2.1 x.2.2.1
  have hgo : Sp.goneN (Sp.madeP x.1) x.2.1 x.2.2.1 = ((Sp.ggO (Sp.madeP x.1) x.2.1 x.2.2.1).getD (x.2.2.1.tmod ((Sp.ggO (Sp.madeP x.1) x.2.1 x.2.2.1).length : Int)).toNat 0).toNat := rfl
  have h1000 : (Sp.evs 0 (Sp.madeP x.1)).length ≤ 1000 := Nat.le_trans hfine.1 (by decide)
  have key : ∀ E F M O, Sp.gg (Sp.madeP x.1) x.2.1 x.2.2.1 = (E, F, M, O, ()) → Sp.allowed (Sp.madeP x.1, ()) (E, F, M, O, ()) = true → ¬ (O.length : Int) = 0 → 2 ≤ (E.length : Int) →
      inN (x.2.2.1.tmod (O.length : Int)) O.length ∧ O.getD (x.2.2.1.tmod (O.length : Int)).toNat 0 = (Sp.goneN (Sp.madeP x.1) x.2.1 x.2.2.1 : Int) ∧
      FenceP (Sp.madeP x.1) (Sp.ggE (Sp.madeP x.1) x.2.1 x.2.2.1) (Sp.ggF (Sp.madeP x.1) x.2.1 x.2.2.1) (Sp.ggM (Sp.madeP x.1) x.2.1 x.2.2.1) (Sp.ggO (Sp.madeP x.1) x.2.1 x.2.2.1) (Sp.goneN (Sp.madeP x.1) x.2.1 x.2.2.1) := by
    intro E F M O heq h1 h2 h3
    have h4 := fenceP hn8 hv h1 h2 h3
    rw [hgo]
    unfold Sp.ggE Sp.ggF Sp.ggM Sp.ggO
    rw [heq]
    exact ⟨h4.2.1, h4.1, h4.2.2⟩
  refine ⟨⟨hfine, by omega⟩, by decide, fun hpar => ⟨hfine, h1000, fun hc => ⟨⟨hc.1.2, (key _ _ _ _ (gg_yes hpar) hc.1.1 hc.1.2 hc.2).1⟩, ⟨0, Nat.zero_le _, rfl, rfl, (key _ _ _ _ (gg_yes hpar) hc.1.1 hc.1.2 hc.2).2.1, by rw [hge, gg_yes hpar], rfl, rfl, rfl⟩, ?_⟩⟩, fun hpar => ⟨h1000, fun hc => ⟨⟨hc.1.2, (key _ _ _ _ (gg_no hpar) hc.1.1 hc.1.2 hc.2).1⟩, ⟨0, Nat.zero_le _, rfl, rfl, (key _ _ _ _ (gg_no hpar) hc.1.1 hc.1.2 hc.2).2.1, by rw [hge, gg_no hpar], rfl, rfl, rfl⟩, ?_⟩⟩⟩
  all_goals
    have hk : FenceP (Sp.madeP x.1) (Sp.ggE (Sp.madeP x.1) x.2.1 x.2.2.1) (Sp.ggF (Sp.madeP x.1) x.2.1 x.2.2.1) (Sp.ggM (Sp.madeP x.1) x.2.1 x.2.2.1) (Sp.ggO (Sp.madeP x.1) x.2.1 x.2.2.1) (Sp.goneN (Sp.madeP x.1) x.2.1 x.2.2.1) := by
      first
      | exact (key _ _ _ _ (gg_yes hpar) hc.1.1 hc.1.2 hc.2).2.2
      | exact (key _ _ _ _ (gg_no hpar) hc.1.1 hc.1.2 hc.2).2.2
    clear hc key hge hgo
    intro i hi _
    have hL := hk.lens
    have hstp : ∀ c, c ≤ (Sp.madeP x.1).length → Sp.stp (Sp.madeP x.1) c ≤ 100 := by
      intro c hc
      have := Sp.stp_mono (p := Sp.madeP x.1) hc
      rw [Sp.stp_all] at this
      omega
    refine ⟨fun hlt => ⟨by rw [Sp.lessN_len, maxNew_eq]; omega, ⟨0, ⟨by omega, Nat.zero_le _⟩, rfl, by omega, rfl, ?_, rfl⟩, ?_⟩, fun hge => ?_⟩
    · unfold Sp.lessK; split <;> simp
    · intro k hk2 _
      have hil := hk2.1
      have hss := Sp.stp_succ hil
      have hse := hstp (i + 1) (by omega)
      have hr := hrow i
      have hlt2 : Sp.stp (Sp.madeP x.1) (i + 1) ≤ (Sp.evs 0 (Sp.madeP x.1)).length := by
        have := Sp.stp_mono (p := Sp.madeP x.1) (show i + 1 ≤ (Sp.madeP x.1).length by omega)
        rwa [Sp.stp_all] at this
      have hK : Sp.lessK (Sp.madeP x.1) (Sp.goneN (Sp.madeP x.1) x.2.1 x.2.2.1) i k = Sp.lessK (Sp.madeP x.1) (Sp.goneN (Sp.madeP x.1) x.2.1 x.2.2.1) i k := rfl
      have hKl : (Sp.lessK (Sp.madeP x.1) (Sp.goneN (Sp.madeP x.1) x.2.1 x.2.2.1) i k).length ≤ 100 := by
        unfold Sp.lessK
        split
        · rw [List.length_eraseIdx]; split <;> simp <;> omega
        · simp; omega
      refine ⟨⟨by omega, by omega⟩, fun hkl => ?_, fun hkl => ?_⟩
      · have hkl' : k < ((Sp.madeP x.1).getD i []).length := by omega
        have hks := lessK_succ (p := Sp.madeP x.1) (G := Sp.goneN (Sp.madeP x.1) x.2.1 x.2.2.1) hkl'
        have hes := hEN_succ (E := Sp.ggE (Sp.madeP x.1) x.2.1 x.2.2.1) (G := Sp.goneN (Sp.madeP x.1) x.2.1 x.2.2.1) (n := Sp.stp (Sp.madeP x.1) i + k) (by omega)
        have hel := hEN_len (E := Sp.ggE (Sp.madeP x.1) x.2.1 x.2.2.1) (G := Sp.goneN (Sp.madeP x.1) x.2.1 x.2.2.1) (n := Sp.stp (Sp.madeP x.1) i + k) (by omega)
        have hts := Sp.toL_succ (Sp.goneN (Sp.madeP x.1) x.2.1 x.2.2.1) (Sp.stp (Sp.madeP x.1) i + k)
        refine ⟨fun hg => ⟨by rw [Sp.toL_len, maxNew_eq]; omega, inK_of (by omega) (by omega), inK_of (by omega) (by omega), k + 1, ⟨hil, by omega⟩, by omega, by omega, by omega, ?_, ?_, ?_⟩, fun hg => ⟨by rw [Sp.toL_len, maxNew_eq]; omega, ⟨⟨by omega, by omega⟩, ?_⟩, ⟨⟨by omega, by rw [List.length_append, Sp.lessN_len]; simp; omega⟩, ⟨by omega, by omega⟩, ⟨by omega, by omega⟩, ?_, ⟨by omega, by rw [List.length_append, Sp.lessN_len]; simp; omega⟩⟩, inK_of (by omega) (by omega), inK_of (by omega) (by omega), k + 1, ⟨hil, by omega⟩, by omega, by omega, by omega, ?_, ?_, ?_⟩⟩
        · rw [← Nat.add_assoc, hts]; unfold Sp.tq; rw [if_pos (by omega)]
        · rw [hks, if_pos (by omega)]
        · rw [← Nat.add_assoc, hes, if_pos (by omega)]
        · rw [maxNew_eq]
          have : ((Sp.hEN (Sp.ggE (Sp.madeP x.1) x.2.1 x.2.2.1) (Sp.goneN (Sp.madeP x.1) x.2.1 x.2.2.1) (Sp.stp (Sp.madeP x.1) i + k)).length : Int) ≤ 100 := by rw [hel]; split <;> omega
          omega
        · rw [last_get (Sp.lessN_len _ _ _), maxNew_eq]; omega
        · have htq : Sp.tq (Sp.goneN (Sp.madeP x.1) x.2.1 x.2.2.1) (Sp.stp (Sp.madeP x.1) i + k) = ((Sp.hEN (Sp.ggE (Sp.madeP x.1) x.2.1 x.2.2.1) (Sp.goneN (Sp.madeP x.1) x.2.1 x.2.2.1) (Sp.stp (Sp.madeP x.1) i + k)).length : Int) := by
            rw [hel]; unfold Sp.tq
            rw [if_neg (show ¬ Sp.stp (Sp.madeP x.1) i + k = Sp.goneN (Sp.madeP x.1) x.2.1 x.2.2.1 by omega)]
            by_cases hlg : Sp.goneN (Sp.madeP x.1) x.2.1 x.2.2.1 < Sp.stp (Sp.madeP x.1) i + k
            · rw [if_pos hlg, if_neg (by omega)]
            · rw [if_neg hlg, if_pos (by omega)]
          rw [← Nat.add_assoc, hts, htq]
        · rw [last_get (Sp.lessN_len _ _ _), last_set (Sp.lessN_len _ _ _), hks, if_neg (by omega)]
        · rw [← Nat.add_assoc, hes, if_neg (by omega)]; rfl
      · have hke : k = ((Sp.madeP x.1).getD i []).length := by omega
        refine ⟨inK_of (by omega) (by omega), i + 1, by omega, by omega, by omega, by omega, by rw [hss, hke], by rw [Sp.lessN_succ, hke], by rw [hss, hke]⟩
    have hie : i = (Sp.madeP x.1).length := by omega
    have hse : Sp.stp (Sp.madeP x.1) i = (Sp.ggE (Sp.madeP x.1) x.2.1 x.2.2.1).length := by rw [hie, Sp.stp_all]; omega
    refine ⟨⟨0, Nat.zero_le _, rfl, by rw [hse], by rw [hie]; rfl, ?_⟩, ?_⟩
    · rw [hse]; unfold Sp.hEN; rw [List.take_length]; rfl
    intro j hj _
    rw [Sp.toL_len]
    have hfl := Sp.hFN_le (Sp.ggF (Sp.madeP x.1) x.2.1 x.2.2.1) (Sp.goneN (Sp.madeP x.1) x.2.1 x.2.2.1) j
    have hfs := Sp.hFN_succ (Sp.ggF (Sp.madeP x.1) x.2.1 x.2.2.1) (Sp.goneN (Sp.madeP x.1) x.2.1 x.2.2.1) j
    refine ⟨fun hlt => ?_, fun hge2 => ?_⟩
    · have hlt' : j < (Sp.ggE (Sp.madeP x.1) x.2.1 x.2.2.1).length := by omega
      have hfr := hk.frm hlt'
      have hinF : inN (j : Int) (Sp.ggF (Sp.madeP x.1) x.2.1 x.2.2.1).length := ⟨by omega, by omega⟩
      have hF1 : (j : Int) ≠ (Sp.goneN (Sp.madeP x.1) x.2.1 x.2.2.1 : Int) → (Sp.hFN (Sp.ggF (Sp.madeP x.1) x.2.1 x.2.2.1) (Sp.goneN (Sp.madeP x.1) x.2.1 x.2.2.1) (j + 1)) = Sp.hFN (Sp.ggF (Sp.madeP x.1) x.2.1 x.2.2.1) (Sp.goneN (Sp.madeP x.1) x.2.1 x.2.2.1) j ++ [Sp.hF1 (Sp.ggF (Sp.madeP x.1) x.2.1 x.2.2.1) (Sp.goneN (Sp.madeP x.1) x.2.1 x.2.2.1) j] := by
        intro h; rw [hfs, if_neg (by omega)]
      refine ⟨fun _ => hinF, fun h1 => ⟨by rw [maxNew_eq]; omega, fun _ => hinF, fun h2 => by omega, fun h2 => ⟨inK_of (by omega) (by omega), j + 1, by omega, by omega, by omega, ?_⟩⟩, fun h1 => ⟨fun _ => hinF, fun h2 => ⟨⟨⟨hinF, ⟨h2.2, hfr.2⟩⟩, by rw [maxNew_eq]; omega⟩, inK_of (by omega) (by omega), j + 1, by omega, by omega, by omega, ?_⟩, fun h2 => ⟨inK_of (by omega) (by omega), j + 1, by omega, by omega, by omega, ?_⟩⟩⟩
      · rw [hF1 h1.1]; unfold Sp.hF1; rw [if_pos h1.2]
      · rw [hF1 h2.1, Sp.toL_get (by omega)]; unfold Sp.hF1; rw [if_neg (by omega)]
      · rw [hfs, if_pos, List.append_nil]
        simp only [Bool.and_eq_false_iff, bne_eq_false_iff_eq, decide_eq_false_iff_not] at h1 h2
        omega
    have hje : j = (Sp.ggE (Sp.madeP x.1) x.2.1 x.2.2.1).length := by omega
    refine ⟨⟨0, Nat.zero_le _, rfl, by rw [hje]; rfl⟩, ?_⟩
    intro q hq _
    have hml : (Sp.hMN (Sp.ggM (Sp.madeP x.1) x.2.1 x.2.2.1) (Sp.toL (Sp.goneN (Sp.madeP x.1) x.2.1 x.2.2.1) (Sp.ggE (Sp.madeP x.1) x.2.1 x.2.2.1).length) q).length = q := by simp [Sp.hMN]
    refine ⟨fun hlt => ⟨⟨⟨⟨by omega, by omega⟩, hk.mo (by omega)⟩, by rw [hml, maxNew_eq]; omega⟩, inK_of (by omega) (by omega), q + 1, by omega, by omega, by omega, ?_⟩, fun hge3 => ?_⟩
    · unfold Sp.hMN
      rw [List.range_succ, List.map_append]; rfl
    · have hq3 : q = 3 := by omega
      subst hq3
      have hd := hk.done
      exact ⟨hk.fo, ⟨hd.1, fun _ => hd.1⟩, hd.2⟩
end Go.User
