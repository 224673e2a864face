/- Plain facts: operations that are executed one after the other on a memory give a graph that is allowed. Plain facts: a graph in which one operation was executed after the other is right and allowed. One operation after the other on a memory, and the law of sequential executions: the functions compute what they should. The law AxiomSequential. -/
import Derived.Test.YtmoonjcbljefaaaLfn
import Derived.Test.YtmoonjcbljefaaaRows
import Derived.Test.YtmoonjcbljefaaaProg
import Derived.ProofKit
import Derived.SizedLaws
set_option linter.unusedVariables false
set_option linter.unusedSimpArgs false
namespace Sp
def st (p : List (List LOp)) (c : Nat) : Nat := (evs 0 (p.take c)).length
theorem st_mono {p : List (List LOp)} {c d : Nat} (h : c ≤ d) : st p c ≤ st p d := by
  unfold st
  have e : p.take d = p.take c ++ (p.take d).drop c := by
    have := List.take_append_drop c (p.take d)
    rw [List.take_take, Nat.min_eq_left h] at this
    exact this.symm
  rw [e, evs_append, List.length_append]; omega
theorem st_all (p : List (List LOp)) : st p p.length = (evs 0 p).length := by unfold st; rw [List.take_length]
theorem st_succ {p : List (List LOp)} {c : Nat} (h : c < p.length) : st p (c + 1) = st p c + (p.getD c []).length := by
  unfold st; rw [evs_succ h]; simp
theorem ev_core {p : List (List LOp)} {c i : Nat} (hc : c < p.length) (h1 : st p c ≤ i) (h2 : i < st p (c + 1)) : (ev (evs 0 p) (i : Int)).1 = (c : Int) := by
  have e : evs 0 p = evs 0 (p.take (c + 1)) ++ evs (0 + ((p.take (c + 1)).length : Int)) (p.drop (c + 1)) := by rw [← evs_append, List.take_append_drop]
  have h3 := st_succ hc
  unfold st at h1 h2 h3
  unfold ev
  rw [Int.toNat_natCast, e, List.getD_eq_getElem?_getD, List.getElem?_append_left h2, evs_succ hc, List.getElem?_append_right h1, List.getElem?_map, List.getElem?_eq_getElem (by omega)]
  rfl
theorem core_ex' {p : List (List LOp)} {i : Nat} : ∀ m, m ≤ p.length → i < st p m → ∃ c < m, st p c ≤ i ∧ i < st p (c + 1)
  | 0, _, h => by unfold st at h; simp [evs] at h
  | m + 1, hm, h => by
    rcases Nat.lt_or_ge i (st p m) with h1 | h1
    · obtain ⟨c, hc, h2⟩ := core_ex' m (by omega) h1
      exact ⟨c, by omega, h2⟩
    · exact ⟨m, by omega, h1, h⟩
theorem core_ex {p : List (List LOp)} {i : Nat} (h : i < (evs 0 p).length) : ∃ c < p.length, st p c ≤ i ∧ i < st p (c + 1) := core_ex' p.length (Nat.le_refl _) (by rw [st_all]; exact h)

theorem nxN_len (p : List (List LOp)) (i : Nat) : (nxN p i).length = i := by simp [nxN]
theorem enN_len (p : List (List LOp)) (i : Nat) : (enN p i).length = i := by simp [enN]
theorem nxN_get {p : List (List LOp)} {i j : Nat} (h : j < i) : (nxN p i).getD j 0 = (st p j : Int) := by
  rw [getD_lt (by rw [nxN_len]; exact h)]; simp [nxN, st]
theorem enN_get {p : List (List LOp)} {i j : Nat} (h : j < i) : (enN p i).getD j 0 = (st p (j + 1) : Int) := by
  rw [getD_lt (by rw [enN_len]; exact h)]; simp [enN, st]
theorem nxN_succ (p : List (List LOp)) (i : Nat) : nxN p (i + 1) = nxN p i ++ [((evs 0 (p.take i)).length : Int)] := by simp [nxN, List.range_succ]
theorem enN_succ (p : List (List LOp)) (i : Nat) : enN p (i + 1) = enN p i ++ [((evs 0 (p.take (i + 1))).length : Int)] := by simp [enN, List.range_succ]

/-- What has each of its members once is no longer than what has them. -/
theorem nodup_le : ∀ {l m : List Int}, l.Nodup → (∀ x ∈ l, x ∈ m) → l.length ≤ m.length
  | [], _, _, _ => Nat.zero_le _
  | x :: l, m, hn, hm => by
    have hx := hm x (by simp)
    rw [List.nodup_cons] at hn
    have := nodup_le (m := m.erase x) hn.2 (fun y hy => (List.mem_erase_of_ne (fun e : y = x => hn.1 (e ▸ hy))).2 (hm y (by simp [hy])))
    rw [List.length_erase_of_mem hx] at this
    have := List.length_pos_of_mem hx
    simp only [List.length_cons]; omega

def pre (X : List Int) (e : Int) : List Int := X.take (X.idxOf e)
def lastOr (l : List Int) : Int := if 0 < l.length then l.getD (l.length - 1) 0 else -1
def wX (E : List LEv) (x : Int) (e : Int) : Bool := writes (ev E e).2.1 && decide ((ev E e).2.1.2.1 = x)
def fX (E : List LEv) (e : Int) : Bool := decide ((ev E e).2.1.1 = 4)
theorem lastOr_cases (l : List Int) : (l = [] ∧ lastOr l = -1) ∨ (lastOr l ∈ l ∧ 0 < l.length) := by
  unfold lastOr
  split
  · rename_i h
    right
    rw [getD_lt (by omega)]
    exact ⟨List.getElem_mem _, h⟩
  · left
    exact ⟨List.length_eq_zero_iff.1 (by omega), rfl⟩
theorem pre_old {X : List Int} {e a : Int} (h : a ∈ X) : pre (X ++ [e]) a = pre X a := by
  unfold pre
  rw [List.idxOf_append, if_pos h]
  have := List.idxOf_lt_length_iff.2 h
  rw [List.take_append_of_le_length (by omega)]
theorem pre_new {X : List Int} {e : Int} (h : e ∉ X) : pre (X ++ [e]) e = X := by
  unfold pre
  rw [List.idxOf_append, if_neg h, List.idxOf_cons_self, Nat.zero_add]
  simp
theorem idx_old {X : List Int} {e a : Int} (h : a ∈ X) : (X ++ [e]).idxOf a = X.idxOf a := by rw [List.idxOf_append, if_pos h]
theorem idx_new {X : List Int} {e : Int} (h : e ∉ X) : (X ++ [e]).idxOf e = X.length := by rw [List.idxOf_append, if_neg h, List.idxOf_cons_self, Nat.zero_add]

theorem ev_setR (E : List LEv) (n : Nat) (v : Int) (i : Int) : ev (setR E n v) i = if i.toNat = n ∧ n < E.length then ((ev E n).1, (ev E n).2.1, v, ()) else ev E i := by
  unfold setR ev
  simp only [Int.toNat_natCast]
  rw [List.getD_eq_getElem?_getD, List.getElem?_set]
  by_cases h : n = i.toNat
  · rw [if_pos h]
    by_cases h2 : n < E.length
    · rw [if_pos (by omega), if_pos ⟨h.symm, h2⟩]; rfl
    · rw [if_neg (by omega), if_neg (fun h => h2 h.2), List.getD_eq_getElem?_getD, List.getElem?_eq_none (by omega)]
  · rw [if_neg h, if_neg (fun h' => h h'.1.symm), ← List.getD_eq_getElem?_getD]
theorem ev_setR_same (E : List LEv) (n : Nat) (v : Int) (i : Int) : (ev (setR E n v) i).1 = (ev E i).1 ∧ (ev (setR E n v) i).2.1 = (ev E i).2.1 := by
  rw [ev_setR]
  split
  · rename_i h
    have : ev E (n : Int) = ev E i := by unfold ev; rw [Int.toNat_natCast, h.1]
    rw [this]; exact ⟨rfl, rfl⟩
  · exact ⟨rfl, rfl⟩
theorem value_setR {E : List LEv} {n : Nat} {v : Int} {i : Int} (h : i < 0 ∨ i.toNat ≠ n) : value (setR E n v) i = value E i := by
  unfold value
  rcases h with h | h
  · rw [if_pos h, if_pos h]
  · have : ev (setR E n v) i = ev E i := by rw [ev_setR, if_neg (fun h' => h h'.1)]
    rw [this]

/-- The state after the operations X were executed, in this order. -/
structure IL (p : List (List LOp)) (X : List Int) (s : Run) : Prop where
  nxl : s.1.length = p.length
  el : s.2.1.length = (evs 0 p).length
  fl : s.2.2.1.length = (evs 0 p).length
  ml : s.2.2.2.1.length = 3
  nod : X.Nodup
  inr : ∀ e ∈ X, 0 ≤ e ∧ e < (evs 0 p).length
  nx : ∀ c < p.length, (st p c : Int) ≤ s.1.getD c 0 ∧ s.1.getD c 0 ≤ st p (c + 1) ∧ ∀ i : Nat, st p c ≤ i → i < st p (c + 1) → ((i : Int) ∈ X ↔ (i : Int) < s.1.getD c 0)
  po : ∀ c < p.length, ∀ i j : Nat, st p c ≤ i → i < j → j < st p (c + 1) → (j : Int) ∈ X → X.idxOf (i : Int) < X.idxOf (j : Int)
  same : ∀ i, (ev s.2.1 i).1 = (ev (evs 0 p) i).1 ∧ (ev s.2.1 i).2.1 = (ev (evs 0 p) i).2.1
  mo : ∀ x < 3, s.2.2.2.1.getD x [] = X.filter (wX (evs 0 p) (x : Int))
  fo : s.2.2.2.2 = X.filter (fX (evs 0 p))
  fr : ∀ e : Nat, e < (evs 0 p).length → (e : Int) ∉ X → s.2.2.1.getD e 0 = -1 ∧ (ev s.2.1 e).2.2.1 = 0
  fx : ∀ e ∈ X, s.2.2.1.getD e.toNat 0 = (if reads (ev (evs 0 p) e).2.1 = true then lastOr ((pre X e).filter (wX (evs 0 p) (ev (evs 0 p) e).2.1.2.1)) else -1) ∧
    (ev s.2.1 e).2.2.1 = if reads (ev (evs 0 p) e).2.1 = true then value s.2.1 (s.2.2.1.getD e.toNat 0) else 0

theorem ev_evs_R : ∀ (p : List (List LOp)) (c : Int) (n : Nat), ((evs c p).getD n ev0).2.2.1 = 0
  | [], c, n => by simp [evs, ev0]
  | l :: p, c, n => by
    simp only [evs]
    rw [List.getD_eq_getElem?_getD]
    rcases Nat.lt_or_ge n (l.map (mkEv c)).length with h | h
    · rw [List.getElem?_append_left h, List.getElem?_map, List.getElem?_eq_getElem (by simpa using h)]; rfl
    · rw [List.getElem?_append_right h, ← List.getD_eq_getElem?_getD]
      exact ev_evs_R p (c + 1) _
theorem IL.zero (p : List (List LOp)) (b : List Int) : IL p [] (runN p b 0) := by
  refine ⟨nxN_len _ _, rfl, by simp [runN], rfl, List.nodup_nil, fun e h => by simp at h, fun c hc => ?_, fun c hc i j _ _ _ h => by simp at h, fun i => ⟨rfl, rfl⟩, fun x hx => ?_, rfl, fun e he _ => ?_, fun e h => by simp at h⟩
  · show (st p c : Int) ≤ (nxN p p.length).getD c 0 ∧ (nxN p p.length).getD c 0 ≤ st p (c + 1) ∧ _
    rw [nxN_get hc]
    have := st_mono (p := p) (show c ≤ c + 1 by omega)
    refine ⟨Int.le_refl _, by omega, fun i h1 h2 => ?_⟩
    constructor
    · intro h; simp at h
    · intro h
      have h : (i : Int) < (nxN p p.length).getD c 0 := h
      rw [nxN_get hc] at h; omega
  · show ([[], [], []] : List (List Int)).getD x [] = _
    match x, hx with
    | 0, _ => rfl
    | 1, _ => rfl
    | 2, _ => rfl
  · refine ⟨?_, ?_⟩
    · show (List.replicate (evs 0 p).length (-1 : Int)).getD e 0 = -1
      rw [getD_lt (by simpa using he)]; simp
    · show (ev (evs 0 p) e).2.2.1 = 0
      unfold ev; exact ev_evs_R p 0 _

/-- Which core is next. -/
theorem IL.next {p : List (List LOp)} {X : List Int} {s : Run} (h : IL p X s) (b : List Int) {k : Nat} (hk : X.length < (evs 0 p).length) :
    0 < (canN s.1 (enN p p.length) s.1.length).length ∧ ∃ c, c < p.length ∧ pkC s.1 (enN p p.length) b k = (c : Int) ∧ ∃ i : Nat, pkE s.1 (enN p p.length) b k = (i : Int) ∧ s.1.getD c 0 = (i : Int) ∧ st p c ≤ i ∧ i < st p (c + 1) ∧ i < (evs 0 p).length ∧ (i : Int) ∉ X := by
  have hne : 0 < (canN s.1 (enN p p.length) s.1.length).length := by
    rcases Nat.eq_zero_or_pos (canN s.1 (enN p p.length) s.1.length).length with h0 | h0
    · exfalso
      have hnil := List.length_eq_zero_iff.1 h0
      have hall : ∀ c < p.length, (st p (c + 1) : Int) ≤ s.1.getD c 0 := by
        intro c hc
        rcases Int.lt_or_le (s.1.getD c 0) (st p (c + 1)) with h1 | h1
        · have : (c : Int) ∈ canN s.1 (enN p p.length) s.1.length := by
            unfold canN
            rw [mem_sel]
            exact ⟨c, by rw [h.nxl]; exact hc, decide_eq_true (by rw [enN_get hc]; exact h1), rfl⟩
          rw [hnil] at this; simp at this
        · exact h1
      have hmem : ∀ x ∈ (List.range (evs 0 p).length).map (fun (i : Nat) => (i : Int)), x ∈ X := by
        intro x hx
        simp only [List.mem_map, List.mem_range] at hx
        obtain ⟨i, hi, rfl⟩ := hx
        obtain ⟨c, hc, h1, h2⟩ := core_ex hi
        have := hall c hc
        exact ((h.nx c hc).2.2 i h1 h2).2 (by omega)
      have hnd : ((List.range (evs 0 p).length).map (fun (i : Nat) => (i : Int))).Nodup := by
        unfold List.Nodup
        rw [List.pairwise_map]
        exact (List.nodup_range (n := (evs 0 p).length)).imp (fun h e => h (by omega))
      have := nodup_le hnd hmem
      simp at this; omega
    · exact h0
  refine ⟨hne, ?_⟩
  have hm : pkC s.1 (enN p p.length) b k ∈ canN s.1 (enN p p.length) s.1.length := by
    unfold pkC
    have := tmod_toNat_lt (byteAt b k) hne
    rw [getD_lt this]
    exact List.getElem_mem _
  unfold canN at hm
  rw [mem_sel] at hm
  obtain ⟨c, hc, h1, h2⟩ := hm
  have hc : c < p.length := by rw [← h.nxl]; exact hc
  have h1 := of_decide_eq_true h1
  rw [enN_get hc] at h1
  obtain ⟨g1, g2, g3⟩ := h.nx c hc
  have e : s.1.getD c 0 = (((s.1.getD c 0).toNat : Nat) : Int) := by omega
  have hpe : pkE s.1 (enN p p.length) b k = s.1.getD c 0 := by
    unfold pkE; rw [h2, Int.toNat_natCast]
  have hle := st_mono (p := p) (show c + 1 ≤ p.length by omega)
  rw [st_all] at hle
  refine ⟨c, hc, h2, (s.1.getD c 0).toNat, by rw [hpe]; exact e, e, by omega, by omega, by omega, fun hX => ?_⟩
  have := (g3 (s.1.getD c 0).toNat (by omega) (by omega)).1 hX
  omega

theorem filter_snoc (P : Int → Bool) (X : List Int) (e : Int) : (X ++ [e]).filter P = X.filter P ++ (if P e = true then [e] else []) := by
  rw [List.filter_append]
  congr 1
  by_cases h : P e = true
  · rw [if_pos h]; simp [h]
  · rw [if_neg h]; simp [h]
theorem reads4 {o : LOp} (h : reads o = true) : o.1 ≠ 4 := by
  unfold reads at h
  simp only [Bool.or_eq_true, decide_eq_true_eq] at h
  omega
theorem writes4 {o : LOp} (h : writes o = true) : o.1 ≠ 4 := by
  unfold writes at h
  simp only [Bool.or_eq_true, decide_eq_true_eq] at h
  omega

theorem IL.step {p : List (List LOp)} {X : List Int} {s : Run} (h : IL p X s) (hX3 : ∀ x ∈ evs 0 p, Go.Lf.inN x.2.1.2.1 3) (b : List Int) {k : Nat} (hk : X.length < (evs 0 p).length) :
    IL p (X ++ [pkE s.1 (enN p p.length) b k]) (runS (enN p p.length) b k s) := by
  obtain ⟨_, c, hc, hpc, i, hpe, hnx, hi1, hi2, hin, hiX⟩ := h.next b (k := k) hk
  have hop := (h.same (i : Int)).2
  have hx3 := hX3 _ (ev_mem hin)
  have hpl : plL s.2.1 s.2.2.2.1 (i : Int) = X.filter (wX (evs 0 p) (ev (evs 0 p) (i : Int)).2.1.2.1) := by
    unfold plL
    rw [hop, h.mo _ (by have := hx3.1; have := hx3.2; omega)]
    congr 1
    have := hx3.1
    rw [show (((ev (evs 0 p) (i : Int)).2.1.2.1.toNat : Nat) : Int) = (ev (evs 0 p) (i : Int)).2.1.2.1 from by omega]
  have htk : takes s.2.1 s.2.2.2.1 (i : Int) = (reads (ev (evs 0 p) (i : Int)).2.1 && decide (0 < (X.filter (wX (evs 0 p) (ev (evs 0 p) (i : Int)).2.1.2.1)).length)) := by
    unfold takes
    rw [hpl, hop]
    cases hr : reads (ev (evs 0 p) (i : Int)).2.1
    · simp
    · rw [decide_eq_false (reads4 hr)]; simp
  have hla : lastL s.2.1 s.2.2.2.1 (i : Int) = (X.filter (wX (evs 0 p) (ev (evs 0 p) (i : Int)).2.1.2.1)).getD ((X.filter (wX (evs 0 p) (ev (evs 0 p) (i : Int)).2.1.2.1)).length - 1) 0 := by
    unfold lastL; rw [hpl]
  have hcore : ∀ c' < p.length, ∀ i' : Nat, st p c' ≤ i' → i' < st p (c' + 1) → i' = i → c' = c := by
    intro c' hc' i' h1 h2 e
    subst e
    have := ev_core hc' h1 h2
    rw [ev_core hc hi1 hi2] at this
    omega
  have hrs : runS (enN p p.length) b k s = (s.1.set c ((i : Int) + 1), xE s.2.1 s.2.2.2.1 (i : Int), xF s.2.1 s.2.2.1 s.2.2.2.1 (i : Int), xM s.2.1 s.2.2.2.1 (i : Int), xO s.2.1 s.2.2.2.2 (i : Int)) := by
    unfold runS xN; rw [hpc, hpe, Int.toNat_natCast]
  have hEsame : ∀ j, (ev (xE s.2.1 s.2.2.2.1 (i : Int)) j).1 = (ev s.2.1 j).1 ∧ (ev (xE s.2.1 s.2.2.2.1 (i : Int)) j).2.1 = (ev s.2.1 j).2.1 := by
    intro j
    unfold xE
    split
    · exact ev_setR_same _ _ _ _
    · exact ⟨rfl, rfl⟩
  have hEoth : ∀ j : Int, j.toNat ≠ i → ev (xE s.2.1 s.2.2.2.1 (i : Int)) j = ev s.2.1 j := by
    intro j hj
    unfold xE
    split
    · rw [ev_setR, if_neg (fun h => hj (by simpa using h.1))]
    · rfl
  have hFoth : ∀ j : Nat, j ≠ i → (xF s.2.1 s.2.2.1 s.2.2.2.1 (i : Int)).getD j 0 = s.2.2.1.getD j 0 := by
    intro j hj
    unfold xF
    split
    · rw [List.getD_eq_getElem?_getD, List.getElem?_set, if_neg (by simpa using Ne.symm hj), ← List.getD_eq_getElem?_getD]
    · rfl
  have hval : ∀ j : Int, j < 0 ∨ j.toNat ≠ i → value (xE s.2.1 s.2.2.2.1 (i : Int)) j = value s.2.1 j := by
    intro j hj
    unfold xE
    split
    · exact value_setR (by simpa using hj)
    · rfl
  have hlast : ∀ (Y : List Int) (P : Int → Bool), (∀ y ∈ Y, y ∈ X) → lastOr (Y.filter P) < 0 ∨ (lastOr (Y.filter P)).toNat ≠ i := by
    intro Y P hY
    rcases lastOr_cases (Y.filter P) with ⟨_, h1⟩ | ⟨h1, _⟩
    · left; rw [h1]; omega
    · have hm := hY _ (List.mem_filter.1 h1).1
      have := h.inr _ hm
      right
      intro e
      exact hiX (by rw [← e, Int.toNat_of_nonneg this.1]; exact hm)
  rw [hrs, hpe]
  refine ⟨by simpa using h.nxl, ?_, ?_, ?_, ?_, ?_, ?_, ?_, ?_, ?_, ?_, ?_, ?_⟩
  · show (xE _ _ _).length = _
    unfold xE; split
    · rw [setR_len]; exact h.el
    · exact h.el
  · show (xF _ _ _ _).length = _
    unfold xF; split
    · simpa using h.fl
    · exact h.fl
  · show (xM _ _ _).length = _
    unfold xM; split
    · simpa using h.ml
    · exact h.ml
  · rw [List.nodup_append]
    refine ⟨h.nod, by simp, fun a ha b hb => ?_⟩
    rw [List.mem_singleton] at hb
    subst hb
    exact fun e => hiX (e ▸ ha)
  · intro e he
    rw [List.mem_append, List.mem_singleton] at he
    rcases he with he | rfl
    · exact h.inr e he
    · omega
  · intro c' hc'
    obtain ⟨g1, g2, g3⟩ := h.nx c' hc'
    show (st p c' : Int) ≤ (s.1.set c ((i : Int) + 1)).getD c' 0 ∧ (s.1.set c ((i : Int) + 1)).getD c' 0 ≤ st p (c' + 1) ∧ ∀ i' : Nat, st p c' ≤ i' → i' < st p (c' + 1) → ((i' : Int) ∈ X ++ [(i : Int)] ↔ (i' : Int) < (s.1.set c ((i : Int) + 1)).getD c' 0)
    by_cases hcc : c = c'
    · subst hcc
      have e : (s.1.set c ((i : Int) + 1)).getD c 0 = (i : Int) + 1 := by
        rw [getD_lt (by simpa [h.nxl] using hc)]; simp
      rw [e]
      refine ⟨by omega, by omega, fun i' h1 h2 => ?_⟩
      rw [List.mem_append, List.mem_singleton, g3 i' h1 h2, hnx]
      omega
    · have e : (s.1.set c ((i : Int) + 1)).getD c' 0 = s.1.getD c' 0 := by
        rw [List.getD_eq_getElem?_getD, List.getElem?_set, if_neg hcc, ← List.getD_eq_getElem?_getD]
      rw [e]
      refine ⟨g1, g2, fun i' h1 h2 => ?_⟩
      rw [List.mem_append, List.mem_singleton, ← g3 i' h1 h2]
      constructor
      · rintro (h | h)
        · exact h
        · exact absurd (hcore c' hc' i' h1 h2 (by omega)).symm hcc
      · exact .inl
  · intro c' hc' i' j' h1 h2 h3 hj
    rw [List.mem_append, List.mem_singleton] at hj
    rcases hj with hj | hj
    · have hi' : (i' : Int) ∈ X := by
        have g3 := (h.nx c' hc').2.2
        have := (g3 j' (by omega) h3).1 hj
        exact (g3 i' h1 (by omega)).2 (by omega)
      rw [idx_old hi', idx_old hj]
      exact h.po c' hc' i' j' h1 h2 h3 hj
    · have hji : j' = i := by omega
      have hcc := hcore c' hc' j' (by omega) h3 hji
      subst hcc
      have hi' : (i' : Int) ∈ X := by
        refine ((h.nx c' hc').2.2 i' h1 (by omega)).2 ?_
        rw [hnx]; omega
      rw [idx_old hi', hj, idx_new hiX]
      exact List.idxOf_lt_length_iff.2 hi'
  · intro j
    have h1 := hEsame j
    have h2 := h.same j
    exact ⟨h1.1.trans h2.1, h1.2.trans h2.2⟩
  · intro x hx
    show (xM s.2.1 s.2.2.2.1 (i : Int)).getD x [] = _
    rw [filter_snoc, ← h.mo x hx]
    unfold xM
    rw [hop]
    by_cases hw : writes (ev (evs 0 p) (i : Int)).2.1 = true
    · rw [if_pos ⟨writes4 hw, hw⟩]
      by_cases hxx : (ev (evs 0 p) (i : Int)).2.1.2.1 = (x : Int)
      · rw [if_pos (by unfold wX; rw [hw, decide_eq_true hxx]; rfl)]
        have e : (ev (evs 0 p) (i : Int)).2.1.2.1.toNat = x := by omega
        rw [e, getD_lt (by simp [h.ml]; exact hx)]
        simp only [List.getElem_set_self]
        unfold plL
        rw [hop, e]
      · rw [if_neg (by unfold wX; rw [hw, decide_eq_false hxx]; simp), List.append_nil]
        have := hx3.1
        rw [List.getD_eq_getElem?_getD, List.getElem?_set, if_neg (by omega), ← List.getD_eq_getElem?_getD]
    · rw [if_neg (fun h => hw h.2), if_neg (by unfold wX; simp [hw]), List.append_nil]
  · show xO s.2.1 s.2.2.2.2 (i : Int) = _
    rw [filter_snoc, ← h.fo]
    unfold xO
    rw [hop]
    by_cases h4 : (ev (evs 0 p) (i : Int)).2.1.1 = 4
    · rw [if_pos h4, if_pos (by unfold fX; exact decide_eq_true h4)]
    · rw [if_neg h4, if_neg (by unfold fX; rw [decide_eq_false h4]; simp), List.append_nil]
  · intro e he hm
    rw [List.mem_append, List.mem_singleton, not_or] at hm
    have hne : e ≠ i := fun h => hm.2 (by rw [h])
    obtain ⟨h1, h2⟩ := h.fr e he hm.1
    refine ⟨?_, ?_⟩
    · show (xF s.2.1 s.2.2.1 s.2.2.2.1 (i : Int)).getD e 0 = -1
      rw [hFoth e hne]; exact h1
    · show (ev (xE s.2.1 s.2.2.2.1 (i : Int)) e).2.2.1 = 0
      rw [hEoth _ (by simpa using hne)]; exact h2
  · intro e he
    show (xF s.2.1 s.2.2.1 s.2.2.2.1 (i : Int)).getD e.toNat 0 = _ ∧ (ev (xE s.2.1 s.2.2.2.1 (i : Int)) e).2.2.1 = if reads (ev (evs 0 p) e).2.1 = true then value (xE s.2.1 s.2.2.2.1 (i : Int)) ((xF s.2.1 s.2.2.1 s.2.2.2.1 (i : Int)).getD e.toNat 0) else 0
    rw [List.mem_append, List.mem_singleton] at he
    rcases he with he | he
    · have hne : e.toNat ≠ i := by
        intro e'
        have := (h.inr e he).1
        exact hiX (by rw [← e', Int.toNat_of_nonneg this]; exact he)
      obtain ⟨h1, h2⟩ := h.fx e he
      rw [hFoth _ hne, pre_old he]
      refine ⟨h1, ?_⟩
      rw [hEoth _ hne, h2]
      by_cases hr : reads (ev (evs 0 p) e).2.1 = true
      · rw [if_pos hr, if_pos hr, hval]
        rw [h1, if_pos hr]
        exact hlast _ _ (fun y hy => List.mem_of_mem_take hy)
      · rw [if_neg hr, if_neg hr]
    · subst he
      obtain ⟨f1, f2⟩ := h.fr i hin hiX
      rw [pre_new hiX, Int.toNat_natCast]
      generalize hL : X.filter (wX (evs 0 p) (ev (evs 0 p) (i : Int)).2.1.2.1) = L at htk hla
      have hlast := hlast X (wX (evs 0 p) (ev (evs 0 p) (i : Int)).2.1.2.1) (fun _ h => h)
      rw [hL] at hlast
      have hFi : (xF s.2.1 s.2.2.1 s.2.2.2.1 (i : Int)).getD i 0 = if reads (ev (evs 0 p) (i : Int)).2.1 = true then lastOr L else -1 := by
        unfold xF
        rw [htk, hla, Int.toNat_natCast]
        by_cases hr : reads (ev (evs 0 p) (i : Int)).2.1 = true
        · rw [if_pos hr]
          by_cases hl : 0 < L.length
          · rw [if_pos (by rw [hr, decide_eq_true hl]; rfl), getD_lt (by simp [h.fl]; exact hin)]
            unfold lastOr
            simp [hl]
          · rw [if_neg (by rw [hr, decide_eq_false hl]; simp)]
            unfold lastOr
            rw [if_neg hl]; exact f1
        · rw [if_neg hr, if_neg (by simp [hr])]
          exact f1
      refine ⟨hFi, ?_⟩
      rw [hFi]
      by_cases hr : reads (ev (evs 0 p) (i : Int)).2.1 = true
      · rw [if_pos hr, if_pos hr, hval _ hlast]
        unfold xE
        rw [htk, hla, Int.toNat_natCast]
        by_cases hl : 0 < L.length
        · rw [if_pos (by rw [hr, decide_eq_true hl]; rfl), ev_setR, if_pos ⟨by simp, by rw [h.el]; exact hin⟩]
          unfold lastOr
          rw [if_pos hl]
        · rw [if_neg (by rw [hr, decide_eq_false hl]; simp), f2]
          unfold lastOr value
          rw [if_neg hl]; rfl
      · rw [if_neg hr]
        unfold xE
        rw [htk, if_neg (by simp [hr])]
        exact f2

def seqN (p : List (List LOp)) (b : List Int) : Nat → List Int
  | 0 => []
  | k + 1 => seqN p b k ++ [pkE (runN p b k).1 (enN p p.length) b k]
theorem seqN_len (p : List (List LOp)) (b : List Int) : ∀ k, (seqN p b k).length = k
  | 0 => rfl
  | k + 1 => by simp [seqN, seqN_len p b k]
theorem IL.all {p : List (List LOp)} (hX3 : ∀ x ∈ evs 0 p, Go.Lf.inN x.2.1.2.1 3) (b : List Int) : ∀ k, k ≤ (evs 0 p).length → IL p (seqN p b k) (runN p b k)
  | 0, _ => IL.zero p b
  | k + 1, hk => (IL.all hX3 b k (by omega)).step hX3 b (k := k) (by rw [seqN_len]; omega)
end Sp
namespace Sp
theorem get2_upd2_or {r : Rel} {a b x y : Nat} {v : Bool} (h : get2 (upd2 r a b v) x y = true) : get2 r x y = true ∨ (x = a ∧ y = b ∧ v = true) := by
  unfold get2 upd2 at *
  by_cases hxa : x = a
  · subst hxa
    have e : (r.set x ((r.getD x (List.replicate 6 false)).set b v)).getD x (List.replicate 6 false) = if x < r.length then (r.getD x (List.replicate 6 false)).set b v else List.replicate 6 false := by
      rw [List.getD_eq_getElem?_getD, List.getElem?_set, if_pos rfl]
      split <;> rfl
    rw [e] at h
    split at h
    · rw [List.getD_eq_getElem?_getD, List.getElem?_set] at h
      by_cases hyb : b = y
      · subst hyb
        rw [if_pos rfl] at h
        split at h
        · exact .inr ⟨rfl, rfl, h⟩
        · cases h
      · rw [if_neg hyb, ← List.getD_eq_getElem?_getD] at h
        exact .inl h
    · rename_i h2
      left
      rw [List.getD_eq_getElem?_getD (l := r), List.getElem?_eq_none (by omega)]; exact h
  · left
    have e : (r.set a ((r.getD a (List.replicate 6 false)).set b v)).getD x (List.replicate 6 false) = r.getD x (List.replicate 6 false) := by
      rw [List.getD_eq_getElem?_getD, List.getElem?_set, if_neg (fun e => hxa e.symm), ← List.getD_eq_getElem?_getD]
    rw [e] at h; exact h
section
variable {R : Nat → Nat → Prop} (ht : ∀ a b c, R a b → R b c → R a c)
include ht
theorem stepB_in {k a b : Nat} {r : Rel} (h : ∀ x y, get2 r x y = true → R x y) : ∀ x y, get2 (stepB k a r b) x y = true → R x y := by
  intro x y hxy
  unfold stepB at hxy
  rcases get2_upd2_or hxy with h1 | ⟨rfl, rfl, h1⟩
  · exact h _ _ h1
  · simp only [Bool.or_eq_true, Bool.and_eq_true] at h1
    rcases h1 with h1 | ⟨h1, h2⟩
    · exact h _ _ h1
    · exact ht _ _ _ (h _ _ h1) (h _ _ h2)
theorem rowB_in {k a : Nat} {r : Rel} (h : ∀ x y, get2 r x y = true → R x y) : ∀ n, ∀ x y, get2 (rowB k a r n) x y = true → R x y
  | 0 => h
  | n + 1 => by rw [Go.User.rowB_succ]; exact stepB_in ht (rowB_in h n)
theorem rowA_in {k : Nat} {r : Rel} (h : ∀ x y, get2 r x y = true → R x y) : ∀ n, ∀ x y, get2 (rowA k r n) x y = true → R x y
  | 0 => h
  | n + 1 => by rw [Go.User.rowA_succ]; exact rowB_in ht (rowA_in h n) 6
theorem closeN_in {r : Rel} (h : ∀ x y, get2 r x y = true → R x y) : ∀ n, ∀ x y, get2 (closeN r n) x y = true → R x y
  | 0 => h
  | n + 1 => by rw [Go.User.closeN_succ]; exact rowA_in ht (closeN_in h n) 6
/-- The closure of a relation lies in each transitive relation that it lies in. -/
theorem close_in {r : Rel} (h : ∀ x y, get2 r x y = true → R x y) : ∀ x y, get2 (close r) x y = true → R x y := closeN_in ht h 6
end
theorem get2_mat_in {f : Nat → Nat → Bool} {a b : Nat} (h : get2 (mat f) a b = true) : a < 6 ∧ b < 6 ∧ f a b = true := by
  rcases Nat.lt_or_ge a 6 with ha | ha
  · rcases Nat.lt_or_ge b 6 with hb | hb
    · exact ⟨ha, hb, by rw [get2_mat ha hb] at h; exact h⟩
    · unfold get2 at h
      rw [mat_row ha, List.getD_eq_getElem?_getD, List.getElem?_eq_none (by simp; exact hb)] at h
      cases h
  · unfold get2 at h
    rw [List.getD_eq_getElem?_getD (l := mat f), List.getElem?_eq_none (by simp [mat]; exact ha)] at h
    simp only [Option.getD_none] at h
    rcases Nat.lt_or_ge b 6 with hb | hb
    · rw [getD_lt (by simpa using hb), List.getElem_replicate] at h; cases h
    · rw [List.getD_eq_getElem?_getD, List.getElem?_eq_none (by simpa using hb)] at h; cases h

theorem pre_cons (x : Int) (X : List Int) (a : Int) : pre (x :: X) a = if x = a then [] else x :: pre X a := by
  unfold pre
  rw [List.idxOf_cons]
  by_cases h : x = a
  · rw [if_pos h]; simp [h]
  · rw [if_neg h]
    have : (x == a) = false := by simpa using h
    rw [this]; simp
theorem idx_cons2 (x : Int) (X : List Int) (a : Int) : (x :: X).idxOf a = if x = a then 0 else X.idxOf a + 1 := by
  rw [List.idxOf_cons]
  by_cases h : x = a
  · rw [if_pos h]; simp [h]
  · rw [if_neg h]
    have : (x == a) = false := by simpa using h
    rw [this]; simp
theorem mem_pre : ∀ {X : List Int} {a b : Int}, a ∈ pre X b ↔ X.idxOf a < X.idxOf b
  | [], a, b => by simp [pre]
  | x :: X, a, b => by
    rw [pre_cons, idx_cons2, idx_cons2]
    have ih := mem_pre (X := X) (a := a) (b := b)
    by_cases h1 : x = b
    · rw [if_pos h1, if_pos h1]; simp
    · rw [if_neg h1, if_neg h1]
      by_cases h2 : x = a
      · rw [if_pos h2]; simp [h2]
      · rw [if_neg h2, List.mem_cons, ih]
        constructor
        · rintro (h | h)
          · exact absurd h.symm h2
          · omega
        · intro h; right; omega
theorem pre_pre : ∀ {X : List Int} {a b : Int}, X.idxOf a < X.idxOf b → ∃ t, pre X b = pre X a ++ a :: t
  | [], a, b, h => by simp at h
  | x :: X, a, b, h => by
    rw [idx_cons2, idx_cons2] at h
    rw [pre_cons, pre_cons]
    by_cases h1 : x = b
    · rw [if_pos h1] at h; omega
    · rw [if_neg h1] at h ⊢
      by_cases h2 : x = a
      · rw [if_pos h2]; exact ⟨pre X b, by rw [h2]; rfl⟩
      · rw [if_neg h2] at h ⊢
        obtain ⟨t, ht⟩ := pre_pre (X := X) (a := a) (b := b) (by omega)
        exact ⟨t, by rw [ht]; rfl⟩
theorem idxOf_filter {P : Int → Bool} : ∀ {X : List Int} {a : Int}, a ∈ X → P a = true → (X.filter P).idxOf a = ((pre X a).filter P).length
  | x :: X, a, h, hP => by
    rw [pre_cons]
    by_cases h2 : x = a
    · rw [if_pos h2, h2, List.filter_cons_of_pos hP, List.idxOf_cons_self]; rfl
    · rw [if_neg h2]
      have hm : a ∈ X := by
        rcases List.mem_cons.1 h with h | h
        · exact absurd h.symm h2
        · exact h
      have ih := idxOf_filter (P := P) hm hP
      by_cases hx : P x = true
      · rw [List.filter_cons_of_pos hx, List.filter_cons_of_pos hx, idx_cons2, if_neg h2, ih]; rfl
      · rw [List.filter_cons_of_neg hx, List.filter_cons_of_neg hx, ih]
theorem pre_append (X : List Int) (b : Int) : ∃ t, X = pre X b ++ t := ⟨X.drop (X.idxOf b), by unfold pre; rw [List.take_append_drop]⟩
theorem idx_of_mem {l : List Int} {a : Int} (h : a ∈ l) : idx l a = (l.idxOf a : Int) := by unfold idx; rw [if_pos h]
theorem idx_lastOr {X : List Int} {P : Int → Bool} {b : Int} (hn : X.Nodup) (h1 : (-1 : Int) ∉ X) : idx (X.filter P) (lastOr ((pre X b).filter P)) = (((pre X b).filter P).length : Int) - 1 := by
  obtain ⟨t, ht⟩ := pre_append X b
  have hf : X.filter P = (pre X b).filter P ++ t.filter P := by rw [← List.filter_append, ← ht]
  rcases lastOr_cases ((pre X b).filter P) with ⟨h2, h3⟩ | ⟨h2, h3⟩
  · rw [h3, ← idx_none (fun h => h1 (List.mem_filter.1 h).1), h2]; rfl
  · have hm : lastOr ((pre X b).filter P) ∈ X.filter P := by rw [hf]; exact List.mem_append_left _ h2
    rw [idx_of_mem hm, hf, List.idxOf_append, if_pos h2]
    have hn2 : ((pre X b).filter P).Nodup := by
      rw [ht, List.nodup_append] at hn
      exact hn.1.filter _
    generalize hL : (pre X b).filter P = L at *
    have e : lastOr L = L[L.length - 1]'(by omega) := by
      unfold lastOr; rw [if_pos h3, getD_lt (by omega)]
    rw [e, List.Nodup.idxOf_getElem hn2]
    omega
theorem isList_filter {X : List Int} {E : List LEv} {is : LOp → Bool} {P : Int → Bool} (hn : X.Nodup) (hr : ∀ e ∈ X, 0 ≤ e ∧ e < E.length) (ha : ∀ i : Nat, i < E.length → (i : Int) ∈ X) (hP : ∀ e, P e = is (ev E e).2.1) :
    isList (X.filter P) E is = true := by
  unfold isList
  simp only [Bool.and_eq_true, decide_eq_true_eq]
  refine ⟨⟨hn.filter _, fun n h => ?_⟩, fun n h h2 => ?_⟩
  · have := List.mem_filter.1 h
    exact ⟨(hr n this.1).1, (hr n this.1).2, by rw [← hP]; exact this.2⟩
  · exact List.mem_filter.2 ⟨ha n h, by rw [hP]; exact h2⟩
theorem kinds {o : LOp} (h : usual o = true) (h4 : o.1 ≠ 4) : o.1 = 1 ∨ o.1 = 2 ∨ o.1 = 3 := by
  unfold usual at h
  rw [if_neg h4] at h
  split at h
  · exact .inl (by assumption)
  · split at h
    · exact .inr (by assumption)
    · cases h

theorem run_right {t : Lit} {b : List Int} (hv : valid t = true) : RightP t (iE t b, iF t b, iM t b, iO t b, ()) ∧ ∃ X, IL t.1 X (runN t.1 b (evs 0 t.1).length) ∧ ∀ i : Nat, i < (evs 0 t.1).length → (i : Int) ∈ X := by
  have hu := valid_ev hv
  have h := IL.all (p := t.1) (fun x hx => by have := usual_X (hu.2 x hx); exact ⟨this.1, by omega⟩) b (evs 0 t.1).length (Nat.le_refl _)
  have hl := seqN_len t.1 b (evs 0 t.1).length
  generalize seqN t.1 b (evs 0 t.1).length = X at h hl
  have hall : ∀ i : Nat, i < (evs 0 t.1).length → (i : Int) ∈ X := by
    intro i hi
    refine Classical.byContradiction fun hm => ?_
    have := nodup_le (l := (i : Int) :: X) (m := (List.range (evs 0 t.1).length).map (fun (i : Nat) => (i : Int))) (List.nodup_cons.2 ⟨hm, h.nod⟩) (by
      intro x hx
      simp only [List.mem_map, List.mem_range]
      rcases List.mem_cons.1 hx with rfl | hx
      · exact ⟨i, hi, rfl⟩
      · have := h.inr x hx
        exact ⟨x.toNat, by omega, by omega⟩)
    simp at this; omega
  refine ⟨?_, X, h, hall⟩
  refine ⟨hv, h.el, h.fl, h.ml, fun n hn => ?_, fun n hn => ?_, fun q hq => ?_, ?_⟩
  · have hf := (h.fx _ (hall n hn)).1
    rw [Int.toNat_natCast] at hf
    have hs := h.same (n : Int)
    refine ⟨hs.1, hs.2, ?_⟩
    show -1 ≤ (iF t b).getD n 0 ∧ (iF t b).getD n 0 < ((evs 0 t.1).length : Int) ∧ (0 ≤ (iF t b).getD n 0 → _)
    have hf : (iF t b).getD n 0 = _ := hf
    by_cases hr : reads (ev (evs 0 t.1) (n : Int)).2.1 = true
    · rw [if_pos hr] at hf
      rcases lastOr_cases ((pre X n).filter (wX (evs 0 t.1) (ev (evs 0 t.1) (n : Int)).2.1.2.1)) with ⟨_, h2⟩ | ⟨h2, _⟩
      · rw [hf, h2]; exact ⟨by omega, by omega, fun h => by omega⟩
      · rw [← hf] at h2
        have h3 := List.mem_filter.1 h2
        have h4 := h.inr _ (List.mem_of_mem_take h3.1)
        have h5 := h3.2
        unfold wX at h5
        simp only [Bool.and_eq_true, decide_eq_true_eq] at h5
        exact ⟨by omega, h4.2, fun _ => ⟨hr, h5.1, h5.2⟩⟩
    · rw [if_neg hr] at hf
      rw [hf]; exact ⟨by omega, by omega, fun h => by omega⟩
  · have hn : n < (iE t b).length := hn
    have hn' : n < (evs 0 t.1).length := by rw [← h.el]; exact hn
    have hf := (h.fx _ (hall n hn')).2
    rw [Int.toNat_natCast] at hf
    have hs := (h.same (n : Int)).2
    unfold got
    show (ev (iE t b) n).2.2.1 = if reads (ev (iE t b) n).2.1 = true then value (iE t b) ((iF t b).getD n 0) else 0
    have hs : (ev (iE t b) n).2.1 = (ev (evs 0 t.1) n).2.1 := hs
    rw [hs]; exact hf
  · show isList ((iM t b).getD q []) (evs 0 t.1) _ = true
    have e : (iM t b).getD q [] = X.filter (wX (evs 0 t.1) (q : Int)) := h.mo q hq
    rw [e]
    exact isList_filter h.nod h.inr hall (fun e => rfl)
  · show isList (iO t b) (evs 0 t.1) _ = true
    have e : iO t b = X.filter (fX (evs 0 t.1)) := h.fo
    rw [e]
    exact isList_filter h.nod h.inr hall (fun e => rfl)

theorem run_allowed {t : Lit} {b : List Int} (hv : valid t = true) : allowed t (iE t b, iF t b, iM t b, iO t b, ()) = true := by
  obtain ⟨hR, X, h, hall⟩ := run_right (b := b) hv
  have hu := valid_ev hv
  have hEl : (iE t b).length = (evs 0 t.1).length := hR.lenE
  have hFl : (iF t b).length = (evs 0 t.1).length := hR.lenF
  have hsame : ∀ i, (ev (iE t b) i).1 = (ev (evs 0 t.1) i).1 ∧ (ev (iE t b) i).2.1 = (ev (evs 0 t.1) i).2.1 := h.same
  have hmo : ∀ x < 3, (iM t b).getD x [] = X.filter (wX (evs 0 t.1) (x : Int)) := h.mo
  have hfo : iO t b = X.filter (fX (evs 0 t.1)) := h.fo
  have hfx : ∀ e ∈ X, (iF t b).getD e.toNat 0 = (if reads (ev (evs 0 t.1) e).2.1 = true then lastOr ((pre X e).filter (wX (evs 0 t.1) (ev (evs 0 t.1) e).2.1.2.1)) else -1) := fun e he => (h.fx e he).1
  have hne : (-1 : Int) ∉ X := fun hm => by have := (h.inr _ hm).1; omega
  have hpo := h.po
  have hnod := h.nod
  generalize hE : evs 0 t.1 = E0 at *
  generalize iE t b = E at *
  generalize iF t b = F at *
  generalize iM t b = M at *
  generalize iO t b = O at *
  have htr : ∀ a b c : Nat, X.idxOf (a : Int) < X.idxOf (b : Int) → X.idxOf (b : Int) < X.idxOf (c : Int) → X.idxOf (a : Int) < X.idxOf (c : Int) := fun a b c h1 h2 => by omega
  have hord : ∀ a c : Nat, ordF E O a c = true → X.idxOf (a : Int) < X.idxOf (c : Int) := by
    intro a c hac
    unfold ordF at hac
    simp only [Bool.or_eq_true, Bool.and_eq_true, decide_eq_true_eq, List.any_eq_true, List.mem_range] at hac
    rcases hac with ⟨⟨h1, h2⟩, h3⟩ | ⟨j, hj, i, hi, h1, h2⟩
    · rw [(hsame _).1, (hsame _).1] at h3
      have hc' : c < E0.length := by omega
      have ha' : a < E0.length := by omega
      rw [← hE] at hc' ha'
      obtain ⟨c1, k1, k2, k3⟩ := core_ex ha'
      obtain ⟨c2, m1, m2, m3⟩ := core_ex hc'
      have e1 := ev_core k1 k2 k3
      have e2 := ev_core m1 m2 m3
      rw [hE] at e1 e2
      rw [e1, e2] at h3
      have : c1 = c2 := by omega
      subst this
      exact hpo c1 k1 a c k2 h1 m3 (hall c (by rw [← hE]; exact hc'))
    · have hOn : O.Nodup := by rw [hfo]; exact hnod.filter _
      rw [getD_lt (by omega)] at h1 h2
      have ha : (a : Int) ∈ X.filter (fX E0) := by rw [← hfo, ← h1]; exact List.getElem_mem _
      have hc : (c : Int) ∈ X.filter (fX E0) := by rw [← hfo, ← h2]; exact List.getElem_mem _
      have i1 : O.idxOf (a : Int) = i := by rw [← h1, List.Nodup.idxOf_getElem hOn]
      have i2 : O.idxOf (c : Int) = j := by rw [← h2, List.Nodup.idxOf_getElem hOn]
      have ha := List.mem_filter.1 ha
      have hc := List.mem_filter.1 hc
      rw [hfo, idxOf_filter ha.1 ha.2] at i1
      rw [hfo, idxOf_filter hc.1 hc.2] at i2
      rcases Nat.lt_trichotomy (X.idxOf (a : Int)) (X.idxOf (c : Int)) with h5 | h5 | h5
      · exact h5
      · exfalso
        have : pre X a = pre X c := by unfold pre; rw [h5]
        rw [this] at i1; omega
      · exfalso
        obtain ⟨t', ht'⟩ := pre_pre h5
        rw [ht', List.filter_append, List.length_append] at i1
        omega
  have hfl : ∀ a c : Nat, flowN (E, F, M, O, ()) F.length a c = true → X.idxOf (a : Int) < X.idxOf (c : Int) := by
    intro a c hac
    unfold flowN at hac
    simp only [Bool.or_eq_true, Bool.and_eq_true, decide_eq_true_eq] at hac
    rcases hac with hac | ⟨h1, h2⟩
    · exact hord a c hac
    · have h3 := hfx _ (hall c (by omega))
      rw [Int.toNat_natCast, h2] at h3
      split at h3
      · rcases lastOr_cases ((pre X c).filter (wX E0 (ev E0 (c : Int)).2.1.2.1)) with ⟨_, h5⟩ | ⟨h5, _⟩
        · omega
        · rw [← h3] at h5
          exact mem_pre.1 (List.mem_filter.1 h5).1
      · omega
  have hflow : ∀ a c : Nat, get2 (flow (E, F, M, O, ())) a c = true → X.idxOf (a : Int) < X.idxOf (c : Int) := by
    intro a c hac
    exact close_in htr (fun x y hxy => hfl x y (get2_mat_in hxy).2.2) a c hac
  have hbef : ∀ a c : Nat, get2 (before (E, F, M, O, ())) a c = true → X.idxOf (a : Int) < X.idxOf (c : Int) := by
    intro a c hac
    exact close_in htr (fun x y hxy => hord x y (get2_mat_in hxy).2.2) a c hac
  have hround : round (flow (E, F, M, O, ())) = false := by
    unfold round
    rw [List.any_eq_false]
    intro a ha hh
    have := hflow a a hh
    omega
  have hX3 : ∀ a : Nat, a < E0.length → 0 ≤ (ev E0 a).2.1.2.1 ∧ (ev E0 a).2.1.2.1 < 3 := fun a ha => usual_X (hu.2 _ (ev_mem ha))
  have hplc : ∀ a : Nat, a < E0.length → plc (E, F, M, O, ()) (a : Int) = (idx (X.filter (wX E0 (ev E0 a).2.1.2.1)) a, idx (X.filter (wX E0 (ev E0 a).2.1.2.1)) (F.getD a 0), ()) := by
    intro a ha
    have := hX3 a ha
    unfold plc
    simp only [Int.toNat_natCast]
    rw [(hsame _).2, hmo _ (by omega), show (((ev E0 (a : Int)).2.1.2.1.toNat : Nat) : Int) = (ev E0 (a : Int)).2.1.2.1 from by omega]
  have hw : ∀ a : Nat, a < E0.length → writes (ev E0 a).2.1 = true → (plc (E, F, M, O, ()) (a : Int)).1 = (((pre X a).filter (wX E0 (ev E0 a).2.1.2.1)).length : Int) := by
    intro a ha hwr
    rw [hplc a ha]
    have hwx : wX E0 (ev E0 (a : Int)).2.1.2.1 (a : Int) = true := by unfold wX; rw [hwr]; simp
    simp only
    rw [idx_of_mem (List.mem_filter.2 ⟨hall a ha, hwx⟩), idxOf_filter (hall a ha) hwx]
  have hr : ∀ a : Nat, a < E0.length → reads (ev E0 a).2.1 = true → (plc (E, F, M, O, ()) (a : Int)).2.1 = (((pre X a).filter (wX E0 (ev E0 a).2.1.2.1)).length : Int) - 1 := by
    intro a ha hrd
    rw [hplc a ha]
    have hfa := hfx _ (hall a ha)
    rw [Int.toNat_natCast, if_pos hrd] at hfa
    simp only
    rw [hfa, idx_lastOr hnod hne]
  unfold allowed
  rw [(right_iff _ _).2 hR, hround]
  simp only [Bool.not_false, Bool.and_true, Bool.true_and, decide_eq_true_eq]
  intro a ha
  have ha' : a < E0.length := by rw [← hEl]; exact ha
  unfold okEv
  simp only
  rw [(hsame _).2]
  by_cases h4 : (ev E0 (a : Int)).2.1.1 = 4
  · exact .inl h4
  · right
    have hka := kinds (hu.2 _ (ev_mem ha')) h4
    refine ⟨?_, fun c hc => ?_⟩
    · unfold badAdd
      simp only
      rw [(hsame _).2]
      by_cases h3 : (ev E0 (a : Int)).2.1.1 = 3
      · rw [hr a ha' (by unfold reads; rw [h3]; rfl), hw a ha' (by unfold writes; rw [h3]; rfl)]
        simp
      · rw [decide_eq_false h3]; rfl
    · have hc' : c < E0.length := by rw [← hEl]; exact hc
      unfold badPair
      simp only
      rw [(hsame _).2, (hsame _).2]
      cases hb : get2 (before (E, F, M, O, ())) a c
      · rfl
      by_cases hc4 : (ev E0 (c : Int)).2.1.1 = 4
      · rw [decide_eq_true hc4]; rfl
      by_cases hx : (ev E0 (a : Int)).2.1.2.1 = (ev E0 (c : Int)).2.1.2.1
      · rw [decide_eq_false hc4, decide_eq_true hx]
        simp only [Bool.not_false, Bool.and_true, Bool.true_and, Bool.not_eq_false']
        have hkc := kinds (hu.2 _ (ev_mem hc')) hc4
        have hlt := hbef a c hb
        obtain ⟨t', ht'⟩ := pre_pre hlt
        have hcnt : ((pre X c).filter (wX E0 (ev E0 c).2.1.2.1)).length = ((pre X a).filter (wX E0 (ev E0 a).2.1.2.1)).length + (([(a : Int)].filter (wX E0 (ev E0 a).2.1.2.1)).length + (t'.filter (wX E0 (ev E0 a).2.1.2.1)).length) := by
          rw [← hx, ht', show (pre X a ++ (a : Int) :: t') = pre X a ++ ([(a : Int)] ++ t') from rfl, List.filter_append, List.filter_append, List.length_append, List.length_append]
        have hone : writes (ev E0 (a : Int)).2.1 = true → ([(a : Int)].filter (wX E0 (ev E0 a).2.1.2.1)).length = 1 := by
          intro hwr
          have hwx : wX E0 (ev E0 (a : Int)).2.1.2.1 (a : Int) = true := by unfold wX; rw [hwr]; simp
          rw [List.filter_cons_of_pos hwx]; rfl
        unfold coh
        simp only
        rw [(hsame _).2, (hsame _).2]
        have hlow : ∀ low : Int, low = (if writes (ev E0 (a : Int)).2.1 = true then (plc (E, F, M, O, ()) (a : Int)).1 else (plc (E, F, M, O, ()) (a : Int)).2.1) → low + 1 ≤ (((pre X c).filter (wX E0 (ev E0 c).2.1.2.1)).length : Int) := by
          intro low hlow
          by_cases hwa : writes (ev E0 (a : Int)).2.1 = true
          · rw [if_pos hwa, hw a ha' hwa] at hlow
            have := hone hwa
            omega
          · rw [if_neg hwa] at hlow
            have hra : reads (ev E0 (a : Int)).2.1 = true := by
              unfold reads writes at *
              simp only [Bool.or_eq_true, decide_eq_true_eq] at *
              omega
            rw [hr a ha' hra] at hlow
            omega
        have hlow := hlow _ rfl
        generalize (if writes (ev E0 (a : Int)).2.1 = true then (plc (E, F, M, O, ()) (a : Int)).1 else (plc (E, F, M, O, ()) (a : Int)).2.1) = low at *
        simp only [Bool.and_eq_true, Bool.not_eq_true', Bool.and_eq_false_iff, decide_eq_false_iff_not]
        constructor
        · cases hrc : reads (ev E0 (c : Int)).2.1
          · exact .inl rfl
          · right; rw [hr c hc' hrc]; omega
        · cases hwc : writes (ev E0 (c : Int)).2.1
          · exact .inl rfl
          · right; rw [hw c hc' hwc]; omega
      · rw [decide_eq_false hx]; simp

/-- The tests of bytes are valid. -/
theorem opOf_usual {b : List Int} (h : ∀ x ∈ b, Go.Lf.inK .u8 x) (i : Nat) : usual (opOf b i) = true := by
  have h1 := byte_at h i
  have h2 := byte_at h (i + 1)
  have t1 := Int.tmod_nonneg 3 (show 0 ≤ b.getD i 0 / 4 by omega)
  have t2 := Int.tmod_lt_of_pos (b.getD i 0 / 4) (show (0 : Int) < 3 by omega)
  have t3 := Int.tmod_nonneg 9 (show 0 ≤ b.getD (i + 1) 0 / 4 by omega)
  have t4 := Int.tmod_lt_of_pos (b.getD (i + 1) 0 / 4) (show (0 : Int) < 9 by omega)
  unfold usual opOf
  simp only
  generalize (b.getD i 0 / 4).tmod 3 = q at *
  generalize (b.getD (i + 1) 0 / 4).tmod 9 = r at *
  by_cases h4 : 1 + b.getD i 0 % 4 = 4
  · rw [if_pos h4, if_pos h4, if_neg (by omega)]; rfl
  · rw [if_neg h4, if_neg h4]
    by_cases h3 : 1 + b.getD i 0 % 4 = 1
    · have h23 : ¬ (1 + b.getD i 0 % 4 = 2 ∨ 1 + b.getD i 0 % 4 = 3) := by omega
      simp only [if_pos h3, if_neg h23, Bool.and_eq_true, decide_eq_true_eq, and_true]; omega
    · have h23 : 1 + b.getD i 0 % 4 = 2 ∨ 1 + b.getD i 0 % 4 = 3 := by omega
      simp only [if_neg h3, if_pos h23, Bool.and_eq_true, decide_eq_true_eq]; omega
theorem madeN_usual {b : List Int} (h : ∀ x ∈ b, Go.Lf.inK .u8 x) : ∀ k, ∀ l ∈ madeN b k, ∀ o ∈ l, usual o = true
  | 0, l, hl, o, ho => by
    simp only [madeN, List.mem_replicate] at hl
    rw [hl.2] at ho; cases ho
  | k + 1, l, hl, o, ho => by
    have ih := madeN_usual h k
    unfold madeN addOp at hl
    rcases List.mem_or_eq_of_mem_set hl with hl | rfl
    · exact ih l hl o ho
    · rw [List.mem_append] at ho
      rcases ho with ho | ho
      · have hc := cOf h (2 * k + 2)
        have hlen := madeN_len b k
        rw [getD_lt (by omega)] at ho
        exact ih _ (List.getElem_mem _) o ho
      · simp only [List.mem_singleton] at ho
        rw [ho]; exact opOf_usual h _
theorem madeP_valid {b : List Int} (h : ∀ x ∈ b, Go.Lf.inK .u8 x) : valid (madeP b, ()) = true := by
  have hK : nK b ≤ 6 := by unfold nK; omega
  have hl := madeN_evs h (nK b)
  have hlen := madeN_len b (nK b)
  have hnr := nC_range b
  have hm : ∀ l ∈ madeP b, ∀ o ∈ l, usual o = true := by
    intro l hl' o ho
    unfold madeP at hl'
    split at hl'
    · rcases List.mem_or_eq_of_mem_set hl' with h1 | rfl
      · exact madeN_usual h _ l h1 o ho
      · simp only [List.mem_singleton] at ho
        rw [ho]; rfl
    · exact madeN_usual h _ l hl' o ho
  have hn : 1 ≤ (evs 0 (madeP b)).length ∧ (evs 0 (madeP b)).length ≤ 6 ∧ (madeP b).length = (nC b).toNat := by
    unfold madeP
    split
    · rename_i h0
      have hz : (madeN b (nK b)).getD 0 [] = [] := by
        have := evs_get (madeN b (nK b)) 0 0
        exact List.length_eq_zero_iff.1 (by omega)
      have := evs_set (1, 0, 0, ()) (madeN b (nK b)) 0 0 (by omega)
      rw [hz, List.nil_append] at this
      rw [this]; simp; omega
    · omega
  unfold valid
  simp only [Bool.and_eq_true, decide_eq_true_eq, List.all_eq_true]
  refine ⟨⟨⟨⟨by omega, by omega⟩, hn.1⟩, hn.2.1⟩, fun x hx => ?_⟩
  obtain ⟨l, h1, h2⟩ := mem_evs _ _ x hx
  exact hm l h1 _ h2
end Sp
namespace Go.User
open Go.Lf Go.Proofs

theorem can_succ {nx en : List Int} {i : Nat} (h : nx.getD i 0 < en.getD i 0) : Sp.canN nx en i ++ [(i : Int)] = Sp.canN nx en (i + 1) := by
  unfold Sp.canN; rw [Sp.sel_succ, if_pos (decide_eq_true h)]
theorem can_same {nx en : List Int} {i : Nat} (h : en.getD i 0 ≤ nx.getD i 0) : Sp.canN nx en i = Sp.canN nx en (i + 1) := by
  unfold Sp.canN; rw [Sp.sel_succ, if_neg (by simp; exact h), List.append_nil]

theorem ok14 : FOk Try.prog 14 S14 := by
  have hC : CtxOK Try.prog C14 := ctx_ok rfl rfl (fns_cons ok32 (fns_cons ok33 (fns_cons ok37 (fns_cons ok38 (fns_cons ok40 fns_nil))))) ptrs_nil
  refine FOk.intro hC (stpP_ok hC) Try.call14 Try.func14 (by kernel_rfl) (by kernel_rfl) L14 (vc14 ?_)
  intro x hp hx
  obtain ⟨⟨h100, hX⟩, hp100⟩ := hp
  have hb := hx.2.2
  have hruns := Sp.IL.all (p := x.1.1) hX x.2.1
  have hst : ∀ i, i ≤ x.1.1.length → (Sp.evs 0 (x.1.1.take i)).length ≤ 100 := by
    intro i hi
    have := Sp.st_mono (p := x.1.1) hi
    rw [Sp.st_all] at this
    unfold Sp.st at this
    omega
  have hst1 : ∀ i, i < x.1.1.length → (Sp.evs 0 (x.1.1.take (i + 1))).length = (Sp.evs 0 (x.1.1.take i)).length + (x.1.1.getD i []).length := fun i hi => Sp.st_succ hi
  refine ⟨by omega, ⟨0, Nat.zero_le _, rfl, rfl, rfl, rfl⟩, ?_⟩
  intro i hi _
  refine ⟨fun hlt => ?_, fun hge => ?_⟩
  · have hlt : i < x.1.1.length := by omega
    have h1 := hst1 i hlt
    have h2 := hst (i + 1) hlt
    rw [Sp.nxN_len, Sp.enN_len]
    refine ⟨by rw [maxNew_eq]; omega, ⟨⟨by omega, by omega⟩, inK_of (by omega) (by show _ + ((x.1.1.getD i []).length : Int) ≤ _; omega)⟩, by rw [maxNew_eq]; omega, inK_of (by omega) (by omega), i + 1, by omega, by omega, by omega, ?_, ?_, ?_⟩
    · rw [h1]; rfl
    · rw [Sp.nxN_succ]
    · rw [Sp.enN_succ, h1]; rfl
  have hi' : i = x.1.1.length := by omega
  subst hi'
  refine ⟨⟨0, Nat.zero_le _, rfl, rfl⟩, ?_⟩
  have hall : (Sp.evs 0 (x.1.1.take x.1.1.length)).length = (Sp.evs 0 x.1.1).length := by rw [List.take_length]
  rw [hall]
  intro j hj _
  refine ⟨fun hlt => ⟨by rw [List.length_replicate, maxNew_eq]; omega, inK_of (by omega) (by omega), j + 1, by omega, by omega, by omega, by rw [List.replicate_succ']⟩, fun hge => ?_⟩
  have hj' : j = (Sp.evs 0 x.1.1).length := by omega
  subst hj'
  refine ⟨⟨0, Nat.zero_le _, rfl, rfl, rfl⟩, ?_⟩
  intro k hk _
  have h := hruns k hk
  have hsl := Sp.seqN_len x.1.1 x.2.1 k
  refine ⟨fun hlt => ?_, fun hge => ?_⟩
  · have hlt : k < (Sp.evs 0 x.1.1).length := by omega
    refine ⟨⟨0, Nat.zero_le _, rfl, rfl⟩, ?_⟩
    obtain ⟨hne, c, hc, hpc, e, hpe, hnx, he1, he2, hen, heX⟩ := h.next x.2.1 (k := k) (by omega)
    have hfoot : ∀ m : Nat, (Sp.runN x.1.1 x.2.1 (k + 1)) = Sp.runS (Sp.enN x.1.1 x.1.1.length) x.2.1 k (Sp.runN x.1.1 x.2.1 k) := fun _ => rfl
    have hlens : ((Sp.runN x.1.1 x.2.1 k).2.2.2.2).length ≤ 100 ∧ ∀ q : Nat, q < 3 → ((Sp.runN x.1.1 x.2.1 k).2.2.2.1.getD q []).length ≤ 100 := by
      refine ⟨?_, fun q hq => ?_⟩
      · rw [h.fo]
        have := List.length_filter_le (Sp.fX (Sp.evs 0 x.1.1)) (Sp.seqN x.1.1 x.2.1 k)
        omega
      · rw [h.mo q hq]
        have := List.length_filter_le (Sp.wX (Sp.evs 0 x.1.1) (q : Int)) (Sp.seqN x.1.1 x.2.1 k)
        omega
    have hpl3 := h.mo
    have hsame := (h.same (e : Int)).2
    have hX3 : inN (Sp.ev (Sp.runN x.1.1 x.2.1 k).2.1 (e : Int)).2.1.2.1 3 := by rw [hsame]; exact hX _ (Sp.ev_mem hen)
    have hnl := h.nxl
    have hel := h.el
    have hfl := h.fl
    have hml := h.ml
    have hinr := h.inr
    generalize hS : Sp.runN x.1.1 x.2.1 k = s at *
    obtain ⟨nx, E, F, M, O⟩ := s
    simp only at *
    intro i hi _
    have hcl : (Sp.canN nx (Sp.enN x.1.1 x.1.1.length) i).length ≤ i := by unfold Sp.canN; exact Sp.sel_len _ _
    have henl := Sp.enN_len x.1.1 x.1.1.length
    refine ⟨fun hlt2 => ⟨⟨inN_of hlt2, by omega, by rw [henl]; omega⟩, fun hcond => ⟨by rw [maxNew_eq]; omega, inK_of (by omega) (by omega), i + 1, by omega, by omega, by omega, can_succ hcond⟩, fun hcond => ⟨inK_of (by omega) (by omega), i + 1, by omega, by omega, by omega, can_same hcond⟩⟩, fun hge2 => ?_⟩
    have hi' : i = nx.length := by omega
    subst hi'
    have hcc : (Sp.canN nx (Sp.enN x.1.1 x.1.1.length) nx.length).getD ((Sp.byteAt x.2.1 (k : Int)).tmod ((Sp.canN nx (Sp.enN x.1.1 x.1.1.length) nx.length).length : Int)).toNat 0 = (c : Int) := hpc
    have hbn := Sp.byteAt_nonneg hb (k : Int)
    have ht1 := Int.tmod_nonneg ((Sp.canN nx (Sp.enN x.1.1 x.1.1.length) nx.length).length : Int) hbn.1
    have ht2 := Int.tmod_lt_of_pos (Sp.byteAt x.2.1 (k : Int)) (show (0 : Int) < ((Sp.canN nx (Sp.enN x.1.1 x.1.1.length) nx.length).length : Int) by omega)
    have hnx' : nx.getD (Int.toNat (c : Int)) 0 = (e : Int) := hnx
    rw [hcc, hnx']
    have hev : E.getD (Int.toNat (e : Int)) (0, (0, 0, 0, ()), 0, ()) = Sp.ev E (e : Int) := rfl
    simp only [hev, Int.toNat_natCast]
    have hev' : E.getD e (0, (0, 0, 0, ()), 0, ()) = Sp.ev E (e : Int) := rfl
    simp only [hev']
    have hrs : Sp.runN x.1.1 x.2.1 (k + 1) = (nx.set c ((e : Int) + 1), Sp.xE E M (e : Int), Sp.xF E F M (e : Int), Sp.xM E M (e : Int), Sp.xO E O (e : Int)) := by
      show Sp.runS (Sp.enN x.1.1 x.1.1.length) x.2.1 k (Sp.runN x.1.1 x.2.1 k) = _
      rw [hS]
      unfold Sp.runS Sp.xN
      simp only
      rw [hpc, hpe, Int.toNat_natCast]
    have hXt := hX3.2
    have hX0 := hX3.1
    have hpl : M.getD (Sp.ev E (e : Int)).2.1.2.1.toNat [] = Sp.plL E M (e : Int) := rfl
    have hplen := hlens.2 (Sp.ev E (e : Int)).2.1.2.1.toNat (by omega)
    simp only [hpl] at hplen ⊢
    have htk : Sp.takes E M (e : Int) = (!decide ((Sp.ev E (e : Int)).2.1.1 = 4) && Sp.reads (Sp.ev E (e : Int)).2.1 && decide (0 < (Sp.plL E M (e : Int)).length)) := rfl
    have hla : ((Sp.plL E M (e : Int)).getD ((((Sp.plL E M (e : Int)).length : Nat) : Int) - 1).toNat 0) = Sp.lastL E M (e : Int) := by
      unfold Sp.lastL; rw [show ((((Sp.plL E M (e : Int)).length : Nat) : Int) - 1).toNat = (Sp.plL E M (e : Int)).length - 1 from by omega]
    simp only [hla]
    have hplX : ∀ a ∈ Sp.plL E M (e : Int), 0 ≤ a ∧ a < (Sp.evs 0 x.1.1).length := by
      intro a ha
      unfold Sp.plL at ha
      rw [hpl3 _ (by omega)] at ha
      exact hinr a (List.mem_filter.1 ha).1
    have hnext : ∀ E' F' M' O', (E', F', M', O', ()) = (Sp.xE E M (e : Int), Sp.xF E F M (e : Int), Sp.xM E M (e : Int), Sp.xO E O (e : Int), ()) → inK .i64 ((k : Int) + 1) ∧ ∃ y : Nat, y ≤ (Sp.evs 0 x.1.1).length ∧ (Sp.evs 0 x.1.1).length - y < (Sp.evs 0 x.1.1).length - k ∧ (k : Int) + 1 = (y : Int) ∧ nx.set c ((e : Int) + 1) = (Sp.runN x.1.1 x.2.1 y).1 ∧ (E', F', M', O', ()) = ((Sp.runN x.1.1 x.2.1 y).2.1, (Sp.runN x.1.1 x.2.1 y).2.2.1, (Sp.runN x.1.1 x.2.1 y).2.2.2.1, (Sp.runN x.1.1 x.2.1 y).2.2.2.2, ()) := by
      intro E' F' M' O' heq
      refine ⟨inK_of (by omega) (by omega), k + 1, by omega, by omega, by omega, ?_, ?_⟩
      · rw [hrs]
      · rw [hrs]; exact heq
    refine ⟨⟨by show (0 : Int) ≤ _; omega, by omega, ⟨ht1, ht2⟩⟩, ⟨by omega, by omega⟩, ⟨⟨by omega, by omega⟩, inK_of (by omega) (by omega), ⟨by omega, by omega⟩⟩, ⟨by omega, by omega⟩, fun h4 => ?_, fun h4 => ⟨⟨by omega, by omega⟩, fun hrd => ?_, fun hrd => ?_⟩⟩
    · have htk0 : Sp.takes E M (e : Int) ≠ true := by rw [htk, decide_eq_true h4]; simp
      have := hnext E F M (O ++ [(e : Int)]) (by unfold Sp.xE Sp.xF Sp.xM Sp.xO; rw [if_neg htk0, if_neg htk0, if_neg (fun h => h.1 h4), if_pos h4])
      exact ⟨by rw [maxNew_eq]; omega, this⟩
    · have htk1 : Sp.takes E M (e : Int) = true := by rw [htk, decide_eq_false h4, hrd.1, decide_eq_true (by have := hrd.2; omega)]; rfl
      have hl0 : 0 < (Sp.plL E M (e : Int)).length := by have := hrd.2; omega
      have hlm : Sp.lastL E M (e : Int) ∈ Sp.plL E M (e : Int) := by
        unfold Sp.lastL; rw [Sp.getD_lt (by omega)]; exact List.getElem_mem _
      have hget : (F.set e (Sp.lastL E M (e : Int))).getD e 0 = Sp.lastL E M (e : Int) := by
        rw [Sp.getD_lt (by simp; omega)]; simp
      have hO : Sp.xO E O (e : Int) = O := by unfold Sp.xO; rw [if_neg h4]
      have hF : Sp.xF E F M (e : Int) = F.set e (Sp.lastL E M (e : Int)) := by unfold Sp.xF; rw [if_pos htk1]; rfl
      have hE : Sp.xE E M (e : Int) = E.set e ((Sp.ev E (e : Int)).1, (Sp.ev E (e : Int)).2.1, Sp.value E (Sp.lastL E M (e : Int)), (Sp.ev E (e : Int)).2.2.2) := by unfold Sp.xE; rw [if_pos htk1]; rfl
      rw [hget]
      refine ⟨⟨inK_of (by omega) (by omega), ⟨by omega, by omega⟩, ⟨by omega, by omega⟩⟩, ⟨⟨by omega, by simp; omega⟩, by have := hplX _ hlm; omega, ⟨by omega, by omega⟩⟩, fun hw => ⟨⟨by rw [maxNew_eq]; omega, ⟨by omega, by omega⟩⟩, hnext _ _ _ _ ?_⟩, fun hw => hnext _ _ _ _ ?_⟩
      · rw [hO, hF, hE]; unfold Sp.xM; rw [if_pos ⟨h4, hw⟩]
      · rw [hO, hF, hE]; unfold Sp.xM; rw [if_neg (fun h => by rw [hw] at h; exact absurd h.2 (by decide))]
    · have htk0 : Sp.takes E M (e : Int) ≠ true := by
        rw [htk, decide_eq_false h4]
        intro hh
        simp only [Bool.not_false, Bool.true_and, Bool.and_eq_true, decide_eq_true_eq] at hh
        rw [hh.1, decide_eq_true (by have := hh.2; omega)] at hrd
        cases hrd
      have hO : Sp.xO E O (e : Int) = O := by unfold Sp.xO; rw [if_neg h4]
      have hF : Sp.xF E F M (e : Int) = F := by unfold Sp.xF; rw [if_neg htk0]
      have hE : Sp.xE E M (e : Int) = E := by unfold Sp.xE; rw [if_neg htk0]
      refine ⟨fun hw => ⟨⟨by rw [maxNew_eq]; omega, ⟨by omega, by omega⟩⟩, hnext _ _ _ _ ?_⟩, fun hw => hnext _ _ _ _ ?_⟩
      · rw [hO, hF, hE]; unfold Sp.xM; rw [if_pos ⟨h4, hw⟩]
      · rw [hO, hF, hE]; unfold Sp.xM; rw [if_neg (fun h => by rw [hw] at h; exact absurd h.2 (by decide))]
  · have hk' : k = (Sp.evs 0 x.1.1).length := by omega
    subst hk'
    rfl

theorem ok4 : FOk Try.prog 4 S4 := by
  have hC : CtxOK Try.prog C4 := ctx_ok rfl rfl (fns_cons ok10 (fns_cons ok11 (fns_cons ok14 (fns_cons ok16 (fns_cons ok18 fns_nil))))) ptrs_nil
  refine FOk.intro hC (stpP_ok hC) Try.call4 Try.func4 (by kernel_rfl) (by kernel_rfl) L4 (vc4 ?_)
  intro x hx
  have hfine := Sp.madeP_fine hx.1.2
  have hv := Sp.madeP_valid hx.1.2
  have hR := (Sp.run_right (b := x.2.1) hv).1
  have hA := Sp.run_allowed (b := x.2.1) hv
  have hl : (Sp.madeP x.1).length ≤ 100 := by
    have h := hv
    unfold Sp.valid at h
    simp only [Bool.and_eq_true, decide_eq_true_eq] at h
    have := h.1.1.1.2
    exact Nat.le_trans this (by decide)
  refine ⟨⟨hfine, hl⟩, ⟨Nat.le_trans hfine.1 (by decide), fun _ => Nat.le_trans hfine.1 (by decide)⟩, ?_⟩
  rw [(Sp.right_iff _ _).2 hR, hA]; rfl
end Go.User
namespace Go.Lf
open Go.ChangeShapes Go.WideShapes Go.ChangeAt Go.RowKit Go.Proofs

section
variable {P : Program} {H : Type} {enc : TypeId × Value → H}

/-- A slice of integers that came in. -/
theorem argOK_ints {W : World} {base : Nat} {t e : TypeId} {k : IntKind} {v : Value} {d : DataW H} {p : List MemPlace} (ht : P.underlying t = some (.slice e)) (he : P.underlying e = some (.int k)) (hc : P.cellsOf e = 1)
    (hval : Value.okWide P W .any base t v) (h : DataW.Trod enc P W 0 (fun _ => true) true t v d p) (hlt : ∀ x ∈ p, x.block < W.heap.size) (hsz : ∀ xs ys, d = .slice xs ys → xs.length ≤ lim) :
    ∃ xs : List Int, OwnV (fun b => b < W.heap.size) W (.slice (.int k)) .shr none' v xs := by
  obtain ⟨a1, len, cap, rfl⟩ := okWide_slice ht hval
  obtain ⟨fuel, hf⟩ := h
  rcases open_ints ht he hc hf with ⟨hcs, hx⟩ | ⟨a, len', cap', zs, hcs, _, hl, hm, hz, hx, hcell, hwz⟩
  · simp [Value.cells] at hcs
    obtain ⟨rfl, rfl, rfl⟩ := hcs
    exact ⟨[], [.slice none 0 0], rfl, none, 0, rfl, Nat.le_refl _, Nat.zero_le _, .inl rfl⟩
  · simp [Value.cells] at hcs
    obtain ⟨rfl, rfl, rfl⟩ := hcs
    simp only [Prod.mk.injEq] at hx
    obtain ⟨rfl, rfl⟩ := hx
    simp only [if_true] at hz
    have hlim : len ≤ lim := by
      have := hsz _ _ rfl
      simp only [lits, List.length_map, List.length_take] at this
      omega
    by_cases hl0 : len = 0
    · subst hl0
      exact ⟨[], [.slice (some a) 0 cap], rfl, some a, cap, rfl, by simp, by simp, .inl rfl⟩
    · obtain ⟨b, off, spot⟩ := a
      have hspot : spot = none := by simpa [Addr.add] using World.cell?_spot (hcell 0 (by omega))
      subst hspot
      have h0 := hcell 0 (by omega)
      rw [add_mk] at h0
      simp only [World.cell?] at h0
      have hb : b < W.heap.size := hlt (.cell b off) (MemPlace.mem_row.2 ⟨0, by omega, by simp⟩)
      have hlen : (zs.take len).length = len := by simp; omega
      split at h0
      · rename_i row T fr hr
        have hc : ∀ i, i < zs.length → row[off + i]? = some (.int k (zs.getD i 0)) := by
          intro i hi
          have := hcell i hi
          rw [add_mk] at this
          simpa [World.cell?, hr] using this
        refine ⟨zs.take len, [.slice (some ⟨b, off, none⟩) len cap], rfl, some ⟨b, off, none⟩, cap, by rw [hlen], by rw [hlen]; exact hl, by rw [hlen]; exact hlim, .inr ⟨b, off, row, T, fr, rfl, hb, hr, ?_, ?_⟩⟩
        · have := hc (len - 1) (by omega)
          have h1 : off + (len - 1) < row.size := by
            rcases Nat.lt_or_ge (off + (len - 1)) row.size with h | h
            · exact h
            · rw [Array.getElem?_eq_none h] at this; cases this
          rw [hlen]
          simp only [Ty.size, Nat.mul_one]
          omega
        · intro i x hx
          have hi : i < len := by
            rcases Nat.lt_or_ge i len with h | h
            · exact h
            · rw [List.getElem?_eq_none (by omega)] at hx; cases hx
          have hci := hc i (by omega)
          have hxz : zs.getD i 0 = x := by
            rw [List.getElem?_take, if_pos hi] at hx
            simp [hx]
          have hmem : x ∈ zs := by
            rw [List.getElem?_take, if_pos hi] at hx
            exact List.mem_of_getElem? hx
          have hw := hwz x hmem
          simp only [Lit.wf, Bool.and_eq_true, decide_eq_true_eq] at hw
          refine ⟨?_, hw.1, hw.2⟩
          rw [hxz] at hci
          simp only [Ty.size, Nat.mul_one]
          have : row.toList[off + i]? = some (.int k x) := by simpa using hci
          unfold seg
          rw [List.drop_eq_getElem_cons (by
            rcases Nat.lt_or_ge (off + i) row.toList.length with h | h
            · exact h
            · rw [List.getElem?_eq_none h] at this; cases this)]
          rw [List.take_one]
          simp only [List.head?_cons, Option.toList_some]
          congr 1
          have h2 := List.getElem?_eq_some_iff.1 this
          exact h2.2
      · cases h0
end
end Go.Lf
namespace Go.Proofs.Ytmoonjcbljefaaa
open Go.ChangeShapes Go.WideShapes Go.ChangeAt Go.RowKit Go.Proofs Go.Lf

theorem Try.own : ownKnob Try.prog.godebug = none := by kernel_rfl
theorem Try.laidOut : laidOutB Try.prog = true := by kernel_rfl
theorem Try.cells5 : Try.prog.cellsOf 5 = 1 := by kernel_rfl
theorem Try.bytes5 : Try.prog.bytesOf 5 = 1 := by kernel_rfl

def S2 : FSpec := { args := [.val (.slice (.int .u8)), .val (.slice (.int .u8))], multi := false, res := .bool, mode := .shr, pre := fun _ => True, fn := fun _ => true }

set_option maxRecDepth 100000 in
theorem coherence_lifted (hF : FOk Try.prog 5 S2) (os : Os) (started : os.Started) (H : Type) (enc : TypeId × Value → H) :
    ReturnsInHanded {} Try.checked os 5 .any (Rows.axiomCoherenceSpec.pre6 enc Try.prog Try.f5 Rows.axiomCoherenceRow.domain false) (Rows.axiomCoherenceSpec.post enc Try.prog Try.f5 false true false false) := by
  refine returnsInHanded_of_change_sized (C := Try.checked) Try.own started (by kernel_rfl) Try.func5
    (ChangeSpec.witness6 (enc := enc) (C := Try.checked) false ⟨#[], #[.slice none 0 0, .slice none 0 0], []⟩ 8 (by kernel_rfl) (by kernel_rfl) (by kernel_rfl) (by kernel_rfl)) ?_
  intro W base args ds gs before hval0 hW _ hsz0 _
  have hsz : (DataW.weightsEach Try.prog (Try.f5.params.toList ++ Rows.axiomCoherenceSpec.plain.varTypes Try.prog) (ds ++ gs)).all (· ≤ reachBytes) = true := hsz0
  clear hsz0
  have hval : ∀ (j : Nat) t v, Try.f5.params[j]? = some t → args[j]? = some v → Value.okWide Try.prog W .any base t v := hval0
  have hW' := hW
  obtain ⟨p, q, hA0, hV, rfl, _, _⟩ := hW
  have hA : DataW.TrodAll enc Try.prog W 0 (fun _ => true) true Try.f5.params.toList args.toList ds p := hA0
  rw [Try.params5] at hA hval hsz
  obtain ⟨v0, v1, d0, d1, p0, p1, rfl, rfl, rfl, h0, h1⟩ := trodAll_two hA
  obtain ⟨rfl, rfl⟩ := trodVars_none hV
  clear hA0 hval0
  simp only [List.append_nil] at hW'
  have hlt0 : ∀ x ∈ p0, x.block < W.heap.size := fun x hx => hW'.lt x (by simp [hx])
  have hlt1 : ∀ x ∈ p1, x.block < W.heap.size := fun x hx => hW'.lt x (by simp [hx])
  have sz : ∀ (j : Nat) (xs ys : List (DataW H)), ([22, 22] : List TypeId)[j]? = some 22 → ([d0, d1] ++ ([] : List (DataW H)))[j]? = some (.slice xs ys) → xs.length ≤ lim := by
    intro j xs ys h1 h2
    have := sized_slice hsz (j := j) (t := 22) (e := 5) (show (([22, 22] : List TypeId) ++ [])[j]? = some 22 by simpa using h1) h2 Try.underlying22
    rw [Try.bytes5] at this
    simp only [reachBytes] at this
    unfold lim
    omega
  obtain ⟨xs, hx⟩ := argOK_ints (k := .u8) Try.underlying22 Try.underlying5 Try.cells5 (hval 0 22 v0 rfl rfl) h0 hlt0 (fun xs ys h => sz 0 xs ys rfl (by rw [h]; rfl))
  obtain ⟨ys, hy⟩ := argOK_ints (k := .u8) Try.underlying22 Try.underlying5 Try.cells5 (hval 1 22 v1 rfl rfl) h1 hlt1 (fun xs ys h => sz 1 xs ys rfl (by rw [h]; rfl))
  have hcall := hF.2 W (fun b => b < W.heap.size) [v0, v1] (xs, ys, ()) (fun b h => h) ⟨v0, [v1], rfl, hx, v1, [], rfl, hy, rfl⟩ trivial
  refine hcall.mono ?_
  rintro e W' ⟨v, F', S', rfl, hb, _, _, _, _, hv⟩
  have hv : OwnV F' W' .bool .shr S' v true := hv
  have := hv.bool_eq
  subst this
  have hargs0 := Below.trod Try.laidOut (by kernel_rfl) (of_decide_eq_true (by kernel_rfl)) h0 hb hlt0
  have hargs1 := Below.trod Try.laidOut (by kernel_rfl) (of_decide_eq_true (by kernel_rfl)) h1 hb hlt1
  refine ⟨_, rfl, _, _, _, [], p0 ++ p1, [], hW', ?_, trodAll_mk2 hargs0 hargs1, rfl, hb.frame _, fun h => by cases h⟩
  exact trodAll_mk1 (shut_bool Try.underlying4 true)
end Go.Proofs.Ytmoonjcbljefaaa
namespace Go.Proofs.Ytmoonjcbljefaaa
open Go.ChangeShapes Go.WideShapes Go.ChangeAt Go.RowKit Go.Proofs Go.Lf
set_option maxRecDepth 100000 in
theorem sequential_lifted (hF : FOk Try.prog 4 S2) (os : Os) (started : os.Started) (H : Type) (enc : TypeId × Value → H) :
    ReturnsInHanded {} Try.checked os 4 .any (Rows.axiomSequentialSpec.pre6 enc Try.prog Try.f4 Rows.axiomSequentialRow.domain false) (Rows.axiomSequentialSpec.post enc Try.prog Try.f4 false true false false) := by
  refine returnsInHanded_of_change_sized (C := Try.checked) Try.own started (by kernel_rfl) Try.func4
    (ChangeSpec.witness6 (enc := enc) (C := Try.checked) false ⟨#[], #[.slice none 0 0, .slice none 0 0], []⟩ 8 (by kernel_rfl) (by kernel_rfl) (by kernel_rfl) (by kernel_rfl)) ?_
  intro W base args ds gs before hval0 hW _ hsz0 _
  have hsz : (DataW.weightsEach Try.prog (Try.f4.params.toList ++ Rows.axiomSequentialSpec.plain.varTypes Try.prog) (ds ++ gs)).all (· ≤ reachBytes) = true := hsz0
  clear hsz0
  have hval : ∀ (j : Nat) t v, Try.f4.params[j]? = some t → args[j]? = some v → Value.okWide Try.prog W .any base t v := hval0
  have hW' := hW
  obtain ⟨p, q, hA0, hV, rfl, _, _⟩ := hW
  have hA : DataW.TrodAll enc Try.prog W 0 (fun _ => true) true Try.f4.params.toList args.toList ds p := hA0
  rw [Try.params4] at hA hval hsz
  obtain ⟨v0, v1, d0, d1, p0, p1, rfl, rfl, rfl, h0, h1⟩ := trodAll_two hA
  obtain ⟨rfl, rfl⟩ := trodVars_none hV
  clear hA0 hval0
  simp only [List.append_nil] at hW'
  have hlt0 : ∀ x ∈ p0, x.block < W.heap.size := fun x hx => hW'.lt x (by simp [hx])
  have hlt1 : ∀ x ∈ p1, x.block < W.heap.size := fun x hx => hW'.lt x (by simp [hx])
  have sz : ∀ (j : Nat) (xs ys : List (DataW H)), ([22, 22] : List TypeId)[j]? = some 22 → ([d0, d1] ++ ([] : List (DataW H)))[j]? = some (.slice xs ys) → xs.length ≤ lim := by
    intro j xs ys h1 h2
    have := sized_slice hsz (j := j) (t := 22) (e := 5) (show (([22, 22] : List TypeId) ++ [])[j]? = some 22 by simpa using h1) h2 Try.underlying22
    rw [Try.bytes5] at this
    simp only [reachBytes] at this
    unfold lim
    omega
  obtain ⟨xs, hx⟩ := argOK_ints (k := .u8) Try.underlying22 Try.underlying5 Try.cells5 (hval 0 22 v0 rfl rfl) h0 hlt0 (fun xs ys h => sz 0 xs ys rfl (by rw [h]; rfl))
  obtain ⟨ys, hy⟩ := argOK_ints (k := .u8) Try.underlying22 Try.underlying5 Try.cells5 (hval 1 22 v1 rfl rfl) h1 hlt1 (fun xs ys h => sz 1 xs ys rfl (by rw [h]; rfl))
  have hcall := hF.2 W (fun b => b < W.heap.size) [v0, v1] (xs, ys, ()) (fun b h => h) ⟨v0, [v1], rfl, hx, v1, [], rfl, hy, rfl⟩ trivial
  refine hcall.mono ?_
  rintro e W' ⟨v, F', S', rfl, hb, _, _, _, _, hv⟩
  have hv : OwnV F' W' .bool .shr S' v true := hv
  have := hv.bool_eq
  subst this
  have hargs0 := Below.trod Try.laidOut (by kernel_rfl) (of_decide_eq_true (by kernel_rfl)) h0 hb hlt0
  have hargs1 := Below.trod Try.laidOut (by kernel_rfl) (of_decide_eq_true (by kernel_rfl)) h1 hb hlt1
  refine ⟨_, rfl, _, _, _, [], p0 ++ p1, [], hW', ?_, trodAll_mk2 hargs0 hargs1, rfl, hb.frame _, fun h => by cases h⟩
  exact trodAll_mk1 (shut_bool Try.underlying4 true)
theorem axiomSequential_holds : Rows.AxiomSequentialSaid :=
  OpenClaim.holds_of_wide 4 Try.f4 rfl rfl rfl rfl rfl rfl rfl ⟨rfl, rfl, rfl, rfl, rfl⟩ rfl rfl rfl rfl rfl (by kernel_rfl) Try.func4 (by kernel_rfl)
    (of_decide_eq_true (by kernel_rfl)) (by unfold Func.isWrapper; first | (rw [if_pos (by decide +kernel)]; kernel_rfl) | (rw [if_neg (by decide +kernel)]; exact ⟨rfl, rfl⟩))
    (fun os started H enc _ => sequential_lifted Go.User.ok4 os started H enc)
end Go.Proofs.Ytmoonjcbljefaaa
