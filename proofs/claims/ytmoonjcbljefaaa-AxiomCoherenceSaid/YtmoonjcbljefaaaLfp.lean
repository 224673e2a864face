/- Plain facts about the tests that bytes say, and about closing a relation. Tests out of bytes, and the law of coherence: the functions compute what they should. The law of coherence. -/
import Derived.Test.YtmoonjcbljefaaaLfo
import Derived.Test.YtmoonjcbljefaaaRows
import Derived.Test.YtmoonjcbljefaaaProg
import Derived.ProofKit
import Derived.SizedLaws
set_option linter.unusedVariables false
set_option linter.unusedSimpArgs false
namespace Sp
theorem evs_set (o : LOp) : ∀ (P : List (List LOp)) (n : Nat) (k : Int), n < P.length → (evs k (P.set n (P.getD n [] ++ [o]))).length = (evs k P).length + 1
  | [], n, k, h => by simp at h
  | l :: ls, 0, k, h => by simp [evs]; omega
  | l :: ls, n + 1, k, h => by
    have ih := evs_set o ls n (k + 1) (by simpa using h)
    have e : (l :: ls).getD (n + 1) [] = ls.getD n [] := rfl
    rw [List.set_cons_succ, e]
    simp only [evs, List.length_append, ih]; omega
theorem evs_get : ∀ (P : List (List LOp)) (n : Nat) (k : Int), (P.getD n []).length ≤ (evs k P).length
  | [], n, k => by simp
  | l :: ls, 0, k => by simp [evs]
  | l :: ls, n + 1, k => by
    have ih := evs_get ls n (k + 1)
    have e : (l :: ls).getD (n + 1) [] = ls.getD n [] := rfl
    rw [e]; simp only [evs, List.length_append]; omega
theorem mem_evs : ∀ (P : List (List LOp)) (k : Int) (x : LEv), x ∈ evs k P → ∃ l ∈ P, x.2.1 ∈ l
  | [], k, x, h => by simp [evs] at h
  | l :: ls, k, x, h => by
    simp only [evs, List.mem_append, List.mem_map] at h
    rcases h with ⟨o, h1, rfl⟩ | h
    · exact ⟨l, List.mem_cons_self, h1⟩
    · obtain ⟨l', h1, h2⟩ := mem_evs ls (k + 1) x h
      exact ⟨l', List.mem_cons_of_mem _ h1, h2⟩
theorem evs_nil (n : Nat) (k : Int) : (evs k (List.replicate n [])).length = 0 := by
  induction n generalizing k with
  | zero => rfl
  | succ n ih => simp [List.replicate_succ, evs, ih]
theorem byte_at {b : List Int} (h : ∀ x ∈ b, Go.Lf.inK .u8 x) (i : Nat) : 0 ≤ b.getD i 0 ∧ b.getD i 0 ≤ 255 := by
  rcases Nat.lt_or_ge i b.length with h2 | h2
  · rw [getD_lt h2]
    have := h _ (List.getElem_mem h2)
    exact ⟨this.1, this.2⟩
  · rw [List.getD_eq_getElem?_getD, List.getElem?_eq_none h2]; simp
theorem nC_range (b : List Int) : 1 ≤ nC b ∧ nC b ≤ 4 := by
  unfold nC
  split <;> omega
theorem madeN_len (b : List Int) : ∀ k, (madeN b k).length = (nC b).toNat
  | 0 => by simp [madeN]
  | k + 1 => by simp [madeN, addOp, madeN_len b k]
theorem cOf {b : List Int} (h : ∀ x ∈ b, Go.Lf.inK .u8 x) (i : Nat) : 0 ≤ (b.getD i 0).tmod (nC b) ∧ (b.getD i 0).tmod (nC b) < nC b :=
  ⟨Int.tmod_nonneg _ (byte_at h i).1, Int.tmod_lt_of_pos _ (by have := nC_range b; omega)⟩
theorem madeN_evs {b : List Int} (h : ∀ x ∈ b, Go.Lf.inK .u8 x) : ∀ k, (evs 0 (madeN b k)).length = k
  | 0 => evs_nil _ _
  | k + 1 => by
    have hc := cOf h (2 * k + 2)
    have hl := madeN_len b k
    unfold madeN addOp
    rw [evs_set _ _ _ _ (by omega), madeN_evs h k]
theorem opOf_X {b : List Int} (h : ∀ x ∈ b, Go.Lf.inK .u8 x) (i : Nat) : Go.Lf.inN (opOf b i).2.1 3 := by
  have hb := byte_at h i
  unfold opOf
  simp only
  split
  · exact ⟨by omega, by omega⟩
  · exact ⟨Int.tmod_nonneg _ (by omega), Int.tmod_lt_of_pos _ (by omega)⟩
theorem madeN_X {b : List Int} (h : ∀ x ∈ b, Go.Lf.inK .u8 x) : ∀ k, ∀ l ∈ madeN b k, ∀ o ∈ l, Go.Lf.inN o.2.1 3
  | 0, l, hl, o, ho => by
    simp only [madeN, List.mem_replicate] at hl
    rw [hl.2] at ho; cases ho
  | k + 1, l, hl, o, ho => by
    have ih := madeN_X h k
    unfold madeN addOp at hl
    rcases List.mem_or_eq_of_mem_set hl with hl | rfl
    · exact ih l hl o ho
    · rw [List.mem_append] at ho
      rcases ho with ho | ho
      · have hc := cOf h (2 * k + 2)
        have hlen := madeN_len b k
        rw [getD_lt (by omega)] at ho
        exact ih _ (List.getElem_mem _) o ho
      · simp only [List.mem_singleton] at ho
        rw [ho]; exact opOf_X h _
theorem madeP_fine {b : List Int} (h : ∀ x ∈ b, Go.Lf.inK .u8 x) : Go.User.fine (madeP b, ()) := by
  have hK : nK b ≤ 6 := by unfold nK; omega
  have hl := madeN_evs h (nK b)
  have hm : ∀ l ∈ madeP b, ∀ o ∈ l, Go.Lf.inN o.2.1 3 := by
    intro l hl' o ho
    unfold madeP at hl'
    split at hl'
    · rcases List.mem_or_eq_of_mem_set hl' with h1 | rfl
      · exact madeN_X h _ l h1 o ho
      · simp only [List.mem_singleton] at ho
        rw [ho]; exact ⟨by show (0 : Int) ≤ 0; omega, by show (0 : Int) < 3; omega⟩
    · exact madeN_X h _ l hl' o ho
  refine ⟨?_, fun x hx => ?_⟩
  · show (evs 0 (madeP b)).length ≤ 100
    unfold madeP
    split
    · rename_i h0
      have hlen := madeN_len b (nK b)
      have := nC_range b
      have hz : (madeN b (nK b)).getD 0 [] = [] := by
        have := evs_get (madeN b (nK b)) 0 0
        exact List.length_eq_zero_iff.1 (by omega)
      have := evs_set (1, 0, 0, ()) (madeN b (nK b)) 0 0 (by omega)
      rw [hz, List.nil_append] at this
      rw [this]; omega
    · omega
  · obtain ⟨l, h1, h2⟩ := mem_evs _ _ x hx
    exact hm l h1 _ h2

theorem getD_set_true {l : List Bool} {b y : Nat} {v : Bool} (h : l.getD y false = true) (hv : y = b → v = true) : (l.set b v).getD y false = true := by
  rw [List.getD_eq_getElem?_getD, List.getElem?_set]
  by_cases hyb : b = y
  · subst hyb
    rw [if_pos rfl]
    split
    · exact hv rfl
    · rename_i h2
      rw [List.getD_eq_getElem?_getD, List.getElem?_eq_none (by omega)] at h; cases h
  · rw [if_neg hyb, ← List.getD_eq_getElem?_getD]; exact h
theorem get2_upd2 {r : Rel} {a b x y : Nat} {v : Bool} (h : get2 r x y = true) (hv : x = a → y = b → v = true) : get2 (upd2 r a b v) x y = true := by
  unfold get2 upd2 at *
  by_cases hxa : x = a
  · subst hxa
    have e : (r.set x ((r.getD x (List.replicate 6 false)).set b v)).getD x (List.replicate 6 false) = if x < r.length then (r.getD x (List.replicate 6 false)).set b v else List.replicate 6 false := by
      rw [List.getD_eq_getElem?_getD, List.getElem?_set, if_pos rfl]
      split <;> rfl
    rw [e]
    split
    · exact getD_set_true h (hv rfl)
    · rename_i h2
      rw [List.getD_eq_getElem?_getD (l := r), List.getElem?_eq_none (by omega)] at h; exact h
  · have e : (r.set a ((r.getD a (List.replicate 6 false)).set b v)).getD x (List.replicate 6 false) = r.getD x (List.replicate 6 false) := by
      rw [List.getD_eq_getElem?_getD, List.getElem?_set, if_neg (fun e => hxa e.symm), ← List.getD_eq_getElem?_getD]
    rw [e]; exact h
theorem get2_stepB {k a b : Nat} {r : Rel} {x y : Nat} (h : get2 r x y = true) : get2 (stepB k a r b) x y = true := by
  unfold stepB
  refine get2_upd2 h (fun e1 e2 => ?_)
  subst e1; subst e2
  rw [h]; rfl
theorem get2_rowB {k a : Nat} {r : Rel} {x y : Nat} (h : get2 r x y = true) : ∀ n, get2 (rowB k a r n) x y = true
  | 0 => h
  | n + 1 => by rw [Go.User.rowB_succ]; exact get2_stepB (get2_rowB h n)
theorem get2_rowA {k : Nat} {r : Rel} {x y : Nat} (h : get2 r x y = true) : ∀ n, get2 (rowA k r n) x y = true
  | 0 => h
  | n + 1 => by rw [Go.User.rowA_succ]; exact get2_rowB (get2_rowA h n) 6
theorem get2_closeN {r : Rel} {x y : Nat} (h : get2 r x y = true) : ∀ n, get2 (closeN r n) x y = true
  | 0 => h
  | n + 1 => by rw [Go.User.closeN_succ]; exact get2_rowA (get2_closeN h n) 6
/-- What is in a relation is in its closure. -/
theorem close_ext {r : Rel} {x y : Nat} (h : get2 r x y = true) : get2 (close r) x y = true := get2_closeN h 6

/-- Two events of the same core and place, not fences, in a graph that is allowed: coherent. -/
theorem coh_of {t : Lit} {g : Gr} (h : allowed t g = true) {i k : Nat} (hik : i < k) (hk : k < g.1.length) (hc : (ev g.1 i).1 = (ev g.1 k).1) (hx : (ev g.1 i).2.1.2.1 = (ev g.1 k).2.1.2.1)
    (h4 : (ev g.1 i).2.1.1 ≠ 4) (h5 : (ev g.1 k).2.1.1 ≠ 4) : RightP t g ∧ coh g i k = true := by
  unfold allowed at h
  simp only [Bool.and_eq_true, decide_eq_true_eq] at h
  obtain ⟨⟨h1, h2⟩, h3⟩ := h
  have hR := (right_iff t g).1 h1
  refine ⟨hR, ?_⟩
  have hE := hR.lenE
  have he6 := (valid_ev hR.valid).1
  rcases h3 i (by omega) with h6 | ⟨_, h6⟩
  · exact absurd h6 h4
  · have hb := h6 k hk
    have hord : get2 (order g) i k = true := by
      unfold order
      rw [get2_mat (by omega) (by omega)]
      unfold ordF
      rw [decide_eq_true hik, decide_eq_true hk, decide_eq_true hc]; rfl
    have hbef : get2 (before g) i k = true := close_ext hord
    unfold badPair at hb
    rw [hbef, decide_eq_false h5, decide_eq_true hx] at hb
    simpa using hb
end Sp
namespace Go.User
open Go.Lf Go.Proofs

theorem made_step {b : List Int} (hb : ∀ x ∈ b, inK .u8 x) {k : Nat} (hk : k < Sp.nK b) {n : Int} (hn : n = Sp.nC b) (o : Sp.LOp) (ho : o = Sp.opOf b (2 * k + 1)) :
    (inN ((b.getD (2 * k + 2) 0).tmod n) (Sp.madeN b k).length ∧ (((List.length ((Sp.madeN b k).getD ((b.getD (2 * k + 2) 0).tmod n).toNat []) + 1 : Nat)) : Int) ≤ maxNew ∧ inN ((b.getD (2 * k + 2) 0).tmod n) (Sp.madeN b k).length) ∧
      inK .i64 (((2 * k + 1 : Nat) : Int) + 2) ∧ ∃ y : Nat, y ≤ Sp.nK b ∧ Sp.nK b - y < Sp.nK b - k ∧ ((2 * k + 1 : Nat) : Int) + 2 = ((2 * y + 1 : Nat) : Int) ∧
        ((Sp.madeN b k).set ((b.getD (2 * k + 2) 0).tmod n).toNat ((Sp.madeN b k).getD ((b.getD (2 * k + 2) 0).tmod n).toNat [] ++ [o]), ()) = (Sp.madeN b y, ()) := by
  subst hn; subst ho
  have hc := Sp.cOf hb (2 * k + 2)
  have hl := Sp.madeN_len b k
  have hK : Sp.nK b ≤ 6 := by unfold Sp.nK; omega
  have he := Sp.madeN_evs hb k
  have hg := Sp.evs_get (Sp.madeN b k) ((b.getD (2 * k + 2) 0).tmod (Sp.nC b)).toNat 0
  refine ⟨⟨⟨hc.1, by omega⟩, by rw [maxNew_eq]; omega, ⟨hc.1, by omega⟩⟩, inK_of (by omega) (by omega), k + 1, by omega, by omega, by omega, rfl⟩

theorem ok11 : FOk Try.prog 11 S11 := by
  have hC : CtxOK Try.prog C11 := ctx_ok rfl rfl (fns_cons ok32 (fns_cons ok33 fns_nil)) ptrs_nil
  refine FOk.intro hC (stpP_ok hC) Try.call11 Try.func11 (by kernel_rfl) (by kernel_rfl) L11 (vc11 ?_)
  intro x hx
  obtain ⟨hlim, hb⟩ := hx
  have hnr := Sp.nC_range x.1
  have hK : Sp.nK x.1 ≤ 6 := by unfold Sp.nK; omega
  have hB := fun i => Sp.byte_at hb i
  have htoNat : ∀ k : Nat, (((2 * k + 1 : Nat) : Int) + 1).toNat = 2 * k + 2 := fun k => by omega
  have hend : ∀ k : Nat, k ≤ Sp.nK x.1 → (decide (((2 * k + 1 : Nat) : Int) + 1 < (x.1.length : Int)) && decide (((2 * k + 1 : Nat) : Int) < 13)) = false → k = Sp.nK x.1 := by
    intro k hk h
    unfold Sp.nK at hk ⊢
    rw [Bool.and_eq_false_iff, decide_eq_false_iff_not, decide_eq_false_iff_not] at h
    omega
  have hlast : ∀ k : Nat, k = Sp.nK x.1 → (Sp.evs 0 (Sp.madeN x.1 k)).length ≤ 1000 ∧ (((Sp.evs 0 (Sp.madeN x.1 k)).length : Int) = 0 → inN 0 (Sp.madeN x.1 k).length ∧ ((Sp.madeN x.1 k).set (Int.toNat 0) [(1, 0, 0, ())], ()) = (Sp.madeP x.1, ())) ∧
      (¬ ((Sp.evs 0 (Sp.madeN x.1 k)).length : Int) = 0 → (Sp.madeN x.1 k, ()) = (Sp.madeP x.1, ())) := by
    rintro k rfl
    have he := Sp.madeN_evs hb (Sp.nK x.1)
    have hl := Sp.madeN_len x.1 (Sp.nK x.1)
    refine ⟨by omega, fun h => ⟨⟨by omega, by omega⟩, ?_⟩, fun h => ?_⟩
    · unfold Sp.madeP; rw [if_pos (by omega)]; rfl
    · unfold Sp.madeP; rw [if_neg (by omega)]
  refine ⟨fun hlen => ?_, fun hlen => ?_⟩
  · have hn : 1 + x.1.getD (Int.toNat 0) 0 % 4 = Sp.nC x.1 := by
      unfold Sp.nC; rw [if_pos (by omega)]; rfl
    rw [hn]
    refine ⟨⟨⟨by omega, hlen⟩, by decide, inK_of (by omega) (by omega)⟩, ⟨1, ⟨by omega, hnr.1⟩, rfl, rfl⟩, ?_⟩
    intro i hi _
    refine ⟨fun hlt => ⟨by rw [List.length_replicate, maxNew_eq]; omega, inK_of (by omega) (by omega), i + 1, ⟨by omega, by omega⟩, by omega, rfl, by rw [List.replicate_succ']⟩, fun hge => ⟨⟨0, Nat.zero_le _, rfl, ?_⟩, ?_⟩⟩
    · show (List.replicate i [], ()) = (List.replicate (Sp.nC x.1).toNat [], ())
      rw [show i = (Sp.nC x.1).toNat from by omega]
    · intro k hk _
      refine ⟨inK_of (by omega) (by omega), fun hc => ?_, fun h => hlast k (hend k hk h)⟩
      have hkk : k < Sp.nK x.1 := by unfold Sp.nK at hk ⊢; omega
      have b1 := hB (2 * k + 1)
      have b2 := hB (2 * k + 2)
      have hin : inN (((2 * k + 1 : Nat)) : Int) x.1.length := ⟨by omega, by omega⟩
      have hin2 : inN (((2 * k + 1 : Nat) : Int) + 1) x.1.length := ⟨by omega, by omega⟩
      have hk1 : inK .i64 (((2 * k + 1 : Nat) : Int) + 1) := inK_of (by omega) (by omega)
      have hne : ¬ Sp.nC x.1 = 0 := by omega
      rw [htoNat k]
      have t9 := Int.tmod_nonneg 9 (show 0 ≤ x.1.getD (2 * k + 2) 0 / 4 by omega)
      have t9' := Int.tmod_lt_of_pos (x.1.getD (2 * k + 2) 0 / 4) (show (0 : Int) < 9 by omega)
      refine ⟨⟨hin, by decide, inK_of (by omega) (by omega), hin, by decide, by decide⟩, fun hw => ⟨⟨hk1, hin2, by decide, by decide, inK_of (by omega) (by omega)⟩, fun h4 => ?_, fun h4 => ⟨⟨hk1, hin2, hne⟩, made_step hb hkk rfl _ ?_⟩⟩, fun hw => ⟨fun h4 => ⟨⟨hk1, hin2, hne⟩, made_step hb hkk rfl _ ?_⟩, fun h4 => ⟨⟨hk1, hin2, hne⟩, made_step hb hkk rfl _ ?_⟩⟩⟩
      · unfold Sp.writes at hw
        rw [h4] at hw; cases hw
      · have hw' : (1 + x.1.getD (2 * k + 1) 0 % 4) = 2 ∨ (1 + x.1.getD (2 * k + 1) 0 % 4) = 3 := by
          unfold Sp.writes at hw
          simpa using hw
        unfold Sp.opOf
        rw [if_neg h4, if_pos hw']
      · have hw' : ¬ ((1 + x.1.getD (2 * k + 1) 0 % 4) = 2 ∨ (1 + x.1.getD (2 * k + 1) 0 % 4) = 3) := by omega
        unfold Sp.opOf
        rw [if_pos h4, if_neg hw']
      · have hw' : ¬ ((1 + x.1.getD (2 * k + 1) 0 % 4) = 2 ∨ (1 + x.1.getD (2 * k + 1) 0 % 4) = 3) := by
          unfold Sp.writes at hw
          simpa using hw
        unfold Sp.opOf
        rw [if_neg h4, if_neg hw']
  · have hn : Sp.nC x.1 = 1 := by unfold Sp.nC; rw [if_neg (by omega)]
    refine ⟨⟨1, ⟨by omega, by omega⟩, rfl, rfl⟩, ?_⟩
    intro i hi _
    refine ⟨fun hlt => by omega, fun hge => ⟨⟨0, Nat.zero_le _, rfl, ?_⟩, ?_⟩⟩
    · show (List.replicate i [], ()) = (List.replicate (Sp.nC x.1).toNat [], ())
      rw [show i = (Sp.nC x.1).toNat from by omega]
    · intro k hk _
      refine ⟨inK_of (by omega) (by omega), fun hc => ?_, fun h => hlast k (hend k hk h)⟩
      omega

theorem gr_eta : ∀ g : Sp.Gr, (g.1, g.2.1, g.2.2.1, g.2.2.2.1, ()) = g
  | (_, _, _, _, ()) => rfl
theorem graph_eta (t : Sp.Lit) (b : List Int) : (Sp.gE t b, Sp.gF t b, Sp.gM t b, Sp.gO t b, ()) = Sp.graph t b := by
  unfold Sp.gE Sp.gF Sp.gM Sp.gO
  exact gr_eta _
theorem s12c : S12c = S12 :=
  congrArg (fun f => ({ args := [.val tLit, .val (.slice (.int .u8))], multi := false, res := tGr, mode := mGr, pre := fun x => fine x.1, fn := f } : FSpec)) (funext fun x => graph_eta x.1 x.2.1)
theorem ok12c : FOk Try.prog 12 S12c := by rw [s12c]; exact ok12

theorem ok5 : FOk Try.prog 5 S5 := by
  have hC : CtxOK Try.prog C5 := ctx_ok rfl rfl (fns_cons ok10 (fns_cons ok11 (fns_cons ok12c (fns_cons ok18 (fns_cons ok22 fns_nil))))) ptrs_nil
  refine FOk.intro hC (stpP_ok hC) Try.call5 Try.func5 (by kernel_rfl) (by kernel_rfl) L5 (vc5 ?_)
  intro x hx
  have hfine := Sp.madeP_fine hx.1.2
  refine ⟨hfine, by have := hfine.1; exact Nat.le_trans this (by decide), fun _ => rfl, fun hal => ?_⟩
  have hR : Sp.RightP (Sp.madeP x.1, ()) (Sp.gE (Sp.madeP x.1, ()) x.2.1, Sp.gF (Sp.madeP x.1, ()) x.2.1, Sp.gM (Sp.madeP x.1, ()) x.2.1, Sp.gO (Sp.madeP x.1, ()) x.2.1, ()) := by
    have h := hal
    unfold Sp.allowed at h
    simp only [Bool.and_eq_true] at h
    exact (Sp.right_iff _ _).1 h.1.1
  have hcoh := fun (i k : Nat) => Sp.coh_of hal (i := i) (k := k)
  have hE := hR.lenE
  have hF := hR.lenF
  have hM := hR.lenM
  have he6 := (Sp.valid_ev hR.valid).1
  have hM100 : ∀ p : Nat, ((Sp.gM (Sp.madeP x.1, ()) x.2.1).getD p []).length ≤ 100 := fun p => Nat.le_trans (Sp.mo3_len_le _ _ p) hfine.1
  generalize hGE : Sp.gE (Sp.madeP x.1, ()) x.2.1 = E at *
  generalize hGF : Sp.gF (Sp.madeP x.1, ()) x.2.1 = Fr at *
  generalize hGM : Sp.gM (Sp.madeP x.1, ()) x.2.1 = Mo at *
  generalize hGO : Sp.gO (Sp.madeP x.1, ()) x.2.1 = Fo at *
  have hE : E.length = _ := hE
  have hF : Fr.length = _ := hF
  have hM : Mo.length = 3 := hM
  have hlen : E.length ≤ 6 := by omega
  refine ⟨⟨0, Nat.zero_le _, rfl, rfl⟩, ?_⟩
  intro i hi _
  refine ⟨fun hlt => ⟨inK_of (by omega) (by omega), ⟨i + 1, ⟨by omega, by omega⟩, rfl, rfl⟩, ?_⟩, fun _ => rfl⟩
  intro k hk _
  refine ⟨fun hlt2 => ⟨inN_of hlt, inN_of hlt2, fun _ => ⟨inK_of (by omega) (by omega), k + 1, ⟨by omega, by omega⟩, by omega, rfl, rfl⟩, fun hcond => ?_⟩, fun hge => ⟨inK_of (by omega) (by omega), i + 1, by omega, by omega, rfl, rfl⟩⟩
  obtain ⟨⟨⟨hcore, hX⟩, h4⟩, h5⟩ := hcond
  have hev : ∀ n : Nat, E.getD n (0, (0, 0, 0, ()), 0, ()) = Sp.ev E (n : Int) := fun n => rfl
  rw [hev, hev] at hcore hX
  rw [hev] at h4 h5
  simp only [hev]
  have hco := (hcoh i k hk.1 (by omega) hcore hX h4 h5).2
  have hoki := hR.ok (n := i) (by show i < E.length; omega)
  have hokk := hR.ok (n := k) (by show k < E.length; omega)
  have hXi : inN (Sp.ev E (i : Int)).2.1.2.1 Mo.length := hoki.2.2
  have hui : Sp.usual (Sp.ev E (i : Int)).2.1 = true := by
    have hs := (hR.src i (by omega)).2.1
    have hs : (Sp.ev E (i : Int)).2.1 = _ := hs
    rw [hs]; exact (Sp.valid_ev hR.valid).2 _ (Sp.ev_mem (by omega))
  have huk : Sp.usual (Sp.ev E (k : Int)).2.1 = true := by
    have hs := (hR.src k (by omega)).2.1
    have hs : (Sp.ev E (k : Int)).2.1 = _ := hs
    rw [hs]; exact (Sp.valid_ev hR.valid).2 _ (Sp.ev_mem (by omega))
  have hkind : ∀ o : Sp.LOp, Sp.usual o = true → o.1 ≠ 4 → o.1 = 1 ∨ o.1 = 2 ∨ o.1 = 3 := by
    intro o h h4
    unfold Sp.usual at h
    rw [if_neg h4] at h
    split at h
    · exact .inl (by assumption)
    · split at h
      · exact .inr (by assumption)
      · cases h
  have hki := hkind _ hui h4
  have hkk := hkind _ huk h5
  have hl : (Mo.getD (Sp.ev E (i : Int)).2.1.2.1.toNat []).length ≤ 1000 ∨ True := .inr trivial
  have hrk := Sp.idx_range (Mo.getD (Sp.ev E (i : Int)).2.1.2.1.toNat []) (k : Int)
  have hinki : inN (i : Int) Fr.length := ⟨by omega, by omega⟩
  have hinkk : inN (k : Int) Fr.length := ⟨by omega, by omega⟩
  have hnext : inK .i64 ((k : Int) + 1) ∧ ∃ (y : Nat), (i < y ∧ y ≤ E.length) ∧ E.length - y < E.length - k ∧ (k : Int) + 1 = (y : Int) ∧ True := ⟨inK_of (by omega) (by omega), k + 1, ⟨by omega, by omega⟩, by omega, rfl, trivial⟩
  -- the bound of a list of a place
  have hMl : (Mo.getD (Sp.ev E (i : Int)).2.1.2.1.toNat []).length ≤ 100 := hM100 _
  -- where the events stand
  unfold Sp.coh at hco
  simp only [Bool.and_eq_true, Bool.not_eq_true', Bool.and_eq_false_iff, decide_eq_false_iff_not] at hco
  have hpi : Sp.plc (E, Fr, Mo, Fo, ()) (i : Int) = (Sp.idx (Mo.getD (Sp.ev E (i : Int)).2.1.2.1.toNat []) i, Sp.idx (Mo.getD (Sp.ev E (i : Int)).2.1.2.1.toNat []) (Fr.getD i 0), ()) := rfl
  have hpk : Sp.plc (E, Fr, Mo, Fo, ()) (k : Int) = (Sp.idx (Mo.getD (Sp.ev E (i : Int)).2.1.2.1.toNat []) k, Sp.idx (Mo.getD (Sp.ev E (i : Int)).2.1.2.1.toNat []) (Fr.getD k 0), ()) := by
    rw [hX]; rfl
  rw [hpi, hpk] at hco
  generalize Mo.getD (Sp.ev E (i : Int)).2.1.2.1.toNat [] = l at *
  have hwi : Sp.writes (Sp.ev E (i : Int)).2.1 = true ↔ ¬ (Sp.ev E (i : Int)).2.1.1 = 1 := by
    unfold Sp.writes
    simp only [Bool.or_eq_true, decide_eq_true_eq]; omega
  have hwk : (Sp.ev E (k : Int)).2.1.1 = 2 → Sp.writes (Sp.ev E (k : Int)).2.1 = true := by
    intro h; unfold Sp.writes; rw [h]; rfl
  have hrk2 : ¬ (Sp.ev E (k : Int)).2.1.1 = 2 → Sp.reads (Sp.ev E (k : Int)).2.1 = true := by
    intro h; unfold Sp.reads
    rcases hkk with h' | h' | h'
    · rw [h']; rfl
    · exact absurd h' h
    · rw [h']; rfl
  simp only at hco
  refine ⟨hXi, hinki, fun h1 => ⟨hinkk, fun h2 => ⟨inK_of (by omega) (by omega), fun hlt3 => ?_, fun _ => hnext⟩, fun h2 => ⟨fun hlt3 => ?_, fun _ => hnext⟩⟩, fun h1 => ⟨hinkk, fun h2 => ⟨inK_of (by omega) (by omega), fun hlt3 => ?_, fun _ => hnext⟩, fun h2 => ⟨fun hlt3 => ?_, fun _ => hnext⟩⟩⟩
  · exfalso
    rw [if_pos (hwi.2 h1)] at hco
    rcases hco.2 with h | h
    · rw [hwk h2] at h; cases h
    · omega
  · exfalso
    rw [if_pos (hwi.2 h1)] at hco
    rcases hco.1 with h | h
    · rw [hrk2 h2] at h; cases h
    · omega
  · exfalso
    rw [if_neg (fun h => hwi.1 h h1)] at hco
    rcases hco.2 with h | h
    · rw [hwk h2] at h; cases h
    · omega
  · exfalso
    rw [if_neg (fun h => hwi.1 h h1)] at hco
    rcases hco.1 with h | h
    · rw [hrk2 h2] at h; cases h
    · omega
end Go.User
namespace Go.Lf
open Go.ChangeShapes Go.WideShapes Go.ChangeAt Go.RowKit Go.Proofs

section
variable {P : Program} {H : Type} {enc : TypeId × Value → H}

/-- A slice of integers that came in. -/
theorem argOK_ints {W : World} {base : Nat} {t e : TypeId} {k : IntKind} {v : Value} {d : DataW H} {p : List MemPlace} (ht : P.underlying t = some (.slice e)) (he : P.underlying e = some (.int k)) (hc : P.cellsOf e = 1)
    (hval : Value.okWide P W .any base t v) (h : DataW.Trod enc P W 0 (fun _ => true) true t v d p) (hlt : ∀ x ∈ p, x.block < W.heap.size) (hsz : ∀ xs ys, d = .slice xs ys → xs.length ≤ lim) :
    ∃ xs : List Int, OwnV (fun b => b < W.heap.size) W (.slice (.int k)) .shr none' v xs := by
  obtain ⟨a1, len, cap, rfl⟩ := okWide_slice ht hval
  obtain ⟨fuel, hf⟩ := h
  rcases open_ints ht he hc hf with ⟨hcs, hx⟩ | ⟨a, len', cap', zs, hcs, _, hl, hm, hz, hx, hcell, hwz⟩
  · simp [Value.cells] at hcs
    obtain ⟨rfl, rfl, rfl⟩ := hcs
    exact ⟨[], [.slice none 0 0], rfl, none, 0, rfl, Nat.le_refl _, Nat.zero_le _, .inl rfl⟩
  · simp [Value.cells] at hcs
    obtain ⟨rfl, rfl, rfl⟩ := hcs
    simp only [Prod.mk.injEq] at hx
    obtain ⟨rfl, rfl⟩ := hx
    simp only [if_true] at hz
    have hlim : len ≤ lim := by
      have := hsz _ _ rfl
      simp only [lits, List.length_map, List.length_take] at this
      omega
    by_cases hl0 : len = 0
    · subst hl0
      exact ⟨[], [.slice (some a) 0 cap], rfl, some a, cap, rfl, by simp, by simp, .inl rfl⟩
    · obtain ⟨b, off, spot⟩ := a
      have hspot : spot = none := by simpa [Addr.add] using World.cell?_spot (hcell 0 (by omega))
      subst hspot
      have h0 := hcell 0 (by omega)
      rw [add_mk] at h0
      simp only [World.cell?] at h0
      have hb : b < W.heap.size := hlt (.cell b off) (MemPlace.mem_row.2 ⟨0, by omega, by simp⟩)
      have hlen : (zs.take len).length = len := by simp; omega
      split at h0
      · rename_i row T fr hr
        have hc : ∀ i, i < zs.length → row[off + i]? = some (.int k (zs.getD i 0)) := by
          intro i hi
          have := hcell i hi
          rw [add_mk] at this
          simpa [World.cell?, hr] using this
        refine ⟨zs.take len, [.slice (some ⟨b, off, none⟩) len cap], rfl, some ⟨b, off, none⟩, cap, by rw [hlen], by rw [hlen]; exact hl, by rw [hlen]; exact hlim, .inr ⟨b, off, row, T, fr, rfl, hb, hr, ?_, ?_⟩⟩
        · have := hc (len - 1) (by omega)
          have h1 : off + (len - 1) < row.size := by
            rcases Nat.lt_or_ge (off + (len - 1)) row.size with h | h
            · exact h
            · rw [Array.getElem?_eq_none h] at this; cases this
          rw [hlen]
          simp only [Ty.size, Nat.mul_one]
          omega
        · intro i x hx
          have hi : i < len := by
            rcases Nat.lt_or_ge i len with h | h
            · exact h
            · rw [List.getElem?_eq_none (by omega)] at hx; cases hx
          have hci := hc i (by omega)
          have hxz : zs.getD i 0 = x := by
            rw [List.getElem?_take, if_pos hi] at hx
            simp [hx]
          have hmem : x ∈ zs := by
            rw [List.getElem?_take, if_pos hi] at hx
            exact List.mem_of_getElem? hx
          have hw := hwz x hmem
          simp only [Lit.wf, Bool.and_eq_true, decide_eq_true_eq] at hw
          refine ⟨?_, hw.1, hw.2⟩
          rw [hxz] at hci
          simp only [Ty.size, Nat.mul_one]
          have : row.toList[off + i]? = some (.int k x) := by simpa using hci
          unfold seg
          rw [List.drop_eq_getElem_cons (by
            rcases Nat.lt_or_ge (off + i) row.toList.length with h | h
            · exact h
            · rw [List.getElem?_eq_none h] at this; cases this)]
          rw [List.take_one]
          simp only [List.head?_cons, Option.toList_some]
          congr 1
          have h2 := List.getElem?_eq_some_iff.1 this
          exact h2.2
      · cases h0
end
end Go.Lf
namespace Go.Proofs.Ytmoonjcbljefaaa
open Go.ChangeShapes Go.WideShapes Go.ChangeAt Go.RowKit Go.Proofs Go.Lf

theorem Try.own : ownKnob Try.prog.godebug = none := by kernel_rfl
theorem Try.laidOut : laidOutB Try.prog = true := by kernel_rfl
theorem Try.cells5 : Try.prog.cellsOf 5 = 1 := by kernel_rfl
theorem Try.bytes5 : Try.prog.bytesOf 5 = 1 := by kernel_rfl

def S2 : FSpec := { args := [.val (.slice (.int .u8)), .val (.slice (.int .u8))], multi := false, res := .bool, mode := .shr, pre := fun _ => True, fn := fun _ => true }

set_option maxRecDepth 100000 in
theorem coherence_lifted (hF : FOk Try.prog 5 S2) (os : Os) (started : os.Started) (H : Type) (enc : TypeId × Value → H) :
    ReturnsInHanded {} Try.checked os 5 .any (Rows.axiomCoherenceSpec.pre6 enc Try.prog Try.f5 Rows.axiomCoherenceRow.domain false) (Rows.axiomCoherenceSpec.post enc Try.prog Try.f5 false true false false) := by
  refine returnsInHanded_of_change_sized (C := Try.checked) Try.own started (by kernel_rfl) Try.func5
    (ChangeSpec.witness6 (enc := enc) (C := Try.checked) false ⟨#[], #[.slice none 0 0, .slice none 0 0], []⟩ 8 (by kernel_rfl) (by kernel_rfl) (by kernel_rfl) (by kernel_rfl)) ?_
  intro W base args ds gs before hval0 hW _ hsz0 _
  have hsz : (DataW.weightsEach Try.prog (Try.f5.params.toList ++ Rows.axiomCoherenceSpec.plain.varTypes Try.prog) (ds ++ gs)).all (· ≤ reachBytes) = true := hsz0
  clear hsz0
  have hval : ∀ (j : Nat) t v, Try.f5.params[j]? = some t → args[j]? = some v → Value.okWide Try.prog W .any base t v := hval0
  have hW' := hW
  obtain ⟨p, q, hA0, hV, rfl, _, _⟩ := hW
  have hA : DataW.TrodAll enc Try.prog W 0 (fun _ => true) true Try.f5.params.toList args.toList ds p := hA0
  rw [Try.params5] at hA hval hsz
  obtain ⟨v0, v1, d0, d1, p0, p1, rfl, rfl, rfl, h0, h1⟩ := trodAll_two hA
  obtain ⟨rfl, rfl⟩ := trodVars_none hV
  clear hA0 hval0
  simp only [List.append_nil] at hW'
  have hlt0 : ∀ x ∈ p0, x.block < W.heap.size := fun x hx => hW'.lt x (by simp [hx])
  have hlt1 : ∀ x ∈ p1, x.block < W.heap.size := fun x hx => hW'.lt x (by simp [hx])
  have sz : ∀ (j : Nat) (xs ys : List (DataW H)), ([22, 22] : List TypeId)[j]? = some 22 → ([d0, d1] ++ ([] : List (DataW H)))[j]? = some (.slice xs ys) → xs.length ≤ lim := by
    intro j xs ys h1 h2
    have := sized_slice hsz (j := j) (t := 22) (e := 5) (show (([22, 22] : List TypeId) ++ [])[j]? = some 22 by simpa using h1) h2 Try.underlying22
    rw [Try.bytes5] at this
    simp only [reachBytes] at this
    unfold lim
    omega
  obtain ⟨xs, hx⟩ := argOK_ints (k := .u8) Try.underlying22 Try.underlying5 Try.cells5 (hval 0 22 v0 rfl rfl) h0 hlt0 (fun xs ys h => sz 0 xs ys rfl (by rw [h]; rfl))
  obtain ⟨ys, hy⟩ := argOK_ints (k := .u8) Try.underlying22 Try.underlying5 Try.cells5 (hval 1 22 v1 rfl rfl) h1 hlt1 (fun xs ys h => sz 1 xs ys rfl (by rw [h]; rfl))
  have hcall := hF.2 W (fun b => b < W.heap.size) [v0, v1] (xs, ys, ()) (fun b h => h) ⟨v0, [v1], rfl, hx, v1, [], rfl, hy, rfl⟩ trivial
  refine hcall.mono ?_
  rintro e W' ⟨v, F', S', rfl, hb, _, _, _, _, hv⟩
  have hv : OwnV F' W' .bool .shr S' v true := hv
  have := hv.bool_eq
  subst this
  have hargs0 := Below.trod Try.laidOut (by kernel_rfl) (of_decide_eq_true (by kernel_rfl)) h0 hb hlt0
  have hargs1 := Below.trod Try.laidOut (by kernel_rfl) (of_decide_eq_true (by kernel_rfl)) h1 hb hlt1
  refine ⟨_, rfl, _, _, _, [], p0 ++ p1, [], hW', ?_, trodAll_mk2 hargs0 hargs1, rfl, hb.frame _, fun h => by cases h⟩
  exact trodAll_mk1 (shut_bool Try.underlying4 true)
end Go.Proofs.Ytmoonjcbljefaaa
namespace Go.Proofs.Ytmoonjcbljefaaa
open Go.ChangeShapes Go.WideShapes Go.ChangeAt Go.RowKit Go.Proofs Go.Lf
theorem axiomCoherence_holds : Rows.AxiomCoherenceSaid :=
  OpenClaim.holds_of_wide 5 Try.f5 rfl rfl rfl rfl rfl rfl rfl ⟨rfl, rfl, rfl, rfl, rfl⟩ rfl rfl rfl rfl rfl (by kernel_rfl) Try.func5 (by kernel_rfl)
    (of_decide_eq_true (by kernel_rfl)) (by unfold Func.isWrapper; first | (rw [if_pos (by decide +kernel)]; kernel_rfl) | (rw [if_neg (by decide +kernel)]; exact ⟨rfl, rfl⟩))
    (fun os started H enc _ => coherence_lifted Go.User.ok5 os started H enc)
end Go.Proofs.Ytmoonjcbljefaaa
