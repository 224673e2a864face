/- Lists of events, relations: the functions compute what they should. The order of the program and the fences; lists of events of a kind. Whether a graph is right, and allowed: what is computed. -/
import Derived.Test.YtmoonjcbljefaaaLfh
set_option linter.unusedVariables false
set_option linter.unusedSimpArgs false
namespace Go.User
open Go.Lf Go.Proofs

theorem maxNew_eq : maxNew = 2147483648 := rfl

theorem ok41 : FOk Try.prog 41 S41 := by
  refine FOk.intro (okA fns_nil) (stpP_ok (okA fns_nil)) Try.call41 Try.func41 (by kernel_rfl) (by kernel_rfl) L41 (vc41 ?_)
  intro x hp hx
  refine ⟨⟨(0, []), ⟨Nat.zero_le _, rfl⟩, rfl, rfl⟩, ?_⟩
  intro i hi hk
  refine ⟨fun hlt => ⟨inN_of hlt, ⟨(0, i.2), ⟨Nat.zero_le _, by simp [hi.2]⟩, rfl, rfl⟩, ?_⟩, fun hge => ?_⟩
  · intro k hk1 hk2
    have hi' : i.1 < x.1.1.length := by omega
    have hl : (x.1.1.getD i.1 []).length ≤ lim := by
      rw [Sp.getD_lt hi']; exact (hx.2 _ (List.getElem_mem hi')).1
    refine ⟨fun hlt2 => ⟨inN_of hlt2, ?_, inK_succ hlt2 hl, (k.1 + 1, _), ⟨by show k.1 + 1 ≤ _; omega, ?_⟩, by show _ - (k.1 + 1) < _; omega, by show (_ : Int) = ((k.1 + 1 : Nat) : Int); omega, rfl⟩,
      fun hge2 => ⟨inK_succ hlt hx.1, (i.1 + 1, k.2), ⟨by show i.1 + 1 ≤ _; omega, ?_⟩, by show _ - (i.1 + 1) < _; omega, by show (_ : Int) = ((i.1 + 1 : Nat) : Int); omega, rfl⟩⟩
    · have := Sp.evs_le hi' hk1.1
      rw [← hk1.2] at this
      rw [maxNew_eq]; omega
    · show k.2 ++ _ = Sp.evs 0 (List.take i.1 x.1.1) ++ List.map (Sp.mkEv (i.1 : Int)) (List.take (k.1 + 1) (x.1.1.getD i.1 []))
      rw [hk1.2, Sp.map_take_succ _ (by omega), List.append_assoc]; rfl
    · show k.2 = Sp.evs 0 (List.take (i.1 + 1) x.1.1)
      rw [hk1.2, Sp.evs_succ hi', List.take_of_length_le (l := x.1.1.getD i.1 []) (by omega)]
  · rw [hi.2, Sp.take_all hi.1 hge]

theorem ok33 : FOk Try.prog 33 S33 := by
  refine FOk.intro (okA fns_nil) (stpP_ok (okA fns_nil)) Try.call33 Try.func33 (by kernel_rfl) (by kernel_rfl) L33 (vc33 ?_)
  intro x hp hx
  refine ⟨⟨(0, []), ⟨Nat.zero_le _, rfl⟩, rfl, rfl⟩, ?_⟩
  intro i hi hk
  refine ⟨fun hlt => ⟨⟨(0, i.2), ⟨Nat.zero_le _, by simp [hi.2]⟩, rfl, rfl⟩, ?_⟩, fun hge => ?_⟩
  · intro k hk1 hk2
    have hi' : i.1 < x.1.1.length := by omega
    have hl : (x.1.1.getD i.1 []).length ≤ lim := by
      rw [Sp.getD_lt hi']; exact (hx.2 _ (List.getElem_mem hi')).1
    refine ⟨inN_of hlt, fun hlt2 => ⟨⟨⟨inN_of hlt, inN_of hlt2⟩, ?_⟩, inK_succ hlt2 hl, (k.1 + 1, _), ⟨by show k.1 + 1 ≤ _; omega, ?_⟩, by show _ - (k.1 + 1) < _; omega, by show (_ : Int) = ((k.1 + 1 : Nat) : Int); omega, rfl⟩,
      fun hge2 => ⟨inK_succ hlt hx.1, (i.1 + 1, k.2), ⟨by show i.1 + 1 ≤ _; omega, ?_⟩, by show _ - (i.1 + 1) < _; omega, by show (_ : Int) = ((i.1 + 1 : Nat) : Int); omega, rfl⟩⟩
    · have := Sp.evs_le hi' hk1.1
      rw [← hk1.2] at this
      rw [maxNew_eq]; omega
    · show k.2 ++ _ = Sp.evs 0 (List.take i.1 x.1.1) ++ List.map (Sp.mkEv (i.1 : Int)) (List.take (k.1 + 1) (x.1.1.getD i.1 []))
      rw [hk1.2, Sp.map_take_succ _ (by omega), List.append_assoc]; rfl
    · show k.2 = Sp.evs 0 (List.take (i.1 + 1) x.1.1)
      rw [hk1.2, Sp.evs_succ hi', List.take_of_length_le (l := x.1.1.getD i.1 []) (by omega)]
  · rw [hi.2, Sp.take_all hi.1 hge]

theorem ok36 : FOk Try.prog 36 S36 := by
  refine FOk.intro (okA fns_nil) (stpP_ok (okA fns_nil)) Try.call36 Try.func36 (by kernel_rfl) (by kernel_rfl) L36 (vc36 ?_)
  intro x hp hx
  refine ⟨⟨(0, []), ⟨Nat.zero_le _, rfl⟩, rfl, rfl⟩, ?_⟩
  intro i hi hk
  have hlen := Sp.sel_len (fun (i : Nat) => decide ((Sp.ev x.1 (i : Int)).2.1.1 = 4)) i.1
  rw [← hi.2] at hlen
  refine ⟨fun hlt => ⟨inN_of hlt, fun h => ⟨by rw [maxNew_eq]; omega, inK_succ hlt hx.1, (i.1 + 1, _), ⟨by show i.1 + 1 ≤ _; omega, ?_⟩, by show _ - (i.1 + 1) < _; omega, by show (_ : Int) = ((i.1 + 1 : Nat) : Int); omega, rfl⟩,
    fun h => ⟨inK_succ hlt hx.1, (i.1 + 1, i.2), ⟨by show i.1 + 1 ≤ _; omega, ?_⟩, by show _ - (i.1 + 1) < _; omega, by show (_ : Int) = ((i.1 + 1 : Nat) : Int); omega, rfl⟩⟩, fun hge => ?_⟩
  · show i.2 ++ _ = Sp.sel _ (i.1 + 1)
    rw [Sp.sel_succ, hi.2, if_pos]
    show decide ((Sp.ev x.1 i.1).2.1.1 = 4) = true
    exact decide_eq_true h
  · show i.2 = Sp.sel _ (i.1 + 1)
    rw [Sp.sel_succ, hi.2, if_neg, List.append_nil]
    show ¬ decide ((Sp.ev x.1 i.1).2.1.1 = 4) = true
    rw [decide_eq_true_eq]; exact h
  · rw [hi.2, show i.1 = x.1.length from by omega]; rfl

theorem ok34 : FOk Try.prog 34 S34 := by
  have hC : CtxOK Try.prog C34 := okA (fns_cons ok32 fns_nil)
  refine FOk.intro hC (stpP_ok hC) Try.call34 Try.func34 (by kernel_rfl) (by kernel_rfl) L34 (vc34 ?_)
  intro x hp hx
  refine ⟨⟨(0, []), ⟨Nat.zero_le _, rfl⟩, rfl, rfl⟩, ?_⟩
  intro i hi hk
  have hlen := Sp.sel_len (fun (i : Nat) => Sp.writes (Sp.ev x.1 (i : Int)).2.1 && decide ((Sp.ev x.1 (i : Int)).2.1.2.1 = x.2.1)) i.1
  rw [← hi.2] at hlen
  refine ⟨fun hlt => ⟨⟨inN_of hlt, fun _ => inN_of hlt⟩, fun h => ⟨by rw [maxNew_eq]; omega, inK_succ hlt hx.1.1, (i.1 + 1, _), ⟨by show i.1 + 1 ≤ _; omega, ?_⟩, by show _ - (i.1 + 1) < _; omega, by show (_ : Int) = ((i.1 + 1 : Nat) : Int); omega, rfl⟩,
    fun h => ⟨inK_succ hlt hx.1.1, (i.1 + 1, i.2), ⟨by show i.1 + 1 ≤ _; omega, ?_⟩, by show _ - (i.1 + 1) < _; omega, by show (_ : Int) = ((i.1 + 1 : Nat) : Int); omega, rfl⟩⟩, fun hge => ?_⟩
  · show i.2 ++ _ = Sp.sel _ (i.1 + 1)
    rw [Sp.sel_succ, hi.2, if_pos]
    show (Sp.writes (Sp.ev x.1 i.1).2.1 && decide ((Sp.ev x.1 i.1).2.1.2.1 = x.2.1)) = true
    rw [Bool.and_eq_true, decide_eq_true_eq]; exact h
  · show i.2 = Sp.sel _ (i.1 + 1)
    rw [Sp.sel_succ, hi.2, if_neg, List.append_nil]
    show ¬ (Sp.writes (Sp.ev x.1 i.1).2.1 && decide ((Sp.ev x.1 i.1).2.1.2.1 = x.2.1)) = true
    rw [Bool.not_eq_true]; exact h
  · rw [hi.2, show i.1 = x.1.length from by omega]; rfl

theorem ok35 : FOk Try.prog 35 S35 := by
  have hC : CtxOK Try.prog C35 := okA (fns_cons ok38 fns_nil)
  refine FOk.intro hC (stpP_ok hC) Try.call35 Try.func35 (by kernel_rfl) (by kernel_rfl) L35 (vc35 ?_)
  intro x hp hx
  have hp2 : (x.2.2.1 : Int) ≤ 1000 := hp.2.2
  refine ⟨by rw [maxNew_eq]; omega, ⟨([], x.1, x.2.2.1), ⟨by simp, hp.2.1, rfl, rfl⟩, rfl, rfl, rfl⟩, ?_⟩
  intro i hi hk
  obtain ⟨h1, h2, h3, h4⟩ := hi
  refine ⟨fun hlt => ?_, fun hge => ?_⟩
  · have hb := Sp.byteAt_nonneg hx.2.1.2 i.2.2
    generalize hk0 : (Sp.byteAt x.2.1 i.2.2).tmod (i.2.1.length : Int) = k
    have hk1 : 0 ≤ k := by rw [← hk0]; exact Int.tmod_nonneg _ hb.1
    have hk2 : k < (i.2.1.length : Int) := by rw [← hk0]; exact Int.tmod_lt_of_pos _ hlt
    have hw1 : win 0 k i.2.1 = i.2.1.take k.toNat := by simp [win]
    have hw2 : win (k + 1) (i.2.1.length : Int) i.2.1 = i.2.1.drop (k.toNat + 1) := by
      unfold win
      rw [List.take_of_length_le (by omega)]
      congr 1; omega
    have hers : i.2.1.eraseIdx k.toNat = i.2.1.take k.toNat ++ i.2.1.drop (k.toNat + 1) := List.eraseIdx_eq_take_drop_succ _ _
    have hlen : (i.2.1.take k.toNat ++ i.2.1.drop (k.toNat + 1)).length + 1 = i.2.1.length := by
      simp only [List.length_append, List.length_take, List.length_drop]; omega
    rw [hw1, hw2]
    have hlen' := hlen
    simp only [List.length_append] at hlen'
    rw [lim_eq] at hk
    refine ⟨⟨h2, by omega⟩, inK_of (by omega) (by omega), ⟨⟨hk1, hk2⟩, by rw [maxNew_eq]; omega⟩, ⟨⟨by omega, hk1, by omega⟩, by rw [maxNew_eq]; omega, inK_of (by omega) (by omega), ⟨by omega, by omega, by omega⟩, by rw [maxNew_eq]; omega⟩,
      (i.1 ++ [i.2.1.getD k.toNat 0], i.2.1.take k.toNat ++ i.2.1.drop (k.toNat + 1), i.2.2 + 1), ⟨?_, ?_, ?_, ?_⟩, ?_, rfl, rfl, rfl⟩
    · show (i.1 ++ [_]).length + (i.2.1.take k.toNat ++ i.2.1.drop (k.toNat + 1)).length = _
      rw [List.length_append, List.length_singleton]; omega
    · show 0 ≤ i.2.2 + 1; omega
    · show i.2.2 + 1 + ((i.2.1.take k.toNat ++ i.2.1.drop (k.toNat + 1)).length : Int) = _; omega
    · show (i.1 ++ [i.2.1.getD k.toNat 0]) ++ Sp.shuf (i.2.1.take k.toNat ++ i.2.1.drop (k.toNat + 1)).length (i.2.1.take k.toNat ++ i.2.1.drop (k.toNat + 1)) x.2.1 (i.2.2 + 1) = _
      rw [← h4, Sp.shuf_step (l := i.2.1) (n := (i.2.1.take k.toNat ++ i.2.1.drop (k.toNat + 1)).length) (by omega), hk0, hers, List.append_assoc]
      rfl
    · show (i.2.1.take k.toNat ++ i.2.1.drop (k.toNat + 1)).length < _; omega
  · have h0 : i.2.1 = [] := List.length_eq_zero_iff.1 (by omega)
    rw [h0] at h4
    simpa [Sp.shuf] using h4

theorem ok53 : FOk Try.prog 53 S53 := by
  have hC : CtxOK Try.prog C53 := okA (fns_cons ok63 fns_nil)
  refine FOk.intro hC (stpP_ok hC) Try.call53 Try.func53 (by kernel_rfl) (by kernel_rfl) L53 (vc53 ?_)
  intro x hp hx
  exact ⟨⟨hp.1, hp.2.2⟩, hp.2.1, rfl⟩

theorem fold_succ {α : Type} (f : α → Nat → α) (a : α) (n : Nat) : (List.range (n + 1)).foldl f a = f ((List.range n).foldl f a) n := by
  rw [List.range_succ, List.foldl_append]; rfl

theorem rowA_zero (k : Nat) (r : Sp.Rel) : Sp.rowA k r 0 = r := rfl
theorem rowB_zero (k a : Nat) (r : Sp.Rel) : Sp.rowB k a r 0 = r := rfl
theorem rowB_succ (k a : Nat) (r : Sp.Rel) (n : Nat) : Sp.rowB k a r (n + 1) = Sp.stepB k a (Sp.rowB k a r n) n := fold_succ _ _ _
theorem rowA_succ (k : Nat) (r : Sp.Rel) (n : Nat) : Sp.rowA k r (n + 1) = Sp.rowB k n (Sp.rowA k r n) 6 := fold_succ _ _ _
theorem closeN_succ (r : Sp.Rel) (n : Nat) : Sp.closeN r (n + 1) = Sp.rowA n (Sp.closeN r n) 6 := fold_succ _ _ _
theorem stepB_eq (k a : Nat) (r : Sp.Rel) (b : Nat) : List.set r a (List.set (List.getD r a (List.replicate 6 false)) b (List.getD (List.getD r a (List.replicate 6 false)) b false ||
    List.getD (List.getD r a (List.replicate 6 false)) k false && List.getD (List.getD r k (List.replicate 6 false)) b false)) = Sp.stepB k a r b := rfl

theorem pk51 : POk Try.prog 51 S51 := by
  have hC : CtxOK Try.prog C51 := ctx_ok rfl rfl fns_nil ptrs_nil
  refine POk.intro hC (stpP_ok hC) Try.call51 Try.func51 (by kernel_rfl) rfl (by kernel_rfl) rfl rfl L51 (vc51 ?_)
  intro x hx
  have h6 : ∀ {n : Nat}, (n : Int) < 6 → inN (n : Int) 6 := fun h => ⟨by omega, by omega⟩
  have hk : ∀ {n : Nat}, (n : Int) < 6 → inK .i64 ((n : Int) + 1) := fun h => inK_of (by omega) (by omega)
  refine ⟨⟨(0, x), ⟨Nat.zero_le _, rfl⟩, rfl, rfl⟩, ?_⟩
  intro i hi _
  refine ⟨fun hlt => ⟨⟨(0, i.2), ⟨Nat.zero_le _, by rw [rowA_zero]; exact hi.2⟩, rfl, rfl⟩, ?_⟩, fun hge => ?_⟩
  · intro a ha _
    refine ⟨fun hlt2 => ⟨⟨(0, a.2), ⟨Nat.zero_le _, by rw [rowB_zero]; exact ha.2⟩, rfl, rfl⟩, ?_⟩, fun hge => ⟨hk hlt, (i.1 + 1, a.2), ⟨by show i.1 + 1 ≤ _; omega, ?_⟩, by show _ - (i.1 + 1) < _; omega, by show (_ : Int) = ((i.1 + 1 : Nat) : Int); omega, rfl⟩⟩
    · intro b hb _
      refine ⟨fun hlt3 => ⟨⟨h6 hlt2, h6 hlt3, fun _ => h6 hlt2, fun _ => h6 hlt, fun _ => h6 hlt, fun _ => h6 hlt3, h6 hlt2, h6 hlt3⟩, hk hlt3, (b.1 + 1, _), ⟨by show b.1 + 1 ≤ _; omega, ?_⟩, by show _ - (b.1 + 1) < _; omega, by show (_ : Int) = ((b.1 + 1 : Nat) : Int); omega, rfl⟩,
        fun hge => ⟨hk hlt2, (a.1 + 1, b.2), ⟨by show a.1 + 1 ≤ _; omega, ?_⟩, by show _ - (a.1 + 1) < _; omega, by show (_ : Int) = ((a.1 + 1 : Nat) : Int); omega, rfl⟩⟩
      · rw [rowB_succ, ← hb.2]; exact stepB_eq _ _ _ _
      · rw [rowA_succ, hb.2, show b.1 = 6 from by omega]
    · rw [closeN_succ, ha.2, show a.1 = 6 from by omega]
  · rw [hi.2, show i.1 = 6 from by omega]; rfl

theorem ok52 : FOk Try.prog 52 S52 := by
  refine FOk.intro (okA fns_nil) (stpP_ok (okA fns_nil)) Try.call52 Try.func52 (by kernel_rfl) (by kernel_rfl) L52 (vc52 ?_)
  intro x hx
  refine ⟨⟨0, ⟨Nat.zero_le _, fun a h => by omega⟩, rfl⟩, ?_⟩
  intro i hi _
  refine ⟨fun hlt => ⟨⟨by omega, by omega⟩, fun h => ?_, fun h => ⟨inK_of (by omega) (by omega), i + 1, ⟨by omega, ?_⟩, by omega, by omega⟩⟩, fun hge => ?_⟩
  · symm
    unfold Sp.round
    rw [List.any_eq_true]
    exact ⟨i, List.mem_range.2 (by omega), h⟩
  · intro a ha
    rcases Nat.lt_or_ge a i with h' | h'
    · exact hi.2 a h'
    · rw [show a = i from by omega]; exact h
  · symm
    unfold Sp.round
    rw [List.any_eq_false]
    intro a ha
    rw [hi.2 a (by have := List.mem_range.1 ha; omega)]
    simp

theorem ok21 : FOk Try.prog 21 S21 := by
  have hC : CtxOK Try.prog C21 := okA (fns_cons ok41 (fns_cons ok60 (fns_cons ok61 fns_nil)))
  refine FOk.intro hC (stpP_ok hC) Try.call21 Try.func21 (by kernel_rfl) (by kernel_rfl) L21 (vc21 ?_)
  intro x hp hx
  refine ⟨hp, ?_⟩
  unfold Sp.valid
  have h1 : ∀ (e : List Sp.LEv), (!e.any fun x => !Sp.usual x.2.1) = e.all fun x => Sp.usual x.2.1 := by
    intro e; simp [List.all_eq_not_any_not]
  have h2 : ∀ (n m : Nat), decide ((n : Int) ≤ (m : Int)) = decide (n ≤ m) := fun n m => by simp
  rw [h1]
  simp only [decide_eq_decide.2 (show ((1 : Int) ≤ (x.1.1.length : Int)) ↔ 1 ≤ x.1.1.length from by omega), decide_eq_decide.2 (show ((x.1.1.length : Int) ≤ 4) ↔ x.1.1.length ≤ 4 from by omega),
    decide_eq_decide.2 (show ((1 : Int) ≤ ((Sp.evs 0 x.1.1).length : Int)) ↔ 1 ≤ (Sp.evs 0 x.1.1).length from by omega), decide_eq_decide.2 (show (((Sp.evs 0 x.1.1).length : Int) ≤ 6) ↔ (Sp.evs 0 x.1.1).length ≤ 6 from by omega)]
end Go.User
namespace Sp
theorem oA_zero (e : List LEv) (a b : Nat) : false = oA e 0 a b := by simp [oA]
theorem oAB (e : List LEv) (i a b : Nat) : oA e i a b = oB e i (i + 1) a b := by
  rw [Bool.eq_iff_iff]
  simp only [oA, oB, ordF, List.length_nil, List.range_zero, List.any_nil, Bool.or_false, Bool.and_eq_true, Bool.or_eq_true, decide_eq_true_eq]
  constructor
  · rintro ⟨h, h2⟩; exact ⟨.inl h, h2⟩
  · rintro ⟨h | ⟨h, h'⟩, h2⟩
    · exact ⟨h, h2⟩
    · have := h2.1.1; omega
theorem oB_step {e : List LEv} {i k : Nat} (hk : i < k) (hk2 : k < e.length) (a b : Nat) : (if a = i ∧ b = k then decide ((ev e i).1 = (ev e k).1) else oB e i k a b) = oB e i (k + 1) a b := by
  rw [Bool.eq_iff_iff]
  simp only [oB, ordF, List.length_nil, List.range_zero, List.any_nil, Bool.or_false]
  split
  · rename_i h
    obtain ⟨rfl, rfl⟩ := h
    simp only [Bool.and_eq_true, Bool.or_eq_true, decide_eq_true_eq]
    constructor
    · intro h; exact ⟨.inr ⟨trivial, by omega⟩, ⟨hk, hk2⟩, h⟩
    · rintro ⟨_, _, h⟩; exact h
  · rename_i h
    simp only [Bool.and_eq_true, Bool.or_eq_true, decide_eq_true_eq]
    constructor
    · rintro ⟨h1 | ⟨h1, h2⟩, h3⟩
      · exact ⟨.inl h1, h3⟩
      · exact ⟨.inr ⟨h1, by omega⟩, h3⟩
    · rintro ⟨h1 | ⟨h1, h2⟩, h3⟩
      · exact ⟨.inl h1, h3⟩
      · refine ⟨.inr ⟨h1, ?_⟩, h3⟩
        rcases Nat.lt_or_ge b k with h4 | h4
        · exact h4
        · exact absurd ⟨h1, by omega⟩ h
theorem oB_end {e : List LEv} {i k : Nat} (hk : e.length ≤ k) (a b : Nat) : oB e i k a b = oA e (i + 1) a b := by
  rw [Bool.eq_iff_iff]
  simp only [oA, oB, ordF, List.length_nil, List.range_zero, List.any_nil, Bool.or_false, Bool.and_eq_true, Bool.or_eq_true, decide_eq_true_eq]
  constructor
  · rintro ⟨h | ⟨h, _⟩, h2⟩
    · exact ⟨by omega, h2⟩
    · exact ⟨by omega, h2⟩
  · rintro ⟨h, h2⟩
    rcases Nat.lt_or_ge a i with h3 | h3
    · exact ⟨.inl h3, h2⟩
    · exact ⟨.inr ⟨by omega, by have := h2.1.2; omega⟩, h2⟩
theorem oA_end {e : List LEv} {fo : List Int} {i : Nat} (hk : e.length ≤ i) (a b : Nat) : oA e i a b = oC e fo 0 a b := by
  rw [Bool.eq_iff_iff]
  simp only [oA, oC, ordF, List.length_nil, List.range_zero, List.any_nil, Bool.or_false, Bool.and_eq_true, Bool.or_eq_true, decide_eq_true_eq]
  constructor
  · rintro ⟨h, h2⟩; exact h2
  · intro h; exact ⟨by have := h.1.2; have := h.1.1; omega, h⟩
theorem oCD (e : List LEv) (fo : List Int) (i a b : Nat) : oC e fo i a b = oD e fo i 0 a b := by simp [oD]
theorem oD_step {e : List LEv} {fo : List Int} {i k : Nat} (ai bk : Nat) (h1 : fo.getD i 0 = (ai : Int)) (h2 : fo.getD (i + 1 + k) 0 = (bk : Int)) (a b : Nat) :
    (if a = ai ∧ b = bk then true else oD e fo i k a b) = oD e fo i (k + 1) a b := by
  rw [Bool.eq_iff_iff]
  simp only [oD, fo2, h1]
  split
  · rename_i h
    obtain ⟨rfl, rfl⟩ := h
    simp only [Bool.or_eq_true, List.any_eq_true, List.mem_range, Bool.and_eq_true, decide_eq_true_eq, true_iff]
    exact .inr ⟨k, by omega, trivial, h2⟩
  · rename_i h
    simp only [Bool.or_eq_true, List.any_eq_true, List.mem_range, Bool.and_eq_true, decide_eq_true_eq]
    constructor
    · rintro (h3 | ⟨q, h3, h4⟩)
      · exact .inl h3
      · exact .inr ⟨q, by omega, h4⟩
    · rintro (h3 | ⟨q, h3, h4, h5⟩)
      · exact .inl h3
      · refine .inr ⟨q, ?_, h4, h5⟩
        rcases Nat.lt_or_ge q k with h6 | h6
        · exact h6
        · have : q = k := by omega
          subst this
          rw [h2] at h5
          exact absurd ⟨by omega, by omega⟩ h
theorem oD_end {e : List LEv} {fo : List Int} {i k : Nat} (hk : fo.length = i + 1 + k) (a b : Nat) : oD e fo i k a b = oC e fo (i + 1) a b := by
  rw [Bool.eq_iff_iff]
  simp only [oD, oC, Bool.or_eq_true, List.any_eq_true, List.mem_range, Bool.and_eq_true, decide_eq_true_eq]
  constructor
  · rintro ((h | ⟨p, h1, h2⟩) | ⟨q, h1, h2⟩)
    · exact .inl h
    · exact .inr ⟨p, by omega, h2⟩
    · exact .inr ⟨i, by omega, i + 1 + q, by omega, by omega, h2⟩
  · rintro (h | ⟨p, h1, q, h2, h3, h4⟩)
    · exact .inl (.inl h)
    · rcases Nat.lt_or_ge p i with h5 | h5
      · exact .inl (.inr ⟨p, h5, q, h2, h3, h4⟩)
      · have : p = i := by omega
        subst this
        exact .inr ⟨q - (p + 1), by omega, by rw [show p + 1 + (q - (p + 1)) = q from by omega]; exact h4⟩
theorem oC_end {e : List LEv} {fo : List Int} {i : Nat} (hk : i = fo.length) (a b : Nat) : oC e fo i a b = ordF e fo a b := by
  subst hk
  rw [Bool.eq_iff_iff]
  simp only [oC, ordF, fo2, List.length_nil, List.range_zero, List.any_nil, Bool.or_false, Bool.or_eq_true, List.any_eq_true, List.mem_range, Bool.and_eq_true, decide_eq_true_eq]
  constructor
  · rintro (h | ⟨p, h1, q, h2, h3, h4, h5⟩)
    · exact .inl h
    · exact .inr ⟨q, h2, p, h3, h4, h5⟩
  · rintro (h | ⟨q, h1, p, h2, h3, h4⟩)
    · exact .inl h
    · exact .inr ⟨p, by omega, q, h1, h2, h3, h4⟩

theorem isList_false {l : List Int} {e : List LEv} {is : LOp → Bool} (h : ¬ ((l.Nodup ∧ ∀ n ∈ l, 0 ≤ n ∧ n < e.length ∧ is (ev e n).2.1 = true) ∧ ∀ n < e.length, is (ev e n).2.1 = true → (n : Int) ∈ l)) : false = isList l e is := by
  unfold isList
  cases h1 : decide (l.Nodup ∧ ∀ n ∈ l, 0 ≤ n ∧ n < e.length ∧ is (ev e n).2.1 = true)
  · rfl
  · cases h2 : decide (∀ n < e.length, is (ev e n).2.1 = true → (n : Int) ∈ l)
    · rfl
    · exact absurd ⟨of_decide_eq_true h1, of_decide_eq_true h2⟩ h
theorem isList_true {l : List Int} {e : List LEv} {is : LOp → Bool} (h1 : l.Nodup) (h2 : ∀ n ∈ l, 0 ≤ n ∧ n < e.length ∧ is (ev e n).2.1 = true) (h3 : ∀ n < e.length, is (ev e n).2.1 = true → (n : Int) ∈ l) : true = isList l e is := by
  unfold isList
  rw [decide_eq_true ⟨h1, h2⟩, decide_eq_true h3]; rfl
end Sp
namespace Go.User
open Go.Lf Go.Proofs

theorem ok50 : FOk Try.prog 50 S50 := by
  refine FOk.intro (okA fns_nil) (stpP_ok (okA fns_nil)) Try.call50 Try.func50 (by kernel_rfl) (by kernel_rfl) L50 (vc50 ?_)
  intro x hp hx
  have h6 : ∀ {n : Nat}, (n : Int) < (x.1.1.length : Int) → inN (n : Int) 6 := fun h => ⟨by omega, by have := hp.1; omega⟩
  refine ⟨⟨0, Nat.zero_le _, rfl, ?_⟩, ?_⟩
  · rw [Sp.mat_const]; exact Sp.mat_ext fun a b _ _ => Sp.oA_zero _ _ _
  intro i hi _
  refine ⟨fun hlt => ⟨inK_succ hlt hx.1.1, ⟨i + 1, ⟨by omega, by omega⟩, rfl, Sp.mat_ext fun a b _ _ => Sp.oAB _ _ _ _⟩, ?_⟩, fun hge => ⟨⟨0, Nat.zero_le _, rfl, Sp.mat_ext fun a b _ _ => Sp.oA_end (by omega) _ _⟩, ?_⟩⟩
  · intro k hk _
    refine ⟨fun hlt2 => ⟨⟨inN_of hlt, inN_of hlt2, h6 hlt, h6 hlt2⟩, inK_succ hlt2 hx.1.1, k + 1, ⟨by omega, by omega⟩, by omega, rfl, ?_⟩, fun hge2 => ⟨inK_succ hlt hx.1.1, i + 1, by omega, by omega, rfl, Sp.mat_ext fun a b _ _ => Sp.oB_end (by omega) _ _⟩⟩
    rw [Sp.mat_set (by have := (h6 hlt).2; omega) (by have := (h6 hlt2).2; omega)]
    exact Sp.mat_ext fun a b _ _ => Sp.oB_step hk.1 (by omega) a b
  · intro j hj _
    refine ⟨fun hlt => ?_, fun hge => ?_⟩
    · have hjl : j < x.1.2.2.2.1.length := by omega
      have hw : win ((j : Int) + 1) (x.1.2.2.2.1.length : Int) x.1.2.2.2.1 = x.1.2.2.2.1.drop (j + 1) := by
        unfold win
        rw [List.take_of_length_le (by omega)]
        congr 1
      rw [hw]
      have hlen : (x.1.2.2.2.1.drop (j + 1)).length = x.1.2.2.2.1.length - (j + 1) := List.length_drop
      refine ⟨inN_of hlt, ⟨inK_succ hlt hx.2.2.2.1, by omega, by omega, by omega⟩, ⟨0, by omega, rfl, Sp.mat_ext fun a b _ _ => Sp.oCD _ _ _ _ _⟩, ?_⟩
      intro k hk _
      refine ⟨fun hlt2 => ?_, fun hge2 => ⟨inK_succ hlt hx.2.2.2.1, j + 1, by omega, by omega, rfl, Sp.mat_ext fun a b _ _ => Sp.oD_end (by omega) _ _⟩⟩
      have hjk : j + 1 + k < x.1.2.2.2.1.length := by omega
      have e1 : (x.1.2.2.2.1.drop (j + 1)).getD k 0 = x.1.2.2.2.1.getD (j + 1 + k) 0 := by
        rw [Sp.getD_lt (by omega), Sp.getD_lt hjk, List.getElem_drop]
      rw [e1]
      have n1 : inN (x.1.2.2.2.1.getD j 0) 6 := by rw [Sp.getD_lt hjl]; exact hp.2 _ (List.getElem_mem hjl)
      have n2 : inN (x.1.2.2.2.1.getD (j + 1 + k) 0) 6 := by rw [Sp.getD_lt hjk]; exact hp.2 _ (List.getElem_mem hjk)
      refine ⟨inN_of hlt2, ⟨n1, n2⟩, inK_succ hlt2 (by omega), k + 1, by omega, by omega, rfl, ?_⟩
      rw [Sp.mat_set (by have := n1.2; omega) (by have := n2.2; omega)]
      exact Sp.mat_ext fun a b _ _ => Sp.oD_step _ _ (by have := n1.1; omega) (by have := n2.1; omega) a b
    · exact Sp.mat_ext fun a b _ _ => Sp.oC_end (by omega) a b

theorem ok45 : FOk Try.prog 45 S45 := by
  refine FOk.intro (okA fns_nil) (stpP_ok (okA fns_nil)) Try.call45 Try.func45 (by kernel_rfl) (by kernel_rfl) L45 (vc45 ?_)
  intro x hp hx
  refine ⟨⟨by show (0 : Int) ≤ _; omega, by omega, by rw [maxNew_eq]; have := hp.1; omega⟩, ⟨(0, List.replicate x.2.1.length false), ⟨Nat.zero_le _, by simp, by simp, by simp, ?_⟩, rfl, rfl⟩, ?_⟩
  · intro n hn
    show (List.replicate x.2.1.length false).getD n false = true ↔ (n : Int) ∈ List.take 0 x.1
    rw [Sp.getD_lt (by simp; exact hn)]; simp
  intro i hi _
  obtain ⟨h1, h2, h3, h4, h5⟩ := hi
  refine ⟨fun hlt => ?_, fun hge => ?_⟩
  · have hil : i.1 < x.1.length := by omega
    have htk : List.take (i.1 + 1) x.1 = List.take i.1 x.1 ++ [x.1.getD i.1 0] := by rw [List.take_succ_eq_append_getElem hil, Sp.getD_lt hil]
    have hmem : x.1.getD i.1 0 ∈ x.1 := by rw [Sp.getD_lt hil]; exact List.getElem_mem hil
    have hev : ∀ (n : Int), x.2.1.getD n.toNat (0, (0, 0, 0, ()), 0, ()) = Sp.ev x.2.1 n := fun n => rfl
    have hnd : x.1.Nodup → x.1.getD i.1 0 ∉ List.take i.1 x.1 := by
      intro hn hm
      rw [Sp.getD_lt hil] at hm
      obtain ⟨j, hj, he⟩ := List.mem_take_iff_getElem.1 hm
      exact (List.pairwise_iff_getElem.1 hn) j i.1 (by omega) hil (by omega) he
    generalize hv : x.1.getD i.1 0 = v at *
    simp only [hev]
    have hin : ∀ {b : Bool}, (!(decide (v < 0) || decide ((x.2.1.length : Int) ≤ v) || b)) = true → inN v x.2.1.length := by
      intro b h
      simp only [Bool.not_eq_true', Bool.or_eq_false_iff, decide_eq_false_iff_not] at h
      exact ⟨by omega, by omega⟩
    refine ⟨inN_of hlt, ⟨fun h => ?_, fun h => ?_, fun h => hp.2 _⟩, fun h => ?_, fun h => ?_⟩
    · rw [h2]
      exact ⟨h.1, h.2⟩
    · exact ⟨h.1.1, h.1.2⟩
    · refine Sp.isList_false ?_
      rintro ⟨⟨g1, g2⟩, g3⟩
      obtain ⟨k1, k2, k3⟩ := g2 v hmem
      simp only [Bool.or_eq_true, decide_eq_true_eq, Bool.not_eq_true'] at h
      rcases h with ((h | h) | h) | h
      · omega
      · omega
      · have := (h5 v.toNat (by omega)).1 h
        rw [show ((v.toNat : Nat) : Int) = v from by omega] at this
        exact hnd g1 this
      · rw [k3] at h; cases h
    · obtain ⟨⟨⟨g1, g2⟩, g3⟩, g4⟩ := h
      have hvin : inN v x.2.1.length := ⟨by omega, by omega⟩
      have hnv : v ∉ List.take i.1 x.1 := by
        intro hm
        have := (h5 v.toNat (by omega)).2 (by rw [show ((v.toNat : Nat) : Int) = v from by omega]; exact hm)
        rw [g3] at this; cases this
      refine ⟨by rw [h2]; exact hvin, inK_succ hlt hx.1.1, (i.1 + 1, i.2.set v.toNat true), ⟨by show i.1 + 1 ≤ _; omega, by show (i.2.set _ _).length = _; simp [h2], ?_, ?_, ?_⟩, by show _ - (i.1 + 1) < _; omega, rfl, rfl⟩
      · show (List.take (i.1 + 1) x.1).Nodup
        rw [htk, List.nodup_append]
        refine ⟨h3, by simp, ?_⟩
        intro a ha b hb
        simp only [List.mem_singleton] at hb
        subst hb
        rintro rfl; exact hnv ha
      · intro n hn
        have hn : n ∈ List.take (i.1 + 1) x.1 := hn
        rw [htk] at hn
        rcases List.mem_append.1 hn with hn | hn
        · exact h4 n hn
        · simp only [List.mem_singleton] at hn
          subst hn
          exact ⟨by omega, by omega, g4⟩
      · intro n hn
        show (i.2.set v.toNat true).getD n false = true ↔ (n : Int) ∈ List.take (i.1 + 1) x.1
        rw [htk, List.mem_append, ← h5 n hn, Sp.getD_lt (by simp; omega), Sp.getD_lt (by omega), List.getElem_set]
        simp only [List.mem_singleton]
        by_cases hc : v.toNat = n
        · rw [if_pos hc]
          constructor
          · intro _; right; omega
          · intro _; rfl
        · rw [if_neg hc]
          constructor
          · exact .inl
          · rintro (h | h)
            · exact h
            · omega
  · have htk := Sp.take_all h1 hge
    rw [htk] at h3 h4 h5
    refine ⟨⟨0, ⟨Nat.zero_le _, fun n h => by omega⟩, rfl⟩, ?_⟩
    intro k hk _
    refine ⟨fun hlt => ⟨⟨inN_of hlt, hp.2 _, fun _ => by rw [h2]; exact inN_of hlt⟩, fun h => ?_, fun h => ⟨inK_succ hlt hx.2.1, k + 1, ⟨by omega, ?_⟩, by omega, rfl⟩⟩, fun hge => ?_⟩
    · refine Sp.isList_false ?_
      rintro ⟨_, g3⟩
      have := (h5 k (by omega)).2 (g3 k (by omega) h.1)
      rw [h.2] at this; cases this
    · intro n hn hf
      rcases Nat.lt_or_ge n k with hc | hc
      · exact hk.2 n hc hf
      · have : n = k := by omega
        subst this
        refine (h5 n (by omega)).1 ?_
        have hf' : x.2.2.1.fn ((x.2.1.getD n (0, (0, 0, 0, ()), 0, ())).2.1, ()) = true := hf
        rw [hf'] at h
        simpa using h
    · exact Sp.isList_true h3 h4 (fun n hn hf => hk.2 n (by omega) hf)
end Go.User
namespace Sp
def coh (g : Gr) (a b : Int) : Bool :=
  let low := if writes (ev g.1 a).2.1 = true then (plc g a).1 else (plc g a).2.1
  !(reads (ev g.1 b).2.1 && decide ((plc g b).2.1 < low)) && !(writes (ev g.1 b).2.1 && decide ((plc g b).1 ≤ low))
def src (e : List LEv) (g : Gr) (n : Nat) : Prop :=
  (ev g.1 n).1 = (ev e n).1 ∧ (ev g.1 n).2.1 = (ev e n).2.1 ∧ -1 ≤ g.2.1.getD n 0 ∧ g.2.1.getD n 0 < (e.length : Int) ∧
  (0 ≤ g.2.1.getD n 0 → reads (ev e n).2.1 = true ∧ writes (ev e (g.2.1.getD n 0)).2.1 = true ∧ (ev e (g.2.1.getD n 0)).2.1.2.1 = (ev e n).2.1.2.1)
instance (e : List LEv) (g : Gr) (n : Nat) : Decidable (src e g n) := by unfold src; infer_instance
def got (g : Gr) (n : Nat) : Prop := (ev g.1 n).2.2.1 = if reads (ev g.1 n).2.1 = true then value g.1 (g.2.1.getD n 0) else 0
instance (g : Gr) (n : Nat) : Decidable (got g n) := by unfold got; infer_instance
def right (t : Lit) (g : Gr) : Bool :=
  valid t && decide (g.1.length = (evs 0 t.1).length) && decide (g.2.1.length = (evs 0 t.1).length) && decide (g.2.2.1.length = 3) &&
  decide (∀ n < (evs 0 t.1).length, src (evs 0 t.1) g n) && decide (∀ n < g.1.length, got g n) &&
  ((List.range 3).all fun p => isList (g.2.2.1.getD p []) (evs 0 t.1) (fun o => writes o && decide (o.2.1 = (p : Int)))) &&
  isList g.2.2.2.1 (evs 0 t.1) (fun o => decide (o.1 = 4))
def flowN (g : Gr) (i a b : Nat) : Bool := ordF g.1 g.2.2.2.1 a b || (decide (b < i) && decide (g.2.1.getD b 0 = (a : Int)))
def flow (g : Gr) : Rel := close (mat (flowN g g.2.1.length))
def before (g : Gr) : Rel := close (order g)
def badAdd (g : Gr) (a : Nat) : Bool := decide ((ev g.1 a).2.1.1 = 3) && !decide ((plc g a).2.1 = (plc g a).1 - 1)
def badPair (g : Gr) (a b : Nat) : Bool := get2 (before g) a b && !decide ((ev g.1 b).2.1.1 = 4) && decide ((ev g.1 a).2.1.2.1 = (ev g.1 b).2.1.2.1) && !coh g a b
def okEv (g : Gr) (a : Nat) : Prop := (ev g.1 a).2.1.1 = 4 ∨ (badAdd g a = false ∧ ∀ b < g.1.length, badPair g a b = false)
instance (g : Gr) (a : Nat) : Decidable (okEv g a) := by unfold okEv; infer_instance
def allowed (t : Lit) (g : Gr) : Bool := right t g && !round (flow g) && decide (∀ a < g.1.length, okEv g a)
end Sp
namespace Go.User
open Go.Lf
def okAt (g : Sp.Gr) (n : Int) : Prop := inN n g.1.length ∧ inN n g.2.1.length ∧ inN (Sp.ev g.1 n).2.1.2.1 g.2.2.1.length
-- coherent
def S54 : FSpec := { args := [.val tGr, .val tI, .val tI], multi := false, res := .bool, mode := .shr, pre := fun x => okAt x.1 x.2.1 ∧ okAt x.1 x.2.2.1, fn := fun x => Sp.coh x.1 x.2.1 x.2.2.1 }
def C54 : Ctx := mkC 54 [(53, S53), (42, S42), (43, S43)]
def L54 (x : kdens S54.args) : List LoopI := []
-- Right
def S16 : FSpec := { args := [.val tLit, .val tGr], multi := false, res := .bool, mode := .shr, pre := fun x => (Sp.evs 0 x.1.1).length ≤ 1000, fn := fun x => Sp.right x.1 x.2.1 }
def C16 : Ctx := mkC 144 [(41, S41), (21, S21), (42, S42), (43, S43), (44, S44), (45, S45), (46, S46), (47, S47)]
def L16 (x : kdens S16.args) : List LoopI := [
  { ι := Nat, inv := fun i => i ≤ (Sp.evs 0 x.1.1).length ∧ ∀ n < i, Sp.src (Sp.evs 0 x.1.1) x.2.1 n, dec := fun i => (Sp.evs 0 x.1.1).length - i, ovr := fun i => [(43, .shr tI (i : Int))], keep := [2, 3, 5, 41, 42] },
  { ι := Nat, inv := fun i => i ≤ List.length x.2.1.1 ∧ ∀ n < i, Sp.got x.2.1 n, dec := fun i => List.length x.2.1.1 - i, ovr := fun i => [(107, .shr tI (i : Int))], keep := [2, 3, 5, 105, 106] },
  { ι := Nat, inv := fun i => i ≤ 3 ∧ ∀ p < i, Sp.isList (List.getD x.2.1.2.2.1 p []) (Sp.evs 0 x.1.1) (fun o => Sp.writes o && decide (o.2.1 = (p : Int))) = true, dec := fun i => 3 - i, ovr := fun i => [(127, .shr tI (i : Int))], keep := [2, 3, 5] }]
-- Allowed
def S18 : FSpec := { args := [.val tLit, .val tGr], multi := false, res := .bool, mode := .shr, pre := fun x => (Sp.evs 0 x.1.1).length ≤ 1000, fn := fun x => Sp.allowed x.1 x.2.1 }
def C18 : Ctx := { mkC 103 [(16, S16), (50, S50), (52, S52), (53, S53), (54, S54)] with ptrs := [(51, S51)] }
def L18 (x : kdens S18.args) : List LoopI := [
  { ι := Nat, inv := fun i => i ≤ List.length x.2.1.2.1, dec := fun i => List.length x.2.1.2.1 - i, ovr := fun i => [(24, .shr tI (i : Int)), (6, .box tRel mRel (Sp.mat (Sp.flowN x.2.1 i)))], keep := [2, 3, 5, 22, 23] },
  { ι := Nat, inv := fun i => i ≤ List.length x.2.1.1 ∧ ∀ a < i, Sp.okEv x.2.1 a, dec := fun i => List.length x.2.1.1 - i, ovr := fun i => [(42, .shr tI (i : Int))], keep := [2, 3, 5, 40, 41], sub := fun i => [
    { ι := Nat, inv := fun k => k ≤ List.length x.2.1.1 ∧ ∀ b < k, Sp.badPair x.2.1 i b = false, dec := fun k => List.length x.2.1.1 - k, ovr := fun k => [(69, .shr tI (k : Int))], keep := [2, 3, 5, 40, 41, 42, 9, 10, 67, 68] }] }]
-- buffering
def opS (x v : Int) : Sp.LOp := (2, x, v, ())
def opL (x : Int) : Sp.LOp := (1, x, 0, ())
def opF : Sp.LOp := (4, 0, 0, ())
def S31 : FSpec := { args := [.val .bool], multi := false, res := tLit, mode := .shr, pre := fun _ => True, fn := fun x => bif x.1 then ([[opS 0 1, opF, opL 1], [opS 1 1, opF, opL 0]], ()) else ([[opS 0 1, opL 1], [opS 1 1, opL 0]], ()) }
def C31 : Ctx := { mkC 22 [(27, S27), (28, S28), (29, S29)] with frz := [7, 11, 12, 16, 19, 20] }
def L31 (x : kdens S31.args) : List LoopI := []
end Go.User
