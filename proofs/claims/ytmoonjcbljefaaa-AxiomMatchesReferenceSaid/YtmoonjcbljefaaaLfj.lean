/- Lists of events, relations: the functions compute what they should. The order of the program and the fences; lists of events of a kind. Right, Allowed, coherent: the functions compute what they should. Plain facts about the graphs that bytes say. Graphs out of bytes: the functions compute what they should. The law's own graph: it computes what it should. The fixed examples are as they should be. Plain facts about the tests that bytes say, and about closing a relation. Plain facts: operations that are executed one after the other on a memory give a graph that is allowed. Plain facts: a graph in which one operation was executed after the other is right and allowed. -/
import Derived.Test.YtmoonjcbljefaaaLfi
set_option linter.unusedVariables false
set_option linter.unusedSimpArgs false
namespace Go.User
open Go.Lf Go.Proofs

theorem maxNew_eq : maxNew = 2147483648 := rfl

theorem ok41 : FOk Try.prog 41 S41 := by
  refine FOk.intro (okA fns_nil) (stpP_ok (okA fns_nil)) Try.call41 Try.func41 (by kernel_rfl) (by kernel_rfl) L41 (vc41.mpr ?_)
  simp only [z1, z2, z3, z4, z5, z6, z7, z8, z9, z10, z11, z12, z13, z14, z15, z16, z17, z18, z19, z20, z21, z22, z23, z24, z25, z26, z27, z28, z29, z30, z31, z32, z33, z34, z35, z36, z37, z38, dFact]
  intro x hp hx
  refine ⟨⟨(0, []), ⟨Nat.zero_le _, rfl⟩, rfl, rfl⟩, ?_⟩
  intro i hi hk
  refine ⟨fun hlt => ⟨inN_of hlt, ⟨(0, i.2), ⟨Nat.zero_le _, by simp [hi.2]⟩, rfl, rfl⟩, ?_⟩, fun hge => ?_⟩
  · intro k hk1 hk2
    have hi' : i.1 < x.1.1.length := by omega
    have hl : (x.1.1.getD i.1 []).length ≤ lim := by
      rw [Sp.getD_lt hi']; exact (hx.2 _ (List.getElem_mem hi')).1
    refine ⟨fun hlt2 => ⟨inN_of hlt2, ?_, inK_succ hlt2 hl, (k.1 + 1, _), ⟨by show k.1 + 1 ≤ _; omega, ?_⟩, by show _ - (k.1 + 1) < _; omega, by show (_ : Int) = ((k.1 + 1 : Nat) : Int); omega, rfl⟩,
      fun hge2 => ⟨inK_succ hlt hx.1, (i.1 + 1, k.2), ⟨by show i.1 + 1 ≤ _; omega, ?_⟩, by show _ - (i.1 + 1) < _; omega, by show (_ : Int) = ((i.1 + 1 : Nat) : Int); omega, rfl⟩⟩
    · have := Sp.evs_le hi' hk1.1
      rw [← hk1.2] at this
      rw [maxNew_eq]; omega
    · show k.2 ++ _ = Sp.evs 0 (List.take i.1 x.1.1) ++ List.map (Sp.mkEv (i.1 : Int)) (List.take (k.1 + 1) (x.1.1.getD i.1 []))
      rw [hk1.2, Sp.map_take_succ _ (by omega), List.append_assoc]; rfl
    · show k.2 = Sp.evs 0 (List.take (i.1 + 1) x.1.1)
      rw [hk1.2, Sp.evs_succ hi', List.take_of_length_le (l := x.1.1.getD i.1 []) (by omega)]
  · rw [hi.2, Sp.take_all hi.1 hge]

theorem ok33 : FOk Try.prog 33 S33 := by
  refine FOk.intro (okA fns_nil) (stpP_ok (okA fns_nil)) Try.call33 Try.func33 (by kernel_rfl) (by kernel_rfl) L33 (vc33.mpr ?_)
  simp only [z1, z2, z3, z4, z5, z6, z7, z8, z9, z10, z11, z12, z13, z14, z15, z16, z17, z18, z19, z20, z21, z22, z23, z24, z25, z26, z27, z28, z29, z30, z31, z32, z33, z34, z35, z36, z37, z38, dFact]
  intro x hp hx
  refine ⟨⟨(0, []), ⟨Nat.zero_le _, rfl⟩, rfl, rfl⟩, ?_⟩
  intro i hi hk
  refine ⟨fun hlt => ⟨⟨(0, i.2), ⟨Nat.zero_le _, by simp [hi.2]⟩, rfl, rfl⟩, ?_⟩, fun hge => ?_⟩
  · intro k hk1 hk2
    have hi' : i.1 < x.1.1.length := by omega
    have hl : (x.1.1.getD i.1 []).length ≤ lim := by
      rw [Sp.getD_lt hi']; exact (hx.2 _ (List.getElem_mem hi')).1
    refine ⟨inN_of hlt, fun hlt2 => ⟨⟨⟨inN_of hlt, inN_of hlt2⟩, ?_⟩, inK_succ hlt2 hl, (k.1 + 1, _), ⟨by show k.1 + 1 ≤ _; omega, ?_⟩, by show _ - (k.1 + 1) < _; omega, by show (_ : Int) = ((k.1 + 1 : Nat) : Int); omega, rfl⟩,
      fun hge2 => ⟨inK_succ hlt hx.1, (i.1 + 1, k.2), ⟨by show i.1 + 1 ≤ _; omega, ?_⟩, by show _ - (i.1 + 1) < _; omega, by show (_ : Int) = ((i.1 + 1 : Nat) : Int); omega, rfl⟩⟩
    · have := Sp.evs_le hi' hk1.1
      rw [← hk1.2] at this
      rw [maxNew_eq]; omega
    · show k.2 ++ _ = Sp.evs 0 (List.take i.1 x.1.1) ++ List.map (Sp.mkEv (i.1 : Int)) (List.take (k.1 + 1) (x.1.1.getD i.1 []))
      rw [hk1.2, Sp.map_take_succ _ (by omega), List.append_assoc]; rfl
    · show k.2 = Sp.evs 0 (List.take (i.1 + 1) x.1.1)
      rw [hk1.2, Sp.evs_succ hi', List.take_of_length_le (l := x.1.1.getD i.1 []) (by omega)]
  · rw [hi.2, Sp.take_all hi.1 hge]

theorem ok36 : FOk Try.prog 36 S36 := by
  refine FOk.intro (okA fns_nil) (stpP_ok (okA fns_nil)) Try.call36 Try.func36 (by kernel_rfl) (by kernel_rfl) L36 (vc36.mpr ?_)
  simp only [z1, z2, z3, z4, z5, z6, z7, z8, z9, z10, z11, z12, z13, z14, z15, z16, z17, z18, z19, z20, z21, z22, z23, z24, z25, z26, z27, z28, z29, z30, z31, z32, z33, z34, z35, z36, z37, z38, dFact]
  intro x hp hx
  refine ⟨⟨(0, []), ⟨Nat.zero_le _, rfl⟩, rfl, rfl⟩, ?_⟩
  intro i hi hk
  have hlen := Sp.sel_len (fun (i : Nat) => decide ((Sp.ev x.1 (i : Int)).2.1.1 = 4)) i.1
  rw [← hi.2] at hlen
  refine ⟨fun hlt => ⟨inN_of hlt, fun h => ⟨by rw [maxNew_eq]; omega, inK_succ hlt hx.1, (i.1 + 1, _), ⟨by show i.1 + 1 ≤ _; omega, ?_⟩, by show _ - (i.1 + 1) < _; omega, by show (_ : Int) = ((i.1 + 1 : Nat) : Int); omega, rfl⟩,
    fun h => ⟨inK_succ hlt hx.1, (i.1 + 1, i.2), ⟨by show i.1 + 1 ≤ _; omega, ?_⟩, by show _ - (i.1 + 1) < _; omega, by show (_ : Int) = ((i.1 + 1 : Nat) : Int); omega, rfl⟩⟩, fun hge => ?_⟩
  · show i.2 ++ _ = Sp.sel _ (i.1 + 1)
    rw [Sp.sel_succ, hi.2, if_pos]
    show decide ((Sp.ev x.1 i.1).2.1.1 = 4) = true
    exact decide_eq_true h
  · show i.2 = Sp.sel _ (i.1 + 1)
    rw [Sp.sel_succ, hi.2, if_neg, List.append_nil]
    show ¬ decide ((Sp.ev x.1 i.1).2.1.1 = 4) = true
    rw [decide_eq_true_eq]; exact h
  · rw [hi.2, show i.1 = x.1.length from by omega]; rfl

theorem ok34 : FOk Try.prog 34 S34 := by
  have hC : CtxOK Try.prog C34 := okA (fns_cons ok32 fns_nil)
  refine FOk.intro hC (stpP_ok hC) Try.call34 Try.func34 (by kernel_rfl) (by kernel_rfl) L34 (vc34.mpr ?_)
  simp only [z1, z2, z3, z4, z5, z6, z7, z8, z9, z10, z11, z12, z13, z14, z15, z16, z17, z18, z19, z20, z21, z22, z23, z24, z25, z26, z27, z28, z29, z30, z31, z32, z33, z34, z35, z36, z37, z38, dFact]
  intro x hp hx
  refine ⟨⟨(0, []), ⟨Nat.zero_le _, rfl⟩, rfl, rfl⟩, ?_⟩
  intro i hi hk
  have hlen := Sp.sel_len (fun (i : Nat) => Sp.writes (Sp.ev x.1 (i : Int)).2.1 && decide ((Sp.ev x.1 (i : Int)).2.1.2.1 = x.2.1)) i.1
  rw [← hi.2] at hlen
  refine ⟨fun hlt => ⟨⟨inN_of hlt, fun _ => inN_of hlt⟩, fun h => ⟨by rw [maxNew_eq]; omega, inK_succ hlt hx.1.1, (i.1 + 1, _), ⟨by show i.1 + 1 ≤ _; omega, ?_⟩, by show _ - (i.1 + 1) < _; omega, by show (_ : Int) = ((i.1 + 1 : Nat) : Int); omega, rfl⟩,
    fun h => ⟨inK_succ hlt hx.1.1, (i.1 + 1, i.2), ⟨by show i.1 + 1 ≤ _; omega, ?_⟩, by show _ - (i.1 + 1) < _; omega, by show (_ : Int) = ((i.1 + 1 : Nat) : Int); omega, rfl⟩⟩, fun hge => ?_⟩
  · show i.2 ++ _ = Sp.sel _ (i.1 + 1)
    rw [Sp.sel_succ, hi.2, if_pos]
    show (Sp.writes (Sp.ev x.1 i.1).2.1 && decide ((Sp.ev x.1 i.1).2.1.2.1 = x.2.1)) = true
    rw [Bool.and_eq_true, decide_eq_true_eq]; exact h
  · show i.2 = Sp.sel _ (i.1 + 1)
    rw [Sp.sel_succ, hi.2, if_neg, List.append_nil]
    show ¬ (Sp.writes (Sp.ev x.1 i.1).2.1 && decide ((Sp.ev x.1 i.1).2.1.2.1 = x.2.1)) = true
    rw [Bool.not_eq_true]; exact h
  · rw [hi.2, show i.1 = x.1.length from by omega]; rfl

theorem ok35 : FOk Try.prog 35 S35 := by
  have hC : CtxOK Try.prog C35 := okA (fns_cons ok38 fns_nil)
  refine FOk.intro hC (stpP_ok hC) Try.call35 Try.func35 (by kernel_rfl) (by kernel_rfl) L35 (vc35.mpr ?_)
  simp only [z1, z2, z3, z4, z5, z6, z7, z8, z9, z10, z11, z12, z13, z14, z15, z16, z17, z18, z19, z20, z21, z22, z23, z24, z25, z26, z27, z28, z29, z30, z31, z32, z33, z34, z35, z36, z37, z38, dFact]
  intro x hp hx
  have hp2 : (x.2.2.1 : Int) ≤ 1000 := hp.2.2
  refine ⟨by rw [maxNew_eq]; omega, ⟨([], x.1, x.2.2.1), ⟨by simp, hp.2.1, rfl, rfl⟩, rfl, rfl, rfl⟩, ?_⟩
  intro i hi hk
  obtain ⟨h1, h2, h3, h4⟩ := hi
  refine ⟨fun hlt => ?_, fun hge => ?_⟩
  · have hb := Sp.byteAt_nonneg hx.2.1.2 i.2.2
    generalize hk0 : (Sp.byteAt x.2.1 i.2.2).tmod (i.2.1.length : Int) = k
    have hk1 : 0 ≤ k := by rw [← hk0]; exact Int.tmod_nonneg _ hb.1
    have hk2 : k < (i.2.1.length : Int) := by rw [← hk0]; exact Int.tmod_lt_of_pos _ hlt
    have hw1 : win 0 k i.2.1 = i.2.1.take k.toNat := by simp [win]
    have hw2 : win (k + 1) (i.2.1.length : Int) i.2.1 = i.2.1.drop (k.toNat + 1) := by
      unfold win
      rw [List.take_of_length_le (by omega)]
      congr 1; omega
    have hers : i.2.1.eraseIdx k.toNat = i.2.1.take k.toNat ++ i.2.1.drop (k.toNat + 1) := List.eraseIdx_eq_take_drop_succ _ _
    have hlen : (i.2.1.take k.toNat ++ i.2.1.drop (k.toNat + 1)).length + 1 = i.2.1.length := by
      simp only [List.length_append, List.length_take, List.length_drop]; omega
    rw [hw1, hw2]
    have hlen' := hlen
    simp only [List.length_append] at hlen'
    rw [lim_eq] at hk
    refine ⟨⟨h2, by omega⟩, inK_of (by omega) (by omega), ⟨⟨hk1, hk2⟩, by rw [maxNew_eq]; omega⟩, ⟨⟨by omega, hk1, by omega⟩, by rw [maxNew_eq]; omega, inK_of (by omega) (by omega), ⟨by omega, by omega, by omega⟩, by rw [maxNew_eq]; omega⟩,
      (i.1 ++ [i.2.1.getD k.toNat 0], i.2.1.take k.toNat ++ i.2.1.drop (k.toNat + 1), i.2.2 + 1), ⟨?_, ?_, ?_, ?_⟩, ?_, rfl, rfl, rfl⟩
    · show (i.1 ++ [_]).length + (i.2.1.take k.toNat ++ i.2.1.drop (k.toNat + 1)).length = _
      rw [List.length_append, List.length_singleton]; omega
    · show 0 ≤ i.2.2 + 1; omega
    · show i.2.2 + 1 + ((i.2.1.take k.toNat ++ i.2.1.drop (k.toNat + 1)).length : Int) = _; omega
    · show (i.1 ++ [i.2.1.getD k.toNat 0]) ++ Sp.shuf (i.2.1.take k.toNat ++ i.2.1.drop (k.toNat + 1)).length (i.2.1.take k.toNat ++ i.2.1.drop (k.toNat + 1)) x.2.1 (i.2.2 + 1) = _
      rw [← h4, Sp.shuf_step (l := i.2.1) (n := (i.2.1.take k.toNat ++ i.2.1.drop (k.toNat + 1)).length) (by omega), hk0, hers, List.append_assoc]
      rfl
    · show (i.2.1.take k.toNat ++ i.2.1.drop (k.toNat + 1)).length < _; omega
  · have h0 : i.2.1 = [] := List.length_eq_zero_iff.1 (by omega)
    rw [h0] at h4
    simpa [Sp.shuf] using h4

theorem ok53 : FOk Try.prog 53 S53 := by
  have hC : CtxOK Try.prog C53 := okA (fns_cons ok63 fns_nil)
  refine FOk.intro hC (stpP_ok hC) Try.call53 Try.func53 (by kernel_rfl) (by kernel_rfl) L53 (vc53.mpr ?_)
  simp only [z1, z2, z3, z4, z5, z6, z7, z8, z9, z10, z11, z12, z13, z14, z15, z16, z17, z18, z19, z20, z21, z22, z23, z24, z25, z26, z27, z28, z29, z30, z31, z32, z33, z34, z35, z36, z37, z38, dFact]
  intro x hp hx
  exact ⟨⟨hp.1, hp.2.2⟩, hp.2.1, rfl⟩

theorem fold_succ {α : Type} (f : α → Nat → α) (a : α) (n : Nat) : (List.range (n + 1)).foldl f a = f ((List.range n).foldl f a) n := by
  rw [List.range_succ, List.foldl_append]; rfl

theorem rowA_zero (k : Nat) (r : Sp.Rel) : Sp.rowA k r 0 = r := rfl
theorem rowB_zero (k a : Nat) (r : Sp.Rel) : Sp.rowB k a r 0 = r := rfl
theorem rowB_succ (k a : Nat) (r : Sp.Rel) (n : Nat) : Sp.rowB k a r (n + 1) = Sp.stepB k a (Sp.rowB k a r n) n := fold_succ _ _ _
theorem rowA_succ (k : Nat) (r : Sp.Rel) (n : Nat) : Sp.rowA k r (n + 1) = Sp.rowB k n (Sp.rowA k r n) 6 := fold_succ _ _ _
theorem closeN_succ (r : Sp.Rel) (n : Nat) : Sp.closeN r (n + 1) = Sp.rowA n (Sp.closeN r n) 6 := fold_succ _ _ _
theorem stepB_eq (k a : Nat) (r : Sp.Rel) (b : Nat) : List.set r a (List.set (List.getD r a (List.replicate 6 false)) b (List.getD (List.getD r a (List.replicate 6 false)) b false ||
    List.getD (List.getD r a (List.replicate 6 false)) k false && List.getD (List.getD r k (List.replicate 6 false)) b false)) = Sp.stepB k a r b := rfl

theorem pk51 : POk Try.prog 51 S51 := by
  have hC : CtxOK Try.prog C51 := ctx_ok rfl rfl fns_nil ptrs_nil
  refine POk.intro hC (stpP_ok hC) Try.call51 Try.func51 (by kernel_rfl) rfl (by kernel_rfl) rfl rfl L51 (vc51.mpr ?_)
  simp only [z1, z2, z3, z4, z5, z6, z7, z8, z9, z10, z11, z12, z13, z14, z15, z16, z17, z18, z19, z20, z21, z22, z23, z24, z25, z26, z27, z28, z29, z30, z31, z32, z33, z34, z35, z36, z37, z38, dFact]
  intro x hx
  have h6 : ∀ {n : Nat}, (n : Int) < 6 → inN (n : Int) 6 := fun h => ⟨by omega, by omega⟩
  have hk : ∀ {n : Nat}, (n : Int) < 6 → inK .i64 ((n : Int) + 1) := fun h => inK_of (by omega) (by omega)
  refine ⟨⟨(0, x), ⟨Nat.zero_le _, rfl⟩, rfl, rfl⟩, ?_⟩
  intro i hi _
  refine ⟨fun hlt => ⟨⟨(0, i.2), ⟨Nat.zero_le _, by rw [rowA_zero]; exact hi.2⟩, rfl, rfl⟩, ?_⟩, fun hge => ?_⟩
  · intro a ha _
    refine ⟨fun hlt2 => ⟨⟨(0, a.2), ⟨Nat.zero_le _, by rw [rowB_zero]; exact ha.2⟩, rfl, rfl⟩, ?_⟩, fun hge => ⟨hk hlt, (i.1 + 1, a.2), ⟨by show i.1 + 1 ≤ _; omega, ?_⟩, by show _ - (i.1 + 1) < _; omega, by show (_ : Int) = ((i.1 + 1 : Nat) : Int); omega, rfl⟩⟩
    · intro b hb _
      refine ⟨fun hlt3 => ⟨⟨h6 hlt2, h6 hlt3, fun _ => h6 hlt2, fun _ => h6 hlt, fun _ => h6 hlt, fun _ => h6 hlt3, h6 hlt2, h6 hlt3⟩, hk hlt3, (b.1 + 1, _), ⟨by show b.1 + 1 ≤ _; omega, ?_⟩, by show _ - (b.1 + 1) < _; omega, by show (_ : Int) = ((b.1 + 1 : Nat) : Int); omega, rfl⟩,
        fun hge => ⟨hk hlt2, (a.1 + 1, b.2), ⟨by show a.1 + 1 ≤ _; omega, ?_⟩, by show _ - (a.1 + 1) < _; omega, by show (_ : Int) = ((a.1 + 1 : Nat) : Int); omega, rfl⟩⟩
      · rw [rowB_succ, ← hb.2]; exact stepB_eq _ _ _ _
      · rw [rowA_succ, hb.2, show b.1 = 6 from by omega]
    · rw [closeN_succ, ha.2, show a.1 = 6 from by omega]
  · rw [hi.2, show i.1 = 6 from by omega]; rfl

theorem ok52 : FOk Try.prog 52 S52 := by
  refine FOk.intro (okA fns_nil) (stpP_ok (okA fns_nil)) Try.call52 Try.func52 (by kernel_rfl) (by kernel_rfl) L52 (vc52.mpr ?_)
  simp only [z1, z2, z3, z4, z5, z6, z7, z8, z9, z10, z11, z12, z13, z14, z15, z16, z17, z18, z19, z20, z21, z22, z23, z24, z25, z26, z27, z28, z29, z30, z31, z32, z33, z34, z35, z36, z37, z38, dFact]
  intro x hx
  refine ⟨⟨0, ⟨Nat.zero_le _, fun a h => by omega⟩, rfl⟩, ?_⟩
  intro i hi _
  refine ⟨fun hlt => ⟨⟨by omega, by omega⟩, fun h => ?_, fun h => ⟨inK_of (by omega) (by omega), i + 1, ⟨by omega, ?_⟩, by omega, by omega⟩⟩, fun hge => ?_⟩
  · symm
    unfold Sp.round
    rw [List.any_eq_true]
    exact ⟨i, List.mem_range.2 (by omega), h⟩
  · intro a ha
    rcases Nat.lt_or_ge a i with h' | h'
    · exact hi.2 a h'
    · rw [show a = i from by omega]; exact h
  · symm
    unfold Sp.round
    rw [List.any_eq_false]
    intro a ha
    rw [hi.2 a (by have := List.mem_range.1 ha; omega)]
    simp

theorem ok21 : FOk Try.prog 21 S21 := by
  have hC : CtxOK Try.prog C21 := okA (fns_cons ok41 (fns_cons ok60 (fns_cons ok61 fns_nil)))
  refine FOk.intro hC (stpP_ok hC) Try.call21 Try.func21 (by kernel_rfl) (by kernel_rfl) L21 (vc21.mpr ?_)
  simp only [z1, z2, z3, z4, z5, z6, z7, z8, z9, z10, z11, z12, z13, z14, z15, z16, z17, z18, z19, z20, z21, z22, z23, z24, z25, z26, z27, z28, z29, z30, z31, z32, z33, z34, z35, z36, z37, z38, dFact]
  intro x hp hx
  refine ⟨hp, ?_⟩
  unfold Sp.valid
  have h1 : ∀ (e : List Sp.LEv), (!e.any fun x => !Sp.usual x.2.1) = e.all fun x => Sp.usual x.2.1 := by
    intro e; simp [List.all_eq_not_any_not]
  have h2 : ∀ (n m : Nat), decide ((n : Int) ≤ (m : Int)) = decide (n ≤ m) := fun n m => by simp
  rw [h1]
  simp only [decide_eq_decide.2 (show ((1 : Int) ≤ (x.1.1.length : Int)) ↔ 1 ≤ x.1.1.length from by omega), decide_eq_decide.2 (show ((x.1.1.length : Int) ≤ 4) ↔ x.1.1.length ≤ 4 from by omega),
    decide_eq_decide.2 (show ((1 : Int) ≤ ((Sp.evs 0 x.1.1).length : Int)) ↔ 1 ≤ (Sp.evs 0 x.1.1).length from by omega), decide_eq_decide.2 (show (((Sp.evs 0 x.1.1).length : Int) ≤ 6) ↔ (Sp.evs 0 x.1.1).length ≤ 6 from by omega)]
end Go.User
namespace Sp
theorem oA_zero (e : List LEv) (a b : Nat) : false = oA e 0 a b := by simp [oA]
theorem oAB (e : List LEv) (i a b : Nat) : oA e i a b = oB e i (i + 1) a b := by
  rw [Bool.eq_iff_iff]
  simp only [oA, oB, ordF, List.length_nil, List.range_zero, List.any_nil, Bool.or_false, Bool.and_eq_true, Bool.or_eq_true, decide_eq_true_eq]
  constructor
  · rintro ⟨h, h2⟩; exact ⟨.inl h, h2⟩
  · rintro ⟨h | ⟨h, h'⟩, h2⟩
    · exact ⟨h, h2⟩
    · have := h2.1.1; omega
theorem oB_step {e : List LEv} {i k : Nat} (hk : i < k) (hk2 : k < e.length) (a b : Nat) : (if a = i ∧ b = k then decide ((ev e i).1 = (ev e k).1) else oB e i k a b) = oB e i (k + 1) a b := by
  rw [Bool.eq_iff_iff]
  simp only [oB, ordF, List.length_nil, List.range_zero, List.any_nil, Bool.or_false]
  split
  · rename_i h
    obtain ⟨rfl, rfl⟩ := h
    simp only [Bool.and_eq_true, Bool.or_eq_true, decide_eq_true_eq]
    constructor
    · intro h; exact ⟨.inr ⟨trivial, by omega⟩, ⟨hk, hk2⟩, h⟩
    · rintro ⟨_, _, h⟩; exact h
  · rename_i h
    simp only [Bool.and_eq_true, Bool.or_eq_true, decide_eq_true_eq]
    constructor
    · rintro ⟨h1 | ⟨h1, h2⟩, h3⟩
      · exact ⟨.inl h1, h3⟩
      · exact ⟨.inr ⟨h1, by omega⟩, h3⟩
    · rintro ⟨h1 | ⟨h1, h2⟩, h3⟩
      · exact ⟨.inl h1, h3⟩
      · refine ⟨.inr ⟨h1, ?_⟩, h3⟩
        rcases Nat.lt_or_ge b k with h4 | h4
        · exact h4
        · exact absurd ⟨h1, by omega⟩ h
theorem oB_end {e : List LEv} {i k : Nat} (hk : e.length ≤ k) (a b : Nat) : oB e i k a b = oA e (i + 1) a b := by
  rw [Bool.eq_iff_iff]
  simp only [oA, oB, ordF, List.length_nil, List.range_zero, List.any_nil, Bool.or_false, Bool.and_eq_true, Bool.or_eq_true, decide_eq_true_eq]
  constructor
  · rintro ⟨h | ⟨h, _⟩, h2⟩
    · exact ⟨by omega, h2⟩
    · exact ⟨by omega, h2⟩
  · rintro ⟨h, h2⟩
    rcases Nat.lt_or_ge a i with h3 | h3
    · exact ⟨.inl h3, h2⟩
    · exact ⟨.inr ⟨by omega, by have := h2.1.2; omega⟩, h2⟩
theorem oA_end {e : List LEv} {fo : List Int} {i : Nat} (hk : e.length ≤ i) (a b : Nat) : oA e i a b = oC e fo 0 a b := by
  rw [Bool.eq_iff_iff]
  simp only [oA, oC, ordF, List.length_nil, List.range_zero, List.any_nil, Bool.or_false, Bool.and_eq_true, Bool.or_eq_true, decide_eq_true_eq]
  constructor
  · rintro ⟨h, h2⟩; exact h2
  · intro h; exact ⟨by have := h.1.2; have := h.1.1; omega, h⟩
theorem oCD (e : List LEv) (fo : List Int) (i a b : Nat) : oC e fo i a b = oD e fo i 0 a b := by simp [oD]
theorem oD_step {e : List LEv} {fo : List Int} {i k : Nat} (ai bk : Nat) (h1 : fo.getD i 0 = (ai : Int)) (h2 : fo.getD (i + 1 + k) 0 = (bk : Int)) (a b : Nat) :
    (if a = ai ∧ b = bk then true else oD e fo i k a b) = oD e fo i (k + 1) a b := by
  rw [Bool.eq_iff_iff]
  simp only [oD, fo2, h1]
  split
  · rename_i h
    obtain ⟨rfl, rfl⟩ := h
    simp only [Bool.or_eq_true, List.any_eq_true, List.mem_range, Bool.and_eq_true, decide_eq_true_eq, true_iff]
    exact .inr ⟨k, by omega, trivial, h2⟩
  · rename_i h
    simp only [Bool.or_eq_true, List.any_eq_true, List.mem_range, Bool.and_eq_true, decide_eq_true_eq]
    constructor
    · rintro (h3 | ⟨q, h3, h4⟩)
      · exact .inl h3
      · exact .inr ⟨q, by omega, h4⟩
    · rintro (h3 | ⟨q, h3, h4, h5⟩)
      · exact .inl h3
      · refine .inr ⟨q, ?_, h4, h5⟩
        rcases Nat.lt_or_ge q k with h6 | h6
        · exact h6
        · have : q = k := by omega
          subst this
          rw [h2] at h5
          exact absurd ⟨by omega, by omega⟩ h
theorem oD_end {e : List LEv} {fo : List Int} {i k : Nat} (hk : fo.length = i + 1 + k) (a b : Nat) : oD e fo i k a b = oC e fo (i + 1) a b := by
  rw [Bool.eq_iff_iff]
  simp only [oD, oC, Bool.or_eq_true, List.any_eq_true, List.mem_range, Bool.and_eq_true, decide_eq_true_eq]
  constructor
  · rintro ((h | ⟨p, h1, h2⟩) | ⟨q, h1, h2⟩)
    · exact .inl h
    · exact .inr ⟨p, by omega, h2⟩
    · exact .inr ⟨i, by omega, i + 1 + q, by omega, by omega, h2⟩
  · rintro (h | ⟨p, h1, q, h2, h3, h4⟩)
    · exact .inl (.inl h)
    · rcases Nat.lt_or_ge p i with h5 | h5
      · exact .inl (.inr ⟨p, h5, q, h2, h3, h4⟩)
      · have : p = i := by omega
        subst this
        exact .inr ⟨q - (p + 1), by omega, by rw [show p + 1 + (q - (p + 1)) = q from by omega]; exact h4⟩
theorem oC_end {e : List LEv} {fo : List Int} {i : Nat} (hk : i = fo.length) (a b : Nat) : oC e fo i a b = ordF e fo a b := by
  subst hk
  rw [Bool.eq_iff_iff]
  simp only [oC, ordF, fo2, List.length_nil, List.range_zero, List.any_nil, Bool.or_false, Bool.or_eq_true, List.any_eq_true, List.mem_range, Bool.and_eq_true, decide_eq_true_eq]
  constructor
  · rintro (h | ⟨p, h1, q, h2, h3, h4, h5⟩)
    · exact .inl h
    · exact .inr ⟨q, h2, p, h3, h4, h5⟩
  · rintro (h | ⟨q, h1, p, h2, h3, h4⟩)
    · exact .inl h
    · exact .inr ⟨p, by omega, q, h1, h2, h3, h4⟩

theorem isList_false {l : List Int} {e : List LEv} {is : LOp → Bool} (h : ¬ ((l.Nodup ∧ ∀ n ∈ l, 0 ≤ n ∧ n < e.length ∧ is (ev e n).2.1 = true) ∧ ∀ n < e.length, is (ev e n).2.1 = true → (n : Int) ∈ l)) : false = isList l e is := by
  unfold isList
  cases h1 : decide (l.Nodup ∧ ∀ n ∈ l, 0 ≤ n ∧ n < e.length ∧ is (ev e n).2.1 = true)
  · rfl
  · cases h2 : decide (∀ n < e.length, is (ev e n).2.1 = true → (n : Int) ∈ l)
    · rfl
    · exact absurd ⟨of_decide_eq_true h1, of_decide_eq_true h2⟩ h
theorem isList_true {l : List Int} {e : List LEv} {is : LOp → Bool} (h1 : l.Nodup) (h2 : ∀ n ∈ l, 0 ≤ n ∧ n < e.length ∧ is (ev e n).2.1 = true) (h3 : ∀ n < e.length, is (ev e n).2.1 = true → (n : Int) ∈ l) : true = isList l e is := by
  unfold isList
  rw [decide_eq_true ⟨h1, h2⟩, decide_eq_true h3]; rfl
end Sp
namespace Go.User
open Go.Lf Go.Proofs

theorem ok50 : FOk Try.prog 50 S50 := by
  refine FOk.intro (okA fns_nil) (stpP_ok (okA fns_nil)) Try.call50 Try.func50 (by kernel_rfl) (by kernel_rfl) L50 (vc50.mpr ?_)
  simp only [z1, z2, z3, z4, z5, z6, z7, z8, z9, z10, z11, z12, z13, z14, z15, z16, z17, z18, z19, z20, z21, z22, z23, z24, z25, z26, z27, z28, z29, z30, z31, z32, z33, z34, z35, z36, z37, z38, dFact]
  intro x hp hx
  have h6 : ∀ {n : Nat}, (n : Int) < (x.1.1.length : Int) → inN (n : Int) 6 := fun h => ⟨by omega, by have := hp.1; omega⟩
  refine ⟨⟨0, Nat.zero_le _, rfl, ?_⟩, ?_⟩
  · rw [Sp.mat_const]; exact Sp.mat_ext fun a b _ _ => Sp.oA_zero _ _ _
  intro i hi _
  refine ⟨fun hlt => ⟨inK_succ hlt hx.1.1, ⟨i + 1, ⟨by omega, by omega⟩, rfl, Sp.mat_ext fun a b _ _ => Sp.oAB _ _ _ _⟩, ?_⟩, fun hge => ⟨⟨0, Nat.zero_le _, rfl, Sp.mat_ext fun a b _ _ => Sp.oA_end (by omega) _ _⟩, ?_⟩⟩
  · intro k hk _
    refine ⟨fun hlt2 => ⟨⟨inN_of hlt, inN_of hlt2, h6 hlt, h6 hlt2⟩, inK_succ hlt2 hx.1.1, k + 1, ⟨by omega, by omega⟩, by omega, rfl, ?_⟩, fun hge2 => ⟨inK_succ hlt hx.1.1, i + 1, by omega, by omega, rfl, Sp.mat_ext fun a b _ _ => Sp.oB_end (by omega) _ _⟩⟩
    rw [Sp.mat_set (by have := (h6 hlt).2; omega) (by have := (h6 hlt2).2; omega)]
    exact Sp.mat_ext fun a b _ _ => Sp.oB_step hk.1 (by omega) a b
  · intro j hj _
    refine ⟨fun hlt => ?_, fun hge => ?_⟩
    · have hjl : j < x.1.2.2.2.1.length := by omega
      have hw : win ((j : Int) + 1) (x.1.2.2.2.1.length : Int) x.1.2.2.2.1 = x.1.2.2.2.1.drop (j + 1) := by
        unfold win
        rw [List.take_of_length_le (by omega)]
        congr 1
      rw [hw]
      have hlen : (x.1.2.2.2.1.drop (j + 1)).length = x.1.2.2.2.1.length - (j + 1) := List.length_drop
      refine ⟨inN_of hlt, ⟨inK_succ hlt hx.2.2.2.1, by omega, by omega, by omega⟩, ⟨0, by omega, rfl, Sp.mat_ext fun a b _ _ => Sp.oCD _ _ _ _ _⟩, ?_⟩
      intro k hk _
      refine ⟨fun hlt2 => ?_, fun hge2 => ⟨inK_succ hlt hx.2.2.2.1, j + 1, by omega, by omega, rfl, Sp.mat_ext fun a b _ _ => Sp.oD_end (by omega) _ _⟩⟩
      have hjk : j + 1 + k < x.1.2.2.2.1.length := by omega
      have e1 : (x.1.2.2.2.1.drop (j + 1)).getD k 0 = x.1.2.2.2.1.getD (j + 1 + k) 0 := by
        rw [Sp.getD_lt (by omega), Sp.getD_lt hjk, List.getElem_drop]
      rw [e1]
      have n1 : inN (x.1.2.2.2.1.getD j 0) 6 := by rw [Sp.getD_lt hjl]; exact hp.2 _ (List.getElem_mem hjl)
      have n2 : inN (x.1.2.2.2.1.getD (j + 1 + k) 0) 6 := by rw [Sp.getD_lt hjk]; exact hp.2 _ (List.getElem_mem hjk)
      refine ⟨inN_of hlt2, ⟨n1, n2⟩, inK_succ hlt2 (by omega), k + 1, by omega, by omega, rfl, ?_⟩
      rw [Sp.mat_set (by have := n1.2; omega) (by have := n2.2; omega)]
      exact Sp.mat_ext fun a b _ _ => Sp.oD_step _ _ (by have := n1.1; omega) (by have := n2.1; omega) a b
    · exact Sp.mat_ext fun a b _ _ => Sp.oC_end (by omega) a b

theorem ok45 : FOk Try.prog 45 S45 := by
  refine FOk.intro (okA fns_nil) (stpP_ok (okA fns_nil)) Try.call45 Try.func45 (by kernel_rfl) (by kernel_rfl) L45 (vc45.mpr ?_)
  simp only [z1, z2, z3, z4, z5, z6, z7, z8, z9, z10, z11, z12, z13, z14, z15, z16, z17, z18, z19, z20, z21, z22, z23, z24, z25, z26, z27, z28, z29, z30, z31, z32, z33, z34, z35, z36, z37, z38, dFact]
  intro x hp hx
  refine ⟨⟨by show (0 : Int) ≤ _; omega, by omega, by rw [maxNew_eq]; have := hp.1; omega⟩, ⟨(0, List.replicate x.2.1.length false), ⟨Nat.zero_le _, by simp, by simp, by simp, ?_⟩, rfl, rfl⟩, ?_⟩
  · intro n hn
    show (List.replicate x.2.1.length false).getD n false = true ↔ (n : Int) ∈ List.take 0 x.1
    rw [Sp.getD_lt (by simp; exact hn)]; simp
  intro i hi _
  obtain ⟨h1, h2, h3, h4, h5⟩ := hi
  refine ⟨fun hlt => ?_, fun hge => ?_⟩
  · have hil : i.1 < x.1.length := by omega
    have htk : List.take (i.1 + 1) x.1 = List.take i.1 x.1 ++ [x.1.getD i.1 0] := by rw [List.take_succ_eq_append_getElem hil, Sp.getD_lt hil]
    have hmem : x.1.getD i.1 0 ∈ x.1 := by rw [Sp.getD_lt hil]; exact List.getElem_mem hil
    have hev : ∀ (n : Int), x.2.1.getD n.toNat (0, (0, 0, 0, ()), 0, ()) = Sp.ev x.2.1 n := fun n => rfl
    have hnd : x.1.Nodup → x.1.getD i.1 0 ∉ List.take i.1 x.1 := by
      intro hn hm
      rw [Sp.getD_lt hil] at hm
      obtain ⟨j, hj, he⟩ := List.mem_take_iff_getElem.1 hm
      exact (List.pairwise_iff_getElem.1 hn) j i.1 (by omega) hil (by omega) he
    generalize hv : x.1.getD i.1 0 = v at *
    simp only [hev]
    have hin : ∀ {b : Bool}, (!(decide (v < 0) || decide ((x.2.1.length : Int) ≤ v) || b)) = true → inN v x.2.1.length := by
      intro b h
      simp only [Bool.not_eq_true', Bool.or_eq_false_iff, decide_eq_false_iff_not] at h
      exact ⟨by omega, by omega⟩
    refine ⟨inN_of hlt, ⟨fun h => ?_, fun h => ?_, fun h => hp.2 _⟩, fun h => ?_, fun h => ?_⟩
    · rw [h2]
      exact ⟨h.1, h.2⟩
    · exact ⟨h.1.1, h.1.2⟩
    · refine Sp.isList_false ?_
      rintro ⟨⟨g1, g2⟩, g3⟩
      obtain ⟨k1, k2, k3⟩ := g2 v hmem
      simp only [Bool.or_eq_true, decide_eq_true_eq, Bool.not_eq_true'] at h
      rcases h with ((h | h) | h) | h
      · omega
      · omega
      · have := (h5 v.toNat (by omega)).1 h
        rw [show ((v.toNat : Nat) : Int) = v from by omega] at this
        exact hnd g1 this
      · rw [k3] at h; cases h
    · obtain ⟨⟨⟨g1, g2⟩, g3⟩, g4⟩ := h
      have hvin : inN v x.2.1.length := ⟨by omega, by omega⟩
      have hnv : v ∉ List.take i.1 x.1 := by
        intro hm
        have := (h5 v.toNat (by omega)).2 (by rw [show ((v.toNat : Nat) : Int) = v from by omega]; exact hm)
        rw [g3] at this; cases this
      refine ⟨by rw [h2]; exact hvin, inK_succ hlt hx.1.1, (i.1 + 1, i.2.set v.toNat true), ⟨by show i.1 + 1 ≤ _; omega, by show (i.2.set _ _).length = _; simp [h2], ?_, ?_, ?_⟩, by show _ - (i.1 + 1) < _; omega, rfl, rfl⟩
      · show (List.take (i.1 + 1) x.1).Nodup
        rw [htk, List.nodup_append]
        refine ⟨h3, by simp, ?_⟩
        intro a ha b hb
        simp only [List.mem_singleton] at hb
        subst hb
        rintro rfl; exact hnv ha
      · intro n hn
        have hn : n ∈ List.take (i.1 + 1) x.1 := hn
        rw [htk] at hn
        rcases List.mem_append.1 hn with hn | hn
        · exact h4 n hn
        · simp only [List.mem_singleton] at hn
          subst hn
          exact ⟨by omega, by omega, g4⟩
      · intro n hn
        show (i.2.set v.toNat true).getD n false = true ↔ (n : Int) ∈ List.take (i.1 + 1) x.1
        rw [htk, List.mem_append, ← h5 n hn, Sp.getD_lt (by simp; omega), Sp.getD_lt (by omega), List.getElem_set]
        simp only [List.mem_singleton]
        by_cases hc : v.toNat = n
        · rw [if_pos hc]
          constructor
          · intro _; right; omega
          · intro _; rfl
        · rw [if_neg hc]
          constructor
          · exact .inl
          · rintro (h | h)
            · exact h
            · omega
  · have htk := Sp.take_all h1 hge
    rw [htk] at h3 h4 h5
    refine ⟨⟨0, ⟨Nat.zero_le _, fun n h => by omega⟩, rfl⟩, ?_⟩
    intro k hk _
    refine ⟨fun hlt => ⟨⟨inN_of hlt, hp.2 _, fun _ => by rw [h2]; exact inN_of hlt⟩, fun h => ?_, fun h => ⟨inK_succ hlt hx.2.1, k + 1, ⟨by omega, ?_⟩, by omega, rfl⟩⟩, fun hge => ?_⟩
    · refine Sp.isList_false ?_
      rintro ⟨_, g3⟩
      have := (h5 k (by omega)).2 (g3 k (by omega) h.1)
      rw [h.2] at this; cases this
    · intro n hn hf
      rcases Nat.lt_or_ge n k with hc | hc
      · exact hk.2 n hc hf
      · have : n = k := by omega
        subst this
        refine (h5 n (by omega)).1 ?_
        have hf' : x.2.2.1.fn ((x.2.1.getD n (0, (0, 0, 0, ()), 0, ())).2.1, ()) = true := hf
        rw [hf'] at h
        simpa using h
    · exact Sp.isList_true h3 h4 (fun n hn hf => hk.2 n (by omega) hf)
end Go.User
namespace Sp
theorem idx_range (l : List Int) (n : Int) : -1 ≤ idx l n ∧ idx l n < l.length := by
  unfold idx
  split
  · rename_i h
    have := List.idxOf_lt_length_iff.2 h
    omega
  · omega
theorem usual_X {o : LOp} (h : usual o = true) : 0 ≤ o.2.1 ∧ o.2.1 < 3 := by
  unfold usual at h
  split at h
  · simp only [Bool.and_eq_true, decide_eq_true_eq] at h; omega
  · split at h
    · simp only [Bool.and_eq_true, decide_eq_true_eq] at h; omega
    · split at h
      · simp only [Bool.and_eq_true, decide_eq_true_eq] at h; omega
      · cases h
structure RightP (t : Lit) (g : Gr) : Prop where
  valid : valid t = true
  lenE : g.1.length = (evs 0 t.1).length
  lenF : g.2.1.length = (evs 0 t.1).length
  lenM : g.2.2.1.length = 3
  src : ∀ n < (evs 0 t.1).length, src (evs 0 t.1) g n
  got : ∀ n < g.1.length, got g n
  mo : ∀ p < 3, isList (g.2.2.1.getD p []) (evs 0 t.1) (fun o => writes o && decide (o.2.1 = (p : Int))) = true
  fo : isList g.2.2.2.1 (evs 0 t.1) (fun o => decide (o.1 = 4)) = true
theorem right_iff (t : Lit) (g : Gr) : right t g = true ↔ RightP t g := by
  unfold right
  simp only [Bool.and_eq_true, decide_eq_true_eq, List.all_eq_true, List.mem_range]
  exact ⟨fun ⟨⟨⟨⟨⟨⟨⟨h1, h2⟩, h3⟩, h4⟩, h5⟩, h6⟩, h7⟩, h8⟩ => ⟨h1, h2, h3, h4, h5, h6, h7, h8⟩, fun ⟨h1, h2, h3, h4, h5, h6, h7, h8⟩ => ⟨⟨⟨⟨⟨⟨⟨h1, h2⟩, h3⟩, h4⟩, h5⟩, h6⟩, h7⟩, h8⟩⟩
theorem right_false {t : Lit} {g : Gr} (h : ¬ RightP t g) : false = right t g := by
  cases hr : right t g
  · rfl
  · exact absurd ((right_iff t g).1 hr) h
theorem valid_ev {t : Lit} (h : valid t = true) : (evs 0 t.1).length ≤ 6 ∧ ∀ x ∈ evs 0 t.1, usual x.2.1 = true := by
  unfold valid at h
  simp only [Bool.and_eq_true, decide_eq_true_eq, List.all_eq_true] at h
  exact ⟨h.1.2, h.2⟩
theorem ev_mem {e : List LEv} {n : Nat} (h : n < e.length) : ev e (n : Int) ∈ e := by
  unfold ev
  rw [Int.toNat_natCast, getD_lt h]
  exact List.getElem_mem h
theorem RightP.ok {t : Lit} {g : Gr} (h : RightP t g) {n : Nat} (hn : n < g.1.length) : Go.User.okAt g n := by
  have hn' : n < (evs 0 t.1).length := h.lenE ▸ hn
  have hu := (valid_ev h.valid).2 _ (ev_mem hn')
  have hs := (h.src n hn').2.1
  rw [← hs] at hu
  have := usual_X hu
  refine ⟨⟨by omega, by omega⟩, ⟨by omega, by have := h.lenF; omega⟩, by omega, by rw [h.lenM]; omega⟩
theorem isList_in {l : List Int} {e : List LEv} {is : LOp → Bool} (h : isList l e is = true) {n : Int} (hn : n ∈ l) : 0 ≤ n ∧ n < e.length ∧ is (ev e n).2.1 = true := by
  unfold isList at h
  simp only [Bool.and_eq_true, decide_eq_true_eq] at h
  exact h.1.2 n hn
theorem flowN_zero (g : Gr) (a b : Nat) : ordF g.1 g.2.2.2.1 a b = flowN g 0 a b := by simp [flowN]
theorem flowN_step {g : Gr} {i ai : Nat} (h : g.2.1.getD i 0 = (ai : Int)) (a b : Nat) : (if a = ai ∧ b = i then true else flowN g i a b) = flowN g (i + 1) a b := by
  rw [Bool.eq_iff_iff]
  simp only [flowN]
  split
  · rename_i hab
    obtain ⟨rfl, rfl⟩ := hab
    simp only [Bool.or_eq_true, Bool.and_eq_true, decide_eq_true_eq, true_iff]
    exact .inr ⟨by omega, h⟩
  · rename_i hab
    simp only [Bool.or_eq_true, Bool.and_eq_true, decide_eq_true_eq]
    constructor
    · rintro (h1 | ⟨h1, h2⟩)
      · exact .inl h1
      · exact .inr ⟨by omega, h2⟩
    · rintro (h1 | ⟨h1, h2⟩)
      · exact .inl h1
      · refine .inr ⟨?_, h2⟩
        rcases Nat.lt_or_ge b i with h3 | h3
        · exact h3
        · have : b = i := by omega
          subst this
          rw [h] at h2
          exact absurd ⟨by omega, rfl⟩ hab
theorem flowN_skip {g : Gr} {i : Nat} (h : g.2.1.getD i 0 < 0) (a b : Nat) : flowN g i a b = flowN g (i + 1) a b := by
  rw [Bool.eq_iff_iff]
  simp only [flowN, Bool.or_eq_true, Bool.and_eq_true, decide_eq_true_eq]
  constructor
  · rintro (h1 | ⟨h1, h2⟩)
    · exact .inl h1
    · exact .inr ⟨by omega, h2⟩
  · rintro (h1 | ⟨h1, h2⟩)
    · exact .inl h1
    · refine .inr ⟨?_, h2⟩
      rcases Nat.lt_or_ge b i with h3 | h3
      · exact h3
      · have : b = i := by omega
        subst this
        omega
theorem allowed_false {t : Lit} {g : Gr} (h : right t g = true → round (flow g) = false → ¬ ∀ a < g.1.length, okEv g a) : false = allowed t g := by
  unfold allowed
  cases h1 : right t g
  · rfl
  · cases h2 : round (flow g)
    · cases h3 : decide (∀ a < g.1.length, okEv g a)
      · rfl
      · exact absurd (of_decide_eq_true h3) (h h1 h2)
    · rfl
end Sp
namespace Go.User
open Go.Lf Go.Proofs

theorem ok31 : FOk Try.prog 31 S31 := by
  have hC : CtxOK Try.prog C31 := ctx_ok rfl rfl (fns_cons ok27 (fns_cons ok28 (fns_cons ok29 fns_nil))) ptrs_nil
  refine FOk.intro hC (stpP_ok hC) Try.call31 Try.func31 (by kernel_rfl) (by kernel_rfl) L31 (vc31.mpr ?_)
  simp only [z1, z2, z3, z4, z5, z6, z7, z8, z9, z10, z11, z12, z13, z14, z15, z16, z17, z18, z19, z20, z21, z22, z23, z24, z25, z26, z27, z28, z29, z30, z31, z32, z33, z34, z35, z36, z37, z38, dFact]
  intro x
  exact ⟨fun h => by rw [h]; rfl, fun h => by rw [h]; rfl⟩

theorem ok54 : FOk Try.prog 54 S54 := by
  have hC : CtxOK Try.prog C54 := okA (fns_cons ok53 (fns_cons ok42 (fns_cons ok43 fns_nil)))
  refine FOk.intro hC (stpP_ok hC) Try.call54 Try.func54 (by kernel_rfl) (by kernel_rfl) L54 (vc54.mpr ?_)
  simp only [z1, z2, z3, z4, z5, z6, z7, z8, z9, z10, z11, z12, z13, z14, z15, z16, z17, z18, z19, z20, z21, z22, z23, z24, z25, z26, z27, z28, z29, z30, z31, z32, z33, z34, z35, z36, z37, z38, dFact]
  intro x hp hx
  have key : ∀ low : Int, (low = if Sp.writes (Sp.ev x.1.1 x.2.1).2.1 = true then (Sp.plc x.1 x.2.1).1 else (Sp.plc x.1 x.2.1).2.1) →
      Sp.coh x.1 x.2.1 x.2.2.1 = (!(Sp.reads (Sp.ev x.1.1 x.2.2.1).2.1 && decide ((Sp.plc x.1 x.2.2.1).2.1 < low)) && !(Sp.writes (Sp.ev x.1.1 x.2.2.1).2.1 && decide ((Sp.plc x.1 x.2.2.1).1 ≤ low))) := by
    intro low h; rw [h]; rfl
  refine ⟨hp, ⟨hp.1.1, hp.2.1⟩, fun h => ?_, fun h => ?_⟩
  · have hl := key (Sp.plc x.1 x.2.1).1 (by rw [if_pos (show Sp.writes (Sp.ev x.1.1 x.2.1).2.1 = true from h)])
    refine ⟨fun h1 => ?_, fun h1 => ⟨fun h2 => ?_, fun h2 => ?_⟩⟩
    · rw [hl, show Sp.reads (Sp.ev x.1.1 x.2.2.1).2.1 = true from h1.1, decide_eq_true (show (Sp.plc x.1 x.2.2.1).2.1 < (Sp.plc x.1 x.2.1).1 from h1.2)]; rfl
    · rw [hl, show Sp.writes (Sp.ev x.1.1 x.2.2.1).2.1 = true from h2.1, decide_eq_true (show (Sp.plc x.1 x.2.2.1).1 ≤ (Sp.plc x.1 x.2.1).1 from h2.2)]; simp
    · rw [hl, show (Sp.reads (Sp.ev x.1.1 x.2.2.1).2.1 && decide ((Sp.plc x.1 x.2.2.1).2.1 < (Sp.plc x.1 x.2.1).1)) = false from h1, show (Sp.writes (Sp.ev x.1.1 x.2.2.1).2.1 && decide ((Sp.plc x.1 x.2.2.1).1 ≤ (Sp.plc x.1 x.2.1).1)) = false from h2]; rfl
  · have hl := key (Sp.plc x.1 x.2.1).2.1 (by rw [if_neg (by rw [show Sp.writes (Sp.ev x.1.1 x.2.1).2.1 = false from h]; simp)])
    refine ⟨fun h1 => ?_, fun h1 => ⟨fun h2 => ?_, fun h2 => ?_⟩⟩
    · rw [hl, show Sp.reads (Sp.ev x.1.1 x.2.2.1).2.1 = true from h1.1, decide_eq_true (show (Sp.plc x.1 x.2.2.1).2.1 < (Sp.plc x.1 x.2.1).2.1 from h1.2)]; rfl
    · rw [hl, show Sp.writes (Sp.ev x.1.1 x.2.2.1).2.1 = true from h2.1, decide_eq_true (show (Sp.plc x.1 x.2.2.1).1 ≤ (Sp.plc x.1 x.2.1).2.1 from h2.2)]; simp
    · rw [hl, show (Sp.reads (Sp.ev x.1.1 x.2.2.1).2.1 && decide ((Sp.plc x.1 x.2.2.1).2.1 < (Sp.plc x.1 x.2.1).2.1)) = false from h1, show (Sp.writes (Sp.ev x.1.1 x.2.2.1).2.1 && decide ((Sp.plc x.1 x.2.2.1).1 ≤ (Sp.plc x.1 x.2.1).2.1)) = false from h2]; rfl

theorem ok16 : FOk Try.prog 16 S16 := by
  have hC : CtxOK Try.prog C16 := okA (fns_cons ok41 (fns_cons ok21 (fns_cons ok42 (fns_cons ok43 (fns_cons ok44 (fns_cons ok45 (fns_cons ok46 (fns_cons ok47 fns_nil))))))))
  refine FOk.intro hC (stpP_ok hC) Try.call16 Try.func16 (by kernel_rfl) (by kernel_rfl) L16 (vc16.mpr ?_)
  simp only [z1, z2, z3, z4, z5, z6, z7, z8, z9, z10, z11, z12, z13, z14, z15, z16, z17, z18, z19, z20, z21, z22, z23, z24, z25, z26, z27, z28, z29, z30, z31, z32, z33, z34, z35, z36, z37, z38, dFact]
  intro x hp hx
  refine ⟨hp, hp, fun h => ?_, fun h => ?_⟩
  · refine Sp.right_false fun hr => ?_
    simp only [hr.valid, hr.lenE, hr.lenF, hr.lenM] at h
    simp at h
  obtain ⟨⟨⟨hv, hE⟩, hF⟩, hM⟩ := h
  have hE : x.2.1.1.length = (Sp.evs 0 x.1.1).length := by omega
  have hF : x.2.1.2.1.length = (Sp.evs 0 x.1.1).length := by omega
  have hM : x.2.1.2.2.1.length = 3 := by omega
  have he6 := (Sp.valid_ev hv).1
  refine ⟨⟨0, ⟨Nat.zero_le _, fun n hn => by omega⟩, rfl⟩, ?_⟩
  intro i hi _
  refine ⟨fun hlt => ?_, fun hge => ?_⟩
  · have hkk : inK .i64 ((i : Int) + 1) := inK_succ hlt (by rw [lim_eq]; omega)
    have h1 : inN (i : Int) (Sp.evs 0 x.1.1).length := inN_of hlt
    refine ⟨h1, by rw [hE]; exact h1, by rw [hF]; exact h1, fun h => ?_, fun h => ?_⟩
    · refine Sp.right_false fun hr => ?_
      have hs := hr.src i (by omega)
      obtain ⟨s1, s2, s3, s4, s5⟩ := hs
      have s1 : (x.2.1.1.getD i (0, (0, 0, 0, ()), 0, ())).1 = ((Sp.evs 0 x.1.1).getD i (0, (0, 0, 0, ()), 0, ())).1 := s1
      have s2 : (x.2.1.1.getD i (0, (0, 0, 0, ()), 0, ())).2.1 = ((Sp.evs 0 x.1.1).getD i (0, (0, 0, 0, ()), 0, ())).2.1 := s2
      rw [s1, s2] at h
      simp only [decide_true, Bool.and_true, Bool.not_true, Bool.false_or, Bool.or_eq_true, decide_eq_true_eq] at h
      omega
    · obtain ⟨⟨⟨a1, a2, a3, a4⟩, b1⟩, b2⟩ := h
      refine ⟨⟨fun h => ⟨h.1, b2⟩, fun h => ⟨h.1, b2⟩⟩, fun h => ?_, fun h => ⟨hkk, i + 1, ⟨by omega, fun n hn => ?_⟩, by omega, rfl⟩⟩
      · refine Sp.right_false fun hr => ?_
        obtain ⟨s1, s2, s3, s4, s5⟩ := hr.src i (by omega)
        obtain ⟨c1, c2, c3⟩ := s5 h.1
        have h2 := h.2
        have c1 : Sp.reads ((Sp.evs 0 x.1.1).getD i (0, (0, 0, 0, ()), 0, ())).2.1 = true := c1
        have c2 : Sp.writes ((Sp.evs 0 x.1.1).getD (x.2.1.2.1.getD i 0).toNat (0, (0, 0, 0, ()), 0, ())).2.1 = true := c2
        have c3 : ((Sp.evs 0 x.1.1).getD (x.2.1.2.1.getD i 0).toNat (0, (0, 0, 0, ()), 0, ())).2.1.2.1 = ((Sp.evs 0 x.1.1).getD i (0, (0, 0, 0, ()), 0, ())).2.1.2.1 := c3
        rw [c1, c2, c3] at h2
        simp at h2
      · rcases Nat.lt_or_ge n i with hc | hc
        · exact hi.2 n hc
        · have : n = i := by omega
          subst this
          refine ⟨a1, ?_, b1, b2, fun h0 => ?_⟩
          · show (x.2.1.1.getD n (0, (0, 0, 0, ()), 0, ())).2.1 = ((Sp.evs 0 x.1.1).getD n (0, (0, 0, 0, ()), 0, ())).2.1
            exact Prod.ext a2 (Prod.ext a3 (Prod.ext a4 rfl))
          · rw [decide_eq_true h0] at h
            simp only [Bool.true_and, Bool.or_eq_false_iff, Bool.not_eq_false'] at h
            refine ⟨h.1.1, h.1.2, ?_⟩
            have := h.2
            simp only [bne_eq_false_iff_eq] at this
            exact this
  · have hsrc : ∀ n < (Sp.evs 0 x.1.1).length, Sp.src (Sp.evs 0 x.1.1) x.2.1 n := fun n hn => hi.2 n (by omega)
    refine ⟨⟨0, ⟨Nat.zero_le _, fun n hn => by omega⟩, rfl⟩, ?_⟩
    intro k hk _
    refine ⟨fun hlt => ?_, fun hge2 => ?_⟩
    · have hkk : inK .i64 ((k : Int) + 1) := inK_succ hlt (by rw [lim_eq]; omega)
      have hkl : k < x.2.1.1.length := by omega
      have hstep : Sp.got x.2.1 k → ∃ (y : Nat), (y ≤ x.2.1.1.length ∧ ∀ (n : Nat), n < y → Sp.got x.2.1 n) ∧ x.2.1.1.length - y < x.2.1.1.length - k ∧ (k : Int) + 1 = (y : Int) := by
        intro hg
        refine ⟨k + 1, ⟨by omega, fun n hn => ?_⟩, by omega, rfl⟩
        rcases Nat.lt_or_ge n k with hc | hc
        · exact hk.2 n hc
        · rw [show n = k from by omega]; exact hg
      refine ⟨inN_of hlt, fun hr => ⟨⟨⟨by omega, by omega⟩, ?_⟩, fun h => ?_, fun h => ⟨hkk, hstep ?_⟩⟩, fun hr => ⟨fun h => ?_, fun h => ⟨hkk, hstep ?_⟩⟩⟩
      · have := (hsrc k (by omega)).2.2.2.1
        show x.2.1.2.1.getD k 0 < (x.2.1.1.length : Int)
        omega
      · refine Sp.right_false fun hr' => ?_
        have hg := hr'.got k hkl
        unfold Sp.got at hg
        rw [if_pos (show Sp.reads (Sp.ev x.2.1.1 k).2.1 = true from hr)] at hg
        exact h hg
      · unfold Sp.got
        rw [if_pos (show Sp.reads (Sp.ev x.2.1.1 k).2.1 = true from hr)]
        exact h
      · refine Sp.right_false fun hr' => ?_
        have hg := hr'.got k hkl
        unfold Sp.got at hg
        rw [if_neg (by rw [show Sp.reads (Sp.ev x.2.1.1 k).2.1 = false from hr]; simp)] at hg
        exact h hg
      · unfold Sp.got
        rw [if_neg (by rw [show Sp.reads (Sp.ev x.2.1.1 k).2.1 = false from hr]; simp)]
        exact h
    · have hgot : ∀ n < x.2.1.1.length, Sp.got x.2.1 n := fun n hn => hk.2 n (by omega)
      refine ⟨⟨0, ⟨Nat.zero_le _, fun n hn => by omega⟩, rfl⟩, ?_⟩
      intro p hpp _
      refine ⟨fun hlt => ⟨⟨⟨by omega, by rw [hM]; omega⟩, hp⟩, fun h => ?_, fun h => ⟨inK_of (by omega) (by omega), p + 1, ⟨by omega, fun q hq => ?_⟩, by omega, rfl⟩⟩, fun hge3 => ⟨hp, ?_⟩⟩
      · refine Sp.right_false fun hr => ?_
        have := hr.mo p (by omega)
        rw [h] at this; cases this
      · rcases Nat.lt_or_ge q p with hc | hc
        · exact hpp.2 q hc
        · rw [show q = p from by omega]; exact h
      · have hall : (Sp.isList x.2.1.2.2.2.1 (Sp.evs 0 x.1.1) (fun o => decide (o.1 = 4)) = true) ↔ Sp.right x.1 x.2.1 = true := by
          rw [Sp.right_iff]
          exact ⟨fun h => ⟨hv, hE, hF, hM, hsrc, hgot, fun q hq => hpp.2 q (by omega), h⟩, fun h => h.fo⟩
        exact Bool.eq_iff_iff.2 hall

theorem ok18 : FOk Try.prog 18 S18 := by
  have hC : CtxOK Try.prog C18 := ctx_ok rfl rfl (fns_cons ok16 (fns_cons ok50 (fns_cons ok52 (fns_cons ok53 (fns_cons ok54 fns_nil))))) (ptrs_cons pk51 ptrs_nil)
  refine FOk.intro hC (stpP_ok hC) Try.call18 Try.func18 (by kernel_rfl) (by kernel_rfl) L18 (vc18.mpr ?_)
  simp only [z1, z2, z3, z4, z5, z6, z7, z8, z9, z10, z11, z12, z13, z14, z15, z16, z17, z18, z19, z20, z21, z22, z23, z24, z25, z26, z27, z28, z29, z30, z31, z32, z33, z34, z35, z36, z37, z38, dFact]
  intro x hp hx
  refine ⟨hp, fun h => ?_, fun hr => ?_⟩
  · exact Sp.allowed_false fun h1 => by rw [h] at h1; cases h1
  have hR := (Sp.right_iff _ _).1 hr
  have he6 := (Sp.valid_ev hR.valid).1
  have hE := hR.lenE
  have hF := hR.lenF
  have hM := hR.lenM
  have hok : ∀ {n : Nat}, (n : Int) < (x.2.1.1.length : Int) → okAt x.2.1 n := fun h => hR.ok (by omega)
  have h6 : ∀ {n : Nat}, (n : Int) < (x.2.1.1.length : Int) → inN (n : Int) 6 := fun h => ⟨by omega, by omega⟩
  have hKs : ∀ {n : Nat}, (n : Int) < (x.2.1.1.length : Int) → inK .i64 ((n : Int) + 1) := fun h => inK_succ h (by rw [lim_eq]; omega)
  refine ⟨⟨by omega, fun n hn => ?_⟩, ⟨0, Nat.zero_le _, rfl, Sp.mat_ext fun a b _ _ => Sp.flowN_zero _ _ _⟩, ?_⟩
  · have := Sp.isList_in hR.fo hn
    exact ⟨this.1, by omega⟩
  intro i hi _
  refine ⟨fun hlt => ?_, fun hge => ?_⟩
  · have hil : i < (Sp.evs 0 x.1.1).length := by omega
    have hs := hR.src i hil
    refine ⟨inN_of hlt, fun h0 => ⟨⟨⟨h0, by have := hs.2.2.2.1; show x.2.1.2.1.getD i 0 < 6; omega⟩, ⟨by omega, by omega⟩⟩, inK_succ hlt hx.2.2.1.1, i + 1, by omega, by omega, rfl, ?_⟩, fun h0 => ⟨inK_succ hlt hx.2.2.1.1, i + 1, by omega, by omega, rfl, Sp.mat_ext fun a b _ _ => Sp.flowN_skip h0 a b⟩⟩
    have h7 := hs.2.2.2.1
    rw [Sp.mat_set (by omega) (by omega)]
    exact Sp.mat_ext fun a b _ _ => Sp.flowN_step (by omega) a b
  have hflow : Sp.close (Sp.mat (Sp.flowN x.2.1 i)) = Sp.flow x.2.1 := by unfold Sp.flow; rw [show i = x.2.1.2.1.length from by omega]
  rw [hflow]
  refine ⟨fun h => ?_, fun hround => ⟨⟨0, ⟨Nat.zero_le _, fun a ha => by omega⟩, rfl⟩, ?_⟩⟩
  · exact Sp.allowed_false fun _ h1 => by rw [h] at h1; cases h1
  intro a ha _
  refine ⟨fun hlt => ?_, fun hge2 => ?_⟩
  · have hal : a < x.2.1.1.length := by omega
    have hstep : Sp.okEv x.2.1 a → ∃ (y : Nat), (y ≤ x.2.1.1.length ∧ ∀ (n : Nat), n < y → Sp.okEv x.2.1 n) ∧ x.2.1.1.length - y < x.2.1.1.length - a ∧ (a : Int) + 1 = (y : Int) := by
      intro hg
      refine ⟨a + 1, ⟨by omega, fun n hn => ?_⟩, by omega, rfl⟩
      rcases Nat.lt_or_ge n a with hc | hc
      · exact ha.2 n hc
      · rw [show n = a from by omega]; exact hg
    refine ⟨inN_of hlt, fun h4 => ⟨hKs hlt, hstep (.inl h4)⟩, fun h4 => ⟨hok hlt, fun _ => ?_, fun h => ?_, fun hadd => ?_⟩⟩
    · have := Sp.idx_range (x.2.1.2.2.1.getD (Sp.ev x.2.1.1 a).2.1.2.1.toNat []) a
      have hX := (hok hlt).2.2
      have hl : (x.2.1.2.2.1.getD (Sp.ev x.2.1.1 a).2.1.2.1.toNat []).length ≤ lim := by
        rw [Sp.getD_lt (by have := hX.1; have := hX.2; omega)]
        exact (hx.2.2.2.1.2 _ (List.getElem_mem _)).1
      rw [lim_eq] at hl
      exact inK_of (by omega) (by omega)
    · refine Sp.allowed_false fun _ _ hall => ?_
      rcases hall a hal with h1 | ⟨h1, _⟩
      · exact h4 h1
      · unfold Sp.badAdd at h1
        rw [decide_eq_true (show (Sp.ev x.2.1.1 a).2.1.1 = 3 from h.1), decide_eq_false (show ¬ (Sp.plc x.2.1 a).2.1 = (Sp.plc x.2.1 a).1 - 1 from h.2)] at h1
        cases h1
    · have hbad : Sp.badAdd x.2.1 a = false := by
        unfold Sp.badAdd
        rw [← hadd]
        rfl
      refine ⟨⟨0, ⟨Nat.zero_le _, fun b hb => by omega⟩, rfl⟩, ?_⟩
      intro b hb _
      refine ⟨fun hlt2 => ⟨inN_of hlt2, ⟨h6 hlt, h6 hlt2, fun _ => ⟨hok hlt, hok hlt2⟩⟩, fun h => ?_, fun h => ⟨hKs hlt2, b + 1, ⟨by omega, fun n hn => ?_⟩, by omega, rfl⟩⟩, fun hge3 => ⟨hKs hlt, hstep (.inr ⟨hbad, fun b' hb' => hb.2 b' (by omega)⟩)⟩⟩
      · refine Sp.allowed_false fun _ _ hall => ?_
        rcases hall a hal with h1 | ⟨_, h1⟩
        · exact h4 h1
        · have := h1 b (by omega)
          unfold Sp.badPair at this
          rw [show Sp.get2 (Sp.before x.2.1) a b = true from h.1.1.1, decide_eq_false (show ¬ (Sp.ev x.2.1.1 b).2.1.1 = 4 from h.1.1.2), decide_eq_true (show (Sp.ev x.2.1.1 a).2.1.2.1 = (Sp.ev x.2.1.1 b).2.1.2.1 from h.1.2), h.2] at this
          cases this
      · rcases Nat.lt_or_ge n b with hc | hc
        · exact hb.2 n hc
        · rw [show n = b from by omega]
          unfold Sp.badPair
          rw [← h]
          rfl
  · unfold Sp.allowed
    rw [hr, hround, decide_eq_true (fun a' ha' => ha.2 a' (by omega))]; rfl
end Go.User
namespace Sp
theorem tmod_toNat_lt (a : Int) {n : Nat} (h : 0 < n) : (a.tmod (n : Int)).toNat < n := by
  have := Int.tmod_lt_of_pos a (show (0 : Int) < (n : Int) by omega)
  omega
theorem shuf_facts : ∀ (n : Nat) (l b : List Int) (i : Int), l.length = n → (shuf n l b i).length = n ∧ ∀ v, v ∈ shuf n l b i ↔ v ∈ l
  | 0, l, b, i, h => by
    have : l = [] := List.length_eq_zero_iff.1 h
    subst this
    simp [shuf]
  | n + 1, l, b, i, h => by
    have hk := tmod_toNat_lt (byteAt b i) (n := l.length) (by omega)
    generalize hkk : ((byteAt b i).tmod (l.length : Int)).toNat = k at hk
    obtain ⟨h1, h2⟩ := shuf_facts n (l.eraseIdx k) b (i + 1) (by rw [List.length_eraseIdx, if_pos hk]; omega)
    simp only [shuf, hkk]
    refine ⟨by simp [h1], fun v => ?_⟩
    rw [List.mem_cons, h2, getD_lt hk, List.eraseIdx_eq_take_drop_succ, List.mem_append]
    have hs : l = l.take k ++ l[k] :: l.drop (k + 1) := by rw [← List.drop_eq_getElem_cons hk, List.take_append_drop]
    constructor
    · rintro (h | h | h)
      · rw [h]; exact List.getElem_mem hk
      · exact List.mem_of_mem_take h
      · exact List.mem_of_mem_drop h
    · intro hv
      rw [hs, List.mem_append, List.mem_cons] at hv
      rcases hv with h | h | h
      · exact .inr (.inl h)
      · exact .inl h
      · exact .inr (.inr h)
theorem shuffled_len (l b : List Int) (i : Int) : (shuffled l b i).length = l.length := (shuf_facts _ l b i rfl).1
theorem mem_shuffled {l b : List Int} {i v : Int} : v ∈ shuffled l b i ↔ v ∈ l := (shuf_facts _ l b i rfl).2 v
theorem mem_sel {p : Nat → Bool} {n : Nat} {v : Int} : v ∈ sel p n ↔ ∃ i < n, p i = true ∧ v = (i : Int) := by
  unfold sel
  simp only [List.mem_map, List.mem_filter, List.mem_range]
  constructor
  · rintro ⟨i, ⟨h1, h2⟩, rfl⟩; exact ⟨i, h1, h2, rfl⟩
  · rintro ⟨i, h1, h2, rfl⟩; exact ⟨i, ⟨h1, h2⟩, rfl⟩
theorem wr_len (e : List LEv) (x : Int) : (wr e x).length ≤ e.length := sel_len _ _
theorem fen_len (e : List LEv) : (fen e).length ≤ e.length := sel_len _ _
theorem mem_wr {e : List LEv} {x v : Int} : v ∈ wr e x ↔ ∃ i < e.length, (writes (ev e i).2.1 = true ∧ (ev e i).2.1.2.1 = x) ∧ v = (i : Int) := by
  unfold wr
  rw [mem_sel]
  simp only [Bool.and_eq_true, decide_eq_true_eq]
theorem mem_fen {e : List LEv} {v : Int} : v ∈ fen e ↔ ∃ i < e.length, (ev e i).2.1.1 = 4 ∧ v = (i : Int) := by
  unfold fen
  rw [mem_sel]
  simp only [decide_eq_true_eq]
theorem moN_len (e : List LEv) (b : List Int) : ∀ n, (moN e b n).1.length = n
  | 0 => rfl
  | n + 1 => by simp [moN, moN_len e b n]
theorem moN_idx (e : List LEv) (b : List Int) : ∀ n, 0 ≤ (moN e b n).2 ∧ (moN e b n).2 ≤ n * (e.length : Int)
  | 0 => by simp [moN]
  | n + 1 => by
    have h := moN_idx e b n
    have := wr_len e n
    simp only [moN]
    refine ⟨by omega, ?_⟩
    have e1 : ((n + 1 : Nat) : Int) * (e.length : Int) = n * (e.length : Int) + e.length := by
      rw [Int.natCast_add, Int.add_mul]; simp
    omega
theorem moN_get (e : List LEv) (b : List Int) : ∀ n p, p < n → (moN e b n).1.getD p [] = shuffled (wr e p) b (moN e b p).2
  | n + 1, p, h => by
    simp only [moN]
    have hl := moN_len e b n
    rcases Nat.lt_or_ge p n with h1 | h1
    · rw [List.getD_eq_getElem?_getD, List.getElem?_append_left (by omega), ← List.getD_eq_getElem?_getD]
      exact moN_get e b n p h1
    · have : p = n := by omega
      subst this
      rw [List.getD_eq_getElem?_getD, List.getElem?_append_right (by omega)]
      simp [hl]
theorem mem_mo3 {e : List LEv} {b : List Int} {p : Nat} (h : p < 3) {v : Int} : v ∈ (mo3 e b).getD p [] ↔ v ∈ wr e p := by
  unfold mo3; rw [moN_get e b 3 p h, mem_shuffled]
theorem mo3_len_le (e : List LEv) (b : List Int) (p : Nat) : ((mo3 e b).getD p []).length ≤ e.length := by
  unfold mo3
  rcases Nat.lt_or_ge p 3 with h | h
  · rw [moN_get e b 3 p h, shuffled_len]; exact wr_len _ _
  · rw [List.getD_eq_getElem?_getD, List.getElem?_eq_none (by rw [moN_len]; omega)]; simp
theorem idx_mem {l : List Int} {n : Int} (h : n ∈ l) : 0 ≤ idx l n ∧ idx l n < l.length := by
  unfold idx
  rw [if_pos h]
  have := List.idxOf_lt_length_iff.2 h
  omega
theorem idx_cons {l : List Int} {n : Int} (h : n ∈ l) (hn : 0 ≤ n) : 1 ≤ idx ([-1] ++ l) n ∧ idx ([-1] ++ l) n ≤ l.length := by
  have hm : n ∈ [-1] ++ l := List.mem_append.2 (.inr h)
  unfold idx
  rw [if_pos hm]
  have h1 := List.idxOf_lt_length_iff.2 h
  have h2 : ([-1] ++ l).idxOf n = l.idxOf n + 1 := by
    show ((-1) :: l).idxOf n = _
    rw [List.idxOf_cons]
    have : ((-1 : Int) == n) = false := by simp; omega
    rw [this]; rfl
  rw [h2]; omega
theorem pick_mem (e : List LEv) (mo : List (List Int)) (b : List Int) (i : Int) (n : Nat) : pickF e mo b i n = -1 ∨ pickF e mo b i n ∈ mo.getD (ev e n).2.1.2.1.toNat [] := by
  unfold pickF
  generalize mo.getD (ev e n).2.1.2.1.toNat [] = l
  have hmem : ∀ k, k < ([-1] ++ l).length → ([-1] ++ l).getD k 0 = -1 ∨ ([-1] ++ l).getD k 0 ∈ l := by
    intro k hk
    rw [getD_lt hk]
    have := List.getElem_mem hk
    rw [List.mem_append] at this
    rcases this with h | h
    · left; simpa using h
    · exact .inr h
  split
  · refine hmem _ ?_
    have := idx_range ([-1] ++ l) n
    simp only [List.length_append, List.length_singleton] at *
    omega
  · exact hmem _ (tmod_toNat_lt _ (by simp))
theorem fromN_len (e : List LEv) (b : List Int) : ∀ n, (fromN e b n).1.length = n
  | 0 => rfl
  | n + 1 => by
    simp only [fromN]
    split <;> simp [fromN_len e b n]
theorem fromN_idx (e : List LEv) (b : List Int) : ∀ n, i4 e b ≤ (fromN e b n).2 ∧ (fromN e b n).2 ≤ i4 e b + n
  | 0 => by simp [fromN]
  | n + 1 => by
    have := fromN_idx e b n
    simp only [fromN]
    split
    · simp only; omega
    · simp only; omega
theorem fromN_mem {e : List LEv} {b : List Int} (hX : ∀ x ∈ e, Go.Lf.inN x.2.1.2.1 3) : ∀ n, n ≤ e.length → ∀ v ∈ (fromN e b n).1, -1 ≤ v ∧ v < e.length
  | 0, _, v, h => by simp [fromN] at h
  | n + 1, hn, v, h => by
    have ih := fromN_mem (b := b) hX n (by omega)
    have hev := hX _ (ev_mem (e := e) (n := n) (by omega))
    simp only [fromN] at h
    split at h
    · simp only [List.mem_append, List.mem_singleton] at h
      rcases h with h | rfl
      · exact ih v h
      · rcases pick_mem e (mo3 e b) b (fromN e b n).2 n with h | h
        · rw [h]; omega
        · rw [mem_mo3 (by have := hev.1; have := hev.2; omega), mem_wr] at h
          obtain ⟨i, h1, _, h3⟩ := h
          rw [h3]; omega
    · simp only [List.mem_append, List.mem_singleton] at h
      rcases h with h | rfl
      · exact ih v h
      · omega
theorem setR_len (e : List LEv) (n : Nat) (v : Int) : (setR e n v).length = e.length := by simp [setR]
theorem rnd_len (frm : List Int) (e : List LEv) (n : Nat) : (rnd frm e n).length = e.length := by
  unfold rnd; split
  · exact setR_len _ _ _
  · rfl
theorem rndN_zero (frm : List Int) (e : List LEv) : rndN frm e 0 = e := rfl
theorem rndN_succ (frm : List Int) (e : List LEv) (n : Nat) : rndN frm e (n + 1) = rnd frm (rndN frm e n) n := Go.User.fold_succ _ _ _
theorem rndN_len (frm : List Int) (e : List LEv) : ∀ n, (rndN frm e n).length = e.length
  | 0 => rfl
  | n + 1 => by rw [rndN_succ, rnd_len, rndN_len frm e n]
theorem rounds_zero (frm : List Int) (e : List LEv) : rounds frm e 0 = e := rfl
theorem rounds_succ (frm : List Int) (e : List LEv) (n : Nat) : rounds frm e (n + 1) = rndN frm (rounds frm e n) (rounds frm e n).length := Go.User.fold_succ (fun e _ => rndN frm e e.length) _ _
theorem rounds_len (frm : List Int) (e : List LEv) : ∀ n, (rounds frm e n).length = e.length
  | 0 => rfl
  | n + 1 => by rw [rounds_succ, rndN_len, rounds_len frm e n]
theorem stG_len (frm : List Int) (e : List LEv) (n : Nat) : (stG frm e n).length = e.length := by
  unfold stG; split <;> simp [setR_len]
theorem stGN_zero (frm : List Int) (e : List LEv) : stGN frm e 0 = e := rfl
theorem stGN_succ (frm : List Int) (e : List LEv) (n : Nat) : stGN frm e (n + 1) = stG frm (stGN frm e n) n := Go.User.fold_succ _ _ _
theorem stGN_len (frm : List Int) (e : List LEv) : ∀ n, (stGN frm e n).length = e.length
  | 0 => rfl
  | n + 1 => by rw [stGN_succ, stG_len, stGN_len frm e n]
theorem stGR_zero (frm : List Int) (e : List LEv) : stGR frm e 0 = e := rfl
theorem stGR_succ (frm : List Int) (e : List LEv) (n : Nat) : stGR frm e (n + 1) = stGN frm (stGR frm e n) (stGR frm e n).length := Go.User.fold_succ (fun e _ => stGN frm e e.length) _ _
theorem stGR_len (frm : List Int) (e : List LEv) : ∀ n, (stGR frm e n).length = e.length
  | 0 => rfl
  | n + 1 => by rw [stGR_succ, stGN_len, stGR_len frm e n]
theorem set_last {l : List Int} {n : Nat} (h : l.length = n) (x v : Int) : (l ++ [x]).set n v = l ++ [v] := by
  subst h
  rw [List.set_append_right _ _ (Nat.le_refl _)]; simp
end Sp
namespace Sp
theorem fromN_no {e : List LEv} {b : List Int} {n : Nat} (h : reads (ev e n).2.1 = false) : fromN e b (n + 1) = ((fromN e b n).1 ++ [-1], (fromN e b n).2) := by
  simp only [fromN]; rw [if_neg (by rw [h]; simp)]
theorem fromN_yes {e : List LEv} {b : List Int} {n : Nat} (h : reads (ev e n).2.1 = true) : fromN e b (n + 1) = ((fromN e b n).1 ++ [pickF e (mo3 e b) b (fromN e b n).2 n], (fromN e b n).2 + 1) := by
  simp only [fromN]; rw [if_pos h]
end Sp
namespace Go.User
open Go.Lf Go.Proofs

theorem ok12 : FOk Try.prog 12 S12 := by
  have hC : CtxOK Try.prog C12 := ctx_ok rfl rfl (fns_cons ok33 (fns_cons ok34 (fns_cons ok35 (fns_cons ok36 (fns_cons ok37 (fns_cons ok38 (fns_cons ok39 (fns_cons ok40 fns_nil)))))))) ptrs_nil
  refine FOk.intro hC (stpP_ok hC) Try.call12 Try.func12 (by kernel_rfl) (by kernel_rfl) L12 (vc12.mpr ?_)
  simp only [z1, z2, z3, z4, z5, z6, z7, z8, z9, z10, z11, z12, z13, z14, z15, z16, z17, z18, z19, z20, z21, z22, z23, z24, z25, z26, z27, z28, z29, z30, z31, z32, z33, z34, z35, z36, z37, z38, dFact]
  intro x hp hx
  have hgr : Sp.graph x.1 x.2.1 = (Sp.rounds (Sp.fromN (Sp.evs 0 x.1.1) x.2.1 (Sp.evs 0 x.1.1).length).1 (Sp.evs 0 x.1.1) 8, (Sp.fromN (Sp.evs 0 x.1.1) x.2.1 (Sp.evs 0 x.1.1).length).1, Sp.mo3 (Sp.evs 0 x.1.1) x.2.1, Sp.foOf (Sp.evs 0 x.1.1) x.2.1, ()) := rfl
  obtain ⟨h100, hX⟩ := hp
  have hb := hx.2.2
  clear hx
  generalize hE : Sp.evs 0 x.1.1 = E at *
  generalize x.2.1 = b at *
  have hm3 : (Sp.mo3 E b).length = 3 := Sp.moN_len E b 3
  refine ⟨by omega, ⟨0, Nat.zero_le _, rfl, rfl, rfl⟩, ?_⟩
  intro i hi _
  have hmi := Sp.moN_idx E b i
  have hmul : (i : Int) * (E.length : Int) ≤ 3 * 100 := Int.mul_le_mul (by omega) (by omega) (by omega) (by omega)
  refine ⟨fun hlt => ⟨by omega, ⟨⟨by have := Sp.wr_len E i; omega, hmi.1, by show (Sp.moN E b i).2 ≤ (1000 : Int); omega⟩, by rw [Sp.moN_len, maxNew_eq]; omega⟩, ?_, inK_of (by omega) (by omega), i + 1, by omega, by omega, rfl, rfl, rfl⟩, fun hge => ?_⟩
  · have := Sp.wr_len E i
    exact inK_of (by omega) (by omega)
  have hi3 : i = 3 := by omega
  subst hi3
  have hfl3 := Sp.fen_len E
  have hfo : (Sp.shuffled (Sp.fen E) b (Sp.moN E b 3).2).length = (Sp.fen E).length := Sp.shuffled_len _ _ _
  have hi4 : Sp.i4 E b = (Sp.moN E b 3).2 + ((Sp.fen E).length : Int) := by
    unfold Sp.i4 Sp.foOf; rw [hfo]
  refine ⟨⟨by omega, by omega, hmi.1, by show (Sp.moN E b 3).2 ≤ (1000 : Int); omega⟩, by rw [hfo]; exact inK_of (by omega) (by omega), ⟨0, Nat.zero_le _, rfl, rfl, rfl⟩, ?_⟩
  intro n hn _
  have hfl := Sp.fromN_len E b n
  have hfi := Sp.fromN_idx E b n
  refine ⟨fun hlt => ⟨by rw [hfl, maxNew_eq]; omega, inN_of hlt, fun hr => ⟨inK_of (by omega) (by omega), n + 1, by omega, by omega, rfl, ?_, ?_⟩, fun hr => ?_⟩, fun hge2 => ?_⟩
  · rw [Sp.fromN_no hr]
  · rw [Sp.fromN_no hr]
  · have hnl : n < E.length := by omega
    have hXn : inN (Sp.ev E n).2.1.2.1 3 := hX _ (Sp.ev_mem hnl)
    have hl := Sp.mo3_len_le E b (Sp.ev E n).2.1.2.1.toNat
    have hbn := Sp.byteAt_nonneg hb (Sp.fromN E b n).2
    have hpick : ∀ v, v = Sp.pickF E (Sp.mo3 E b) b (Sp.fromN E b n).2 n → (E, ((Sp.fromN E b n).1 ++ [(-1 : Int)]).set n v, Sp.mo3 E b, Sp.foOf E b, ()) = (E, (Sp.fromN E b (n + 1)).1, Sp.mo3 E b, Sp.foOf E b, ()) := by
      intro v hv
      rw [Sp.set_last hfl, Sp.fromN_yes hr, hv]
    have hi2 : (Sp.fromN E b n).2 + 1 = (Sp.fromN E b (n + 1)).2 := by rw [Sp.fromN_yes hr]
    have hev : E.getD n (0, (0, 0, 0, ()), 0, ()) = Sp.ev E n := rfl
    rw [hev]
    unfold Sp.pickF at hpick
    generalize hmo : (Sp.mo3 E b).getD (Sp.ev E n).2.1.2.1.toNat [] = M at *
    have hlen : (([-1] : List Int) ++ M).length = M.length + 1 := by rw [List.length_append, List.length_singleton]; omega
    have hlen2 : ((Sp.fromN E b n).1 ++ [(-1 : Int)]).length = n + 1 := by rw [List.length_append, List.length_singleton, hfl]
    have hset : inN (n : Int) ((Sp.fromN E b n).1 ++ [(-1 : Int)]).length := ⟨by omega, by rw [hlen2]; omega⟩
    refine ⟨⟨inN_of hlt, by rw [hm3]; exact hXn, by rw [maxNew_eq]; omega⟩, by show (0 : Int) ≤ _; omega, inK_of (by omega) (by omega), ⟨inN_of hlt, fun _ => by decide⟩, fun h => ?_, fun h => ?_⟩
    · have hw : Sp.writes (Sp.ev E n).2.1 = true := by unfold Sp.writes; rw [h.1]; rfl
      have hm : (n : Int) ∈ M := by
        rw [← hmo, Sp.mem_mo3 (by have := hXn.1; have := hXn.2; omega), Sp.mem_wr]
        exact ⟨n, hnl, ⟨hw, by have := hXn.1; omega⟩, rfl⟩
      have hidx := Sp.idx_cons hm (by omega)
      refine ⟨⟨inK_of (by omega) (by omega), ⟨by omega, by rw [hlen]; omega⟩, hset⟩, inK_of (by omega) (by omega), n + 1, by omega, by omega, rfl, hi2, hpick _ ?_⟩
      rw [if_pos h]
    · have hd : (Sp.byteAt b (Sp.fromN E b n).2).tdiv 8 = (Sp.byteAt b (Sp.fromN E b n).2) / 8 := Int.tdiv_eq_ediv_of_nonneg hbn.1
      have ht1 := Int.tmod_nonneg ((([-1] : List Int) ++ M).length : Int) (show 0 ≤ (Sp.byteAt b (Sp.fromN E b n).2).tdiv 8 by rw [hd]; omega)
      have ht2 := Int.tmod_lt_of_pos ((Sp.byteAt b (Sp.fromN E b n).2).tdiv 8) (show (0 : Int) < ((([-1] : List Int) ++ M).length : Int) by rw [hlen]; omega)
      refine ⟨⟨⟨by decide, by rw [hd]; exact inK_of (by omega) (by omega)⟩, by rw [hlen]; omega, ⟨ht1, ht2⟩, hset⟩, inK_of (by omega) (by omega), n + 1, by omega, by omega, rfl, hi2, hpick _ ?_⟩
      rw [if_neg]
      rintro ⟨g1, g2⟩
      rw [g1] at h
      simp only [beq_self_eq_true, Bool.true_and, bne_eq_false_iff_eq] at h
      exact g2 h
  have hnE : n = E.length := by omega
  subst hnE
  have hmem := Sp.fromN_mem (b := b) hX E.length (Nat.le_refl _)
  generalize hfrm : (Sp.fromN E b E.length).1 = frm at *
  refine ⟨⟨0, Nat.zero_le _, rfl, rfl⟩, ?_⟩
  intro r hr _
  have hrl := Sp.rounds_len frm E r
  refine ⟨fun hlt => ⟨⟨0, Nat.zero_le _, rfl, rfl⟩, ?_⟩, fun hge3 => ?_⟩
  · intro k hk _
    have hkl : (Sp.rndN frm (Sp.rounds frm E r) k).length = E.length := by rw [Sp.rndN_len, hrl]
    generalize hM : Sp.rndN frm (Sp.rounds frm E r) k = M at *
    refine ⟨fun hlt2 => ⟨inN_of hlt2, fun hrd => ⟨⟨⟨by omega, by rw [hfl]; omega⟩, ?_, inN_of hlt2⟩, inK_of (by omega) (by omega), k + 1, by omega, by omega, rfl, ?_⟩, fun hrd => ⟨inK_of (by omega) (by omega), k + 1, by omega, by omega, rfl, ?_⟩⟩, fun hge4 => ⟨inK_of (by omega) (by omega), r + 1, by omega, by omega, rfl, ?_⟩⟩
    · rw [Sp.getD_lt (by omega), hkl]
      exact (hmem _ (List.getElem_mem _)).2
    · rw [Sp.rndN_succ, hM]
      unfold Sp.rnd
      rw [if_pos (show Sp.reads (Sp.ev M k).2.1 = true from hrd)]
      rfl
    · rw [Sp.rndN_succ, hM]
      unfold Sp.rnd
      rw [if_neg (by rw [show Sp.reads (Sp.ev M k).2.1 = false from hrd]; simp)]
    · rw [Sp.rounds_succ, hrl, ← hM, show k = E.length from by omega]
  · rw [hgr, show r = 8 from by omega]
end Go.User
namespace Go.User
open Go.Lf Go.Proofs

theorem gr_eq (t : Sp.Lit) (frm fo : List Int) : Sp.gr t frm fo = (Sp.stGR frm (Sp.rounds (Sp.fromN (Sp.evs 0 t.1) [] (Sp.evs 0 t.1).length).1 (Sp.evs 0 t.1) 8) 3, frm, Sp.mo3 (Sp.evs 0 t.1) [], fo, ()) := by simp only [Sp.gr, Sp.graph]

theorem ok30 : FOk Try.prog 30 S30 := by
  have hC : CtxOK Try.prog C30 := okA (fns_cons ok12 fns_nil)
  refine FOk.intro hC (stpP_ok hC) Try.call30 Try.func30 (by kernel_rfl) (by kernel_rfl) L30 (vc30.mpr ?_)
  simp only [z1, z2, z3, z4, z5, z6, z7, z8, z9, z10, z11, z12, z13, z14, z15, z16, z17, z18, z19, z20, z21, z22, z23, z24, z25, z26, z27, z28, z29, z30, z31, z32, z33, z34, z35, z36, z37, z38, dFact]
  intro x hp hx
  obtain ⟨⟨h100, hX⟩, hlen, hv⟩ := hp
  have hgr := gr_eq x.1 x.2.1 x.2.2.1
  clear hx
  refine ⟨⟨h100, hX⟩, ⟨0, Nat.zero_le _, rfl, by rw [Sp.stGR_zero]⟩, ?_⟩
  intro r hr _
  have hG0 : (Sp.rounds (Sp.fromN (Sp.evs 0 x.1.1) [] (Sp.evs 0 x.1.1).length).1 (Sp.evs 0 x.1.1) 8).length = (Sp.evs 0 x.1.1).length := Sp.rounds_len _ _ _
  generalize hG : Sp.rounds (Sp.fromN (Sp.evs 0 x.1.1) [] (Sp.evs 0 x.1.1).length).1 (Sp.evs 0 x.1.1) 8 = G at *
  generalize hE : Sp.evs 0 x.1.1 = E at *
  have hrl : (Sp.stGR x.2.1 G r).length = E.length := by rw [Sp.stGR_len, hG0]
  refine ⟨fun hlt => ⟨⟨0, Nat.zero_le _, rfl, by rw [Sp.stGN_zero]⟩, ?_⟩, fun hge => ?_⟩
  · intro k hk _
    have hkl : (Sp.stGN x.2.1 (Sp.stGR x.2.1 G r) k).length = E.length := by rw [Sp.stGN_len, hrl]
    have hsuc := Sp.stGN_succ x.2.1 (Sp.stGR x.2.1 G r) k
    generalize hM : Sp.stGN x.2.1 (Sp.stGR x.2.1 G r) k = M at *
    have hfl : x.2.1.length = E.length := hlen
    refine ⟨fun hlt2 => ⟨inN_of hlt2, ⟨by omega, by rw [hfl]; omega⟩, fun h0 => ⟨⟨⟨by omega, by rw [hfl]; omega⟩, ⟨h0, ?_⟩, ⟨by omega, by rw [List.length_set]; omega⟩⟩, inK_of (by omega) (by omega), k + 1, by omega, by omega, rfl, ?_⟩, fun h0 => ⟨inK_of (by omega) (by omega), k + 1, by omega, by omega, rfl, ?_⟩⟩, fun hge2 => ⟨inK_of (by omega) (by omega), r + 1, by omega, by omega, rfl, ?_⟩⟩
    · rw [List.length_set, hkl, Sp.getD_lt (show k < x.2.1.length by omega)]
      exact hv _ (List.getElem_mem _)
    · rw [hsuc]
      unfold Sp.stG
      rw [if_pos h0]
      rfl
    · rw [hsuc]
      unfold Sp.stG
      rw [if_neg (by omega)]
      rfl
    · rw [Sp.stGR_succ, hrl, ← hM, show k = E.length from by omega]
  · rw [hgr, show r = 3 from by omega]
end Go.User
namespace Go.User
open Go.Lf Go.Proofs
instance decInN (i : Int) (n : Nat) : Decidable (inN i n) := by unfold inN; infer_instance
set_option maxRecDepth 100000 in
theorem ok10 : FOk Try.prog 10 S10 := by
  have hC : CtxOK Try.prog C10 := ctx_ok rfl rfl (fns_cons ok31 (fns_cons ok27 (fns_cons ok28 (fns_cons ok21 (fns_cons ok16 (fns_cons ok18 (fns_cons ok30 fns_nil))))))) ptrs_nil
  exact FOk.intro hC (stpP_ok hC) Try.call10 Try.func10 (by kernel_rfl) (by kernel_rfl) L10 (vc10.mpr (by
    simp only [z1, z2, z3, z4, z5, z6, z7, z8, z9, z10, z11, z12, z13, z14, z15, z16, z17, z18, z19, z20, z21, z22, z23, z24, z25, z26, z27, z28, z29, z30, z31, z32, z33, z34, z35, z36, z37, z38, dFact]
    repeat' (first | apply And.intro | decide +kernel | (intro h; first | exact absurd h (by decide +kernel) | skip))))
end Go.User
namespace Sp
theorem evs_set (o : LOp) : ∀ (P : List (List LOp)) (n : Nat) (k : Int), n < P.length → (evs k (P.set n (P.getD n [] ++ [o]))).length = (evs k P).length + 1
  | [], n, k, h => by simp at h
  | l :: ls, 0, k, h => by simp [evs]; omega
  | l :: ls, n + 1, k, h => by
    have ih := evs_set o ls n (k + 1) (by simpa using h)
    have e : (l :: ls).getD (n + 1) [] = ls.getD n [] := rfl
    rw [List.set_cons_succ, e]
    simp only [evs, List.length_append, ih]; omega
theorem evs_get : ∀ (P : List (List LOp)) (n : Nat) (k : Int), (P.getD n []).length ≤ (evs k P).length
  | [], n, k => by simp
  | l :: ls, 0, k => by simp [evs]
  | l :: ls, n + 1, k => by
    have ih := evs_get ls n (k + 1)
    have e : (l :: ls).getD (n + 1) [] = ls.getD n [] := rfl
    rw [e]; simp only [evs, List.length_append]; omega
theorem mem_evs : ∀ (P : List (List LOp)) (k : Int) (x : LEv), x ∈ evs k P → ∃ l ∈ P, x.2.1 ∈ l
  | [], k, x, h => by simp [evs] at h
  | l :: ls, k, x, h => by
    simp only [evs, List.mem_append, List.mem_map] at h
    rcases h with ⟨o, h1, rfl⟩ | h
    · exact ⟨l, List.mem_cons_self, h1⟩
    · obtain ⟨l', h1, h2⟩ := mem_evs ls (k + 1) x h
      exact ⟨l', List.mem_cons_of_mem _ h1, h2⟩
theorem evs_nil (n : Nat) (k : Int) : (evs k (List.replicate n [])).length = 0 := by
  induction n generalizing k with
  | zero => rfl
  | succ n ih => simp [List.replicate_succ, evs, ih]
theorem byte_at {b : List Int} (h : ∀ x ∈ b, Go.Lf.inK .u8 x) (i : Nat) : 0 ≤ b.getD i 0 ∧ b.getD i 0 ≤ 255 := by
  rcases Nat.lt_or_ge i b.length with h2 | h2
  · rw [getD_lt h2]
    have := h _ (List.getElem_mem h2)
    exact ⟨this.1, this.2⟩
  · rw [List.getD_eq_getElem?_getD, List.getElem?_eq_none h2]; simp
theorem nC_range (b : List Int) : 1 ≤ nC b ∧ nC b ≤ 4 := by
  unfold nC
  split <;> omega
theorem madeN_len (b : List Int) : ∀ k, (madeN b k).length = (nC b).toNat
  | 0 => by simp [madeN]
  | k + 1 => by simp [madeN, addOp, madeN_len b k]
theorem cOf {b : List Int} (h : ∀ x ∈ b, Go.Lf.inK .u8 x) (i : Nat) : 0 ≤ (b.getD i 0).tmod (nC b) ∧ (b.getD i 0).tmod (nC b) < nC b :=
  ⟨Int.tmod_nonneg _ (byte_at h i).1, Int.tmod_lt_of_pos _ (by have := nC_range b; omega)⟩
theorem madeN_evs {b : List Int} (h : ∀ x ∈ b, Go.Lf.inK .u8 x) : ∀ k, (evs 0 (madeN b k)).length = k
  | 0 => evs_nil _ _
  | k + 1 => by
    have hc := cOf h (2 * k + 2)
    have hl := madeN_len b k
    unfold madeN addOp
    rw [evs_set _ _ _ _ (by omega), madeN_evs h k]
theorem opOf_X {b : List Int} (h : ∀ x ∈ b, Go.Lf.inK .u8 x) (i : Nat) : Go.Lf.inN (opOf b i).2.1 3 := by
  have hb := byte_at h i
  unfold opOf
  simp only
  split
  · exact ⟨by omega, by omega⟩
  · exact ⟨Int.tmod_nonneg _ (by omega), Int.tmod_lt_of_pos _ (by omega)⟩
theorem madeN_X {b : List Int} (h : ∀ x ∈ b, Go.Lf.inK .u8 x) : ∀ k, ∀ l ∈ madeN b k, ∀ o ∈ l, Go.Lf.inN o.2.1 3
  | 0, l, hl, o, ho => by
    simp only [madeN, List.mem_replicate] at hl
    rw [hl.2] at ho; cases ho
  | k + 1, l, hl, o, ho => by
    have ih := madeN_X h k
    unfold madeN addOp at hl
    rcases List.mem_or_eq_of_mem_set hl with hl | rfl
    · exact ih l hl o ho
    · rw [List.mem_append] at ho
      rcases ho with ho | ho
      · have hc := cOf h (2 * k + 2)
        have hlen := madeN_len b k
        rw [getD_lt (by omega)] at ho
        exact ih _ (List.getElem_mem _) o ho
      · simp only [List.mem_singleton] at ho
        rw [ho]; exact opOf_X h _
theorem madeP_fine {b : List Int} (h : ∀ x ∈ b, Go.Lf.inK .u8 x) : Go.User.fine (madeP b, ()) := by
  have hK : nK b ≤ 6 := by unfold nK; omega
  have hl := madeN_evs h (nK b)
  have hm : ∀ l ∈ madeP b, ∀ o ∈ l, Go.Lf.inN o.2.1 3 := by
    intro l hl' o ho
    unfold madeP at hl'
    split at hl'
    · rcases List.mem_or_eq_of_mem_set hl' with h1 | rfl
      · exact madeN_X h _ l h1 o ho
      · simp only [List.mem_singleton] at ho
        rw [ho]; exact ⟨by show (0 : Int) ≤ 0; omega, by show (0 : Int) < 3; omega⟩
    · exact madeN_X h _ l hl' o ho
  refine ⟨?_, fun x hx => ?_⟩
  · show (evs 0 (madeP b)).length ≤ 100
    unfold madeP
    split
    · rename_i h0
      have hlen := madeN_len b (nK b)
      have := nC_range b
      have hz : (madeN b (nK b)).getD 0 [] = [] := by
        have := evs_get (madeN b (nK b)) 0 0
        exact List.length_eq_zero_iff.1 (by omega)
      have := evs_set (1, 0, 0, ()) (madeN b (nK b)) 0 0 (by omega)
      rw [hz, List.nil_append] at this
      rw [this]; omega
    · omega
  · obtain ⟨l, h1, h2⟩ := mem_evs _ _ x hx
    exact hm l h1 _ h2

theorem getD_set_true {l : List Bool} {b y : Nat} {v : Bool} (h : l.getD y false = true) (hv : y = b → v = true) : (l.set b v).getD y false = true := by
  rw [List.getD_eq_getElem?_getD, List.getElem?_set]
  by_cases hyb : b = y
  · subst hyb
    rw [if_pos rfl]
    split
    · exact hv rfl
    · rename_i h2
      rw [List.getD_eq_getElem?_getD, List.getElem?_eq_none (by omega)] at h; cases h
  · rw [if_neg hyb, ← List.getD_eq_getElem?_getD]; exact h
theorem get2_upd2 {r : Rel} {a b x y : Nat} {v : Bool} (h : get2 r x y = true) (hv : x = a → y = b → v = true) : get2 (upd2 r a b v) x y = true := by
  unfold get2 upd2 at *
  by_cases hxa : x = a
  · subst hxa
    have e : (r.set x ((r.getD x (List.replicate 6 false)).set b v)).getD x (List.replicate 6 false) = if x < r.length then (r.getD x (List.replicate 6 false)).set b v else List.replicate 6 false := by
      rw [List.getD_eq_getElem?_getD, List.getElem?_set, if_pos rfl]
      split <;> rfl
    rw [e]
    split
    · exact getD_set_true h (hv rfl)
    · rename_i h2
      rw [List.getD_eq_getElem?_getD (l := r), List.getElem?_eq_none (by omega)] at h; exact h
  · have e : (r.set a ((r.getD a (List.replicate 6 false)).set b v)).getD x (List.replicate 6 false) = r.getD x (List.replicate 6 false) := by
      rw [List.getD_eq_getElem?_getD, List.getElem?_set, if_neg (fun e => hxa e.symm), ← List.getD_eq_getElem?_getD]
    rw [e]; exact h
theorem get2_stepB {k a b : Nat} {r : Rel} {x y : Nat} (h : get2 r x y = true) : get2 (stepB k a r b) x y = true := by
  unfold stepB
  refine get2_upd2 h (fun e1 e2 => ?_)
  subst e1; subst e2
  rw [h]; rfl
theorem get2_rowB {k a : Nat} {r : Rel} {x y : Nat} (h : get2 r x y = true) : ∀ n, get2 (rowB k a r n) x y = true
  | 0 => h
  | n + 1 => by rw [Go.User.rowB_succ]; exact get2_stepB (get2_rowB h n)
theorem get2_rowA {k : Nat} {r : Rel} {x y : Nat} (h : get2 r x y = true) : ∀ n, get2 (rowA k r n) x y = true
  | 0 => h
  | n + 1 => by rw [Go.User.rowA_succ]; exact get2_rowB (get2_rowA h n) 6
theorem get2_closeN {r : Rel} {x y : Nat} (h : get2 r x y = true) : ∀ n, get2 (closeN r n) x y = true
  | 0 => h
  | n + 1 => by rw [Go.User.closeN_succ]; exact get2_rowA (get2_closeN h n) 6
/-- What is in a relation is in its closure. -/
theorem close_ext {r : Rel} {x y : Nat} (h : get2 r x y = true) : get2 (close r) x y = true := get2_closeN h 6

/-- Two events of the same core and place, not fences, in a graph that is allowed: coherent. -/
theorem coh_of {t : Lit} {g : Gr} (h : allowed t g = true) {i k : Nat} (hik : i < k) (hk : k < g.1.length) (hc : (ev g.1 i).1 = (ev g.1 k).1) (hx : (ev g.1 i).2.1.2.1 = (ev g.1 k).2.1.2.1)
    (h4 : (ev g.1 i).2.1.1 ≠ 4) (h5 : (ev g.1 k).2.1.1 ≠ 4) : RightP t g ∧ coh g i k = true := by
  unfold allowed at h
  simp only [Bool.and_eq_true, decide_eq_true_eq] at h
  obtain ⟨⟨h1, h2⟩, h3⟩ := h
  have hR := (right_iff t g).1 h1
  refine ⟨hR, ?_⟩
  have hE := hR.lenE
  have he6 := (valid_ev hR.valid).1
  rcases h3 i (by omega) with h6 | ⟨_, h6⟩
  · exact absurd h6 h4
  · have hb := h6 k hk
    have hord : get2 (order g) i k = true := by
      unfold order
      rw [get2_mat (by omega) (by omega)]
      unfold ordF
      rw [decide_eq_true hik, decide_eq_true hk, decide_eq_true hc]; rfl
    have hbef : get2 (before g) i k = true := close_ext hord
    unfold badPair at hb
    rw [hbef, decide_eq_false h5, decide_eq_true hx] at hb
    simpa using hb
end Sp
namespace Sp
def st (p : List (List LOp)) (c : Nat) : Nat := (evs 0 (p.take c)).length
theorem st_mono {p : List (List LOp)} {c d : Nat} (h : c ≤ d) : st p c ≤ st p d := by
  unfold st
  have e : p.take d = p.take c ++ (p.take d).drop c := by
    have := List.take_append_drop c (p.take d)
    rw [List.take_take, Nat.min_eq_left h] at this
    exact this.symm
  rw [e, evs_append, List.length_append]; omega
theorem st_all (p : List (List LOp)) : st p p.length = (evs 0 p).length := by unfold st; rw [List.take_length]
theorem st_succ {p : List (List LOp)} {c : Nat} (h : c < p.length) : st p (c + 1) = st p c + (p.getD c []).length := by
  unfold st; rw [evs_succ h]; simp
theorem ev_core {p : List (List LOp)} {c i : Nat} (hc : c < p.length) (h1 : st p c ≤ i) (h2 : i < st p (c + 1)) : (ev (evs 0 p) (i : Int)).1 = (c : Int) := by
  have e : evs 0 p = evs 0 (p.take (c + 1)) ++ evs (0 + ((p.take (c + 1)).length : Int)) (p.drop (c + 1)) := by rw [← evs_append, List.take_append_drop]
  have h3 := st_succ hc
  unfold st at h1 h2 h3
  unfold ev
  rw [Int.toNat_natCast, e, List.getD_eq_getElem?_getD, List.getElem?_append_left h2, evs_succ hc, List.getElem?_append_right h1, List.getElem?_map, List.getElem?_eq_getElem (by omega)]
  rfl
theorem core_ex' {p : List (List LOp)} {i : Nat} : ∀ m, m ≤ p.length → i < st p m → ∃ c < m, st p c ≤ i ∧ i < st p (c + 1)
  | 0, _, h => by unfold st at h; simp [evs] at h
  | m + 1, hm, h => by
    rcases Nat.lt_or_ge i (st p m) with h1 | h1
    · obtain ⟨c, hc, h2⟩ := core_ex' m (by omega) h1
      exact ⟨c, by omega, h2⟩
    · exact ⟨m, by omega, h1, h⟩
theorem core_ex {p : List (List LOp)} {i : Nat} (h : i < (evs 0 p).length) : ∃ c < p.length, st p c ≤ i ∧ i < st p (c + 1) := core_ex' p.length (Nat.le_refl _) (by rw [st_all]; exact h)

theorem nxN_len (p : List (List LOp)) (i : Nat) : (nxN p i).length = i := by simp [nxN]
theorem enN_len (p : List (List LOp)) (i : Nat) : (enN p i).length = i := by simp [enN]
theorem nxN_get {p : List (List LOp)} {i j : Nat} (h : j < i) : (nxN p i).getD j 0 = (st p j : Int) := by
  rw [getD_lt (by rw [nxN_len]; exact h)]; simp [nxN, st]
theorem enN_get {p : List (List LOp)} {i j : Nat} (h : j < i) : (enN p i).getD j 0 = (st p (j + 1) : Int) := by
  rw [getD_lt (by rw [enN_len]; exact h)]; simp [enN, st]
theorem nxN_succ (p : List (List LOp)) (i : Nat) : nxN p (i + 1) = nxN p i ++ [((evs 0 (p.take i)).length : Int)] := by simp [nxN, List.range_succ]
theorem enN_succ (p : List (List LOp)) (i : Nat) : enN p (i + 1) = enN p i ++ [((evs 0 (p.take (i + 1))).length : Int)] := by simp [enN, List.range_succ]

/-- What has each of its members once is no longer than what has them. -/
theorem nodup_le : ∀ {l m : List Int}, l.Nodup → (∀ x ∈ l, x ∈ m) → l.length ≤ m.length
  | [], _, _, _ => Nat.zero_le _
  | x :: l, m, hn, hm => by
    have hx := hm x (by simp)
    rw [List.nodup_cons] at hn
    have := nodup_le (m := m.erase x) hn.2 (fun y hy => (List.mem_erase_of_ne (fun e : y = x => hn.1 (e ▸ hy))).2 (hm y (by simp [hy])))
    rw [List.length_erase_of_mem hx] at this
    have := List.length_pos_of_mem hx
    simp only [List.length_cons]; omega

def pre (X : List Int) (e : Int) : List Int := X.take (X.idxOf e)
def wX (E : List LEv) (x : Int) (e : Int) : Bool := writes (ev E e).2.1 && decide ((ev E e).2.1.2.1 = x)
def fX (E : List LEv) (e : Int) : Bool := decide ((ev E e).2.1.1 = 4)
theorem lastOr_cases (l : List Int) : (l = [] ∧ lastOr l = -1) ∨ (lastOr l ∈ l ∧ 0 < l.length) := by
  unfold lastOr
  split
  · rename_i h
    right
    rw [getD_lt (by omega)]
    exact ⟨List.getElem_mem _, h⟩
  · left
    exact ⟨List.length_eq_zero_iff.1 (by omega), rfl⟩
theorem pre_old {X : List Int} {e a : Int} (h : a ∈ X) : pre (X ++ [e]) a = pre X a := by
  unfold pre
  rw [List.idxOf_append, if_pos h]
  have := List.idxOf_lt_length_iff.2 h
  rw [List.take_append_of_le_length (by omega)]
theorem pre_new {X : List Int} {e : Int} (h : e ∉ X) : pre (X ++ [e]) e = X := by
  unfold pre
  rw [List.idxOf_append, if_neg h, List.idxOf_cons_self, Nat.zero_add]
  simp
theorem idx_old {X : List Int} {e a : Int} (h : a ∈ X) : (X ++ [e]).idxOf a = X.idxOf a := by rw [List.idxOf_append, if_pos h]
theorem idx_new {X : List Int} {e : Int} (h : e ∉ X) : (X ++ [e]).idxOf e = X.length := by rw [List.idxOf_append, if_neg h, List.idxOf_cons_self, Nat.zero_add]

theorem ev_setR (E : List LEv) (n : Nat) (v : Int) (i : Int) : ev (setR E n v) i = if i.toNat = n ∧ n < E.length then ((ev E n).1, (ev E n).2.1, v, ()) else ev E i := by
  unfold setR ev
  simp only [Int.toNat_natCast]
  rw [List.getD_eq_getElem?_getD, List.getElem?_set]
  by_cases h : n = i.toNat
  · rw [if_pos h]
    by_cases h2 : n < E.length
    · rw [if_pos (by omega), if_pos ⟨h.symm, h2⟩]; rfl
    · rw [if_neg (by omega), if_neg (fun h => h2 h.2), List.getD_eq_getElem?_getD, List.getElem?_eq_none (by omega)]
  · rw [if_neg h, if_neg (fun h' => h h'.1.symm), ← List.getD_eq_getElem?_getD]
theorem ev_setR_same (E : List LEv) (n : Nat) (v : Int) (i : Int) : (ev (setR E n v) i).1 = (ev E i).1 ∧ (ev (setR E n v) i).2.1 = (ev E i).2.1 := by
  rw [ev_setR]
  split
  · rename_i h
    have : ev E (n : Int) = ev E i := by unfold ev; rw [Int.toNat_natCast, h.1]
    rw [this]; exact ⟨rfl, rfl⟩
  · exact ⟨rfl, rfl⟩
theorem value_setR {E : List LEv} {n : Nat} {v : Int} {i : Int} (h : i < 0 ∨ i.toNat ≠ n) : value (setR E n v) i = value E i := by
  unfold value
  rcases h with h | h
  · rw [if_pos h, if_pos h]
  · have : ev (setR E n v) i = ev E i := by rw [ev_setR, if_neg (fun h' => h h'.1)]
    rw [this]

/-- The state after the operations X were executed, in this order. -/
structure IL (p : List (List LOp)) (X : List Int) (s : Run) : Prop where
  nxl : s.1.length = p.length
  el : s.2.1.length = (evs 0 p).length
  fl : s.2.2.1.length = (evs 0 p).length
  ml : s.2.2.2.1.length = 3
  nod : X.Nodup
  inr : ∀ e ∈ X, 0 ≤ e ∧ e < (evs 0 p).length
  nx : ∀ c < p.length, (st p c : Int) ≤ s.1.getD c 0 ∧ s.1.getD c 0 ≤ st p (c + 1) ∧ ∀ i : Nat, st p c ≤ i → i < st p (c + 1) → ((i : Int) ∈ X ↔ (i : Int) < s.1.getD c 0)
  po : ∀ c < p.length, ∀ i j : Nat, st p c ≤ i → i < j → j < st p (c + 1) → (j : Int) ∈ X → X.idxOf (i : Int) < X.idxOf (j : Int)
  same : ∀ i, (ev s.2.1 i).1 = (ev (evs 0 p) i).1 ∧ (ev s.2.1 i).2.1 = (ev (evs 0 p) i).2.1
  mo : ∀ x < 3, s.2.2.2.1.getD x [] = X.filter (wX (evs 0 p) (x : Int))
  fo : s.2.2.2.2 = X.filter (fX (evs 0 p))
  fr : ∀ e : Nat, e < (evs 0 p).length → (e : Int) ∉ X → s.2.2.1.getD e 0 = -1 ∧ (ev s.2.1 e).2.2.1 = 0
  fx : ∀ e ∈ X, s.2.2.1.getD e.toNat 0 = (if reads (ev (evs 0 p) e).2.1 = true then lastOr ((pre X e).filter (wX (evs 0 p) (ev (evs 0 p) e).2.1.2.1)) else -1) ∧
    (ev s.2.1 e).2.2.1 = if reads (ev (evs 0 p) e).2.1 = true then value s.2.1 (s.2.2.1.getD e.toNat 0) else 0

theorem ev_evs_R : ∀ (p : List (List LOp)) (c : Int) (n : Nat), ((evs c p).getD n ev0).2.2.1 = 0
  | [], c, n => by simp [evs, ev0]
  | l :: p, c, n => by
    simp only [evs]
    rw [List.getD_eq_getElem?_getD]
    rcases Nat.lt_or_ge n (l.map (mkEv c)).length with h | h
    · rw [List.getElem?_append_left h, List.getElem?_map, List.getElem?_eq_getElem (by simpa using h)]; rfl
    · rw [List.getElem?_append_right h, ← List.getD_eq_getElem?_getD]
      exact ev_evs_R p (c + 1) _
theorem IL.zero (p : List (List LOp)) (b : List Int) : IL p [] (runN p b 0) := by
  refine ⟨nxN_len _ _, rfl, by simp [runN], rfl, List.nodup_nil, fun e h => by simp at h, fun c hc => ?_, fun c hc i j _ _ _ h => by simp at h, fun i => ⟨rfl, rfl⟩, fun x hx => ?_, rfl, fun e he _ => ?_, fun e h => by simp at h⟩
  · show (st p c : Int) ≤ (nxN p p.length).getD c 0 ∧ (nxN p p.length).getD c 0 ≤ st p (c + 1) ∧ _
    rw [nxN_get hc]
    have := st_mono (p := p) (show c ≤ c + 1 by omega)
    refine ⟨Int.le_refl _, by omega, fun i h1 h2 => ?_⟩
    constructor
    · intro h; simp at h
    · intro h
      have h : (i : Int) < (nxN p p.length).getD c 0 := h
      rw [nxN_get hc] at h; omega
  · show ([[], [], []] : List (List Int)).getD x [] = _
    match x, hx with
    | 0, _ => rfl
    | 1, _ => rfl
    | 2, _ => rfl
  · refine ⟨?_, ?_⟩
    · show (List.replicate (evs 0 p).length (-1 : Int)).getD e 0 = -1
      rw [getD_lt (by simpa using he)]; simp
    · show (ev (evs 0 p) e).2.2.1 = 0
      unfold ev; exact ev_evs_R p 0 _

/-- Which core is next. -/
theorem IL.next {p : List (List LOp)} {X : List Int} {s : Run} (h : IL p X s) (b : List Int) {k : Nat} (hk : X.length < (evs 0 p).length) :
    0 < (canN s.1 (enN p p.length) s.1.length).length ∧ ∃ c, c < p.length ∧ pkC s.1 (enN p p.length) b k = (c : Int) ∧ ∃ i : Nat, pkE s.1 (enN p p.length) b k = (i : Int) ∧ s.1.getD c 0 = (i : Int) ∧ st p c ≤ i ∧ i < st p (c + 1) ∧ i < (evs 0 p).length ∧ (i : Int) ∉ X := by
  have hne : 0 < (canN s.1 (enN p p.length) s.1.length).length := by
    rcases Nat.eq_zero_or_pos (canN s.1 (enN p p.length) s.1.length).length with h0 | h0
    · exfalso
      have hnil := List.length_eq_zero_iff.1 h0
      have hall : ∀ c < p.length, (st p (c + 1) : Int) ≤ s.1.getD c 0 := by
        intro c hc
        rcases Int.lt_or_le (s.1.getD c 0) (st p (c + 1)) with h1 | h1
        · have : (c : Int) ∈ canN s.1 (enN p p.length) s.1.length := by
            unfold canN
            rw [mem_sel]
            exact ⟨c, by rw [h.nxl]; exact hc, decide_eq_true (by rw [enN_get hc]; exact h1), rfl⟩
          rw [hnil] at this; simp at this
        · exact h1
      have hmem : ∀ x ∈ (List.range (evs 0 p).length).map (fun (i : Nat) => (i : Int)), x ∈ X := by
        intro x hx
        simp only [List.mem_map, List.mem_range] at hx
        obtain ⟨i, hi, rfl⟩ := hx
        obtain ⟨c, hc, h1, h2⟩ := core_ex hi
        have := hall c hc
        exact ((h.nx c hc).2.2 i h1 h2).2 (by omega)
      have hnd : ((List.range (evs 0 p).length).map (fun (i : Nat) => (i : Int))).Nodup := by
        unfold List.Nodup
        rw [List.pairwise_map]
        exact (List.nodup_range (n := (evs 0 p).length)).imp (fun h e => h (by omega))
      have := nodup_le hnd hmem
      simp at this; omega
    · exact h0
  refine ⟨hne, ?_⟩
  have hm : pkC s.1 (enN p p.length) b k ∈ canN s.1 (enN p p.length) s.1.length := by
    unfold pkC
    have := tmod_toNat_lt (byteAt b k) hne
    rw [getD_lt this]
    exact List.getElem_mem _
  unfold canN at hm
  rw [mem_sel] at hm
  obtain ⟨c, hc, h1, h2⟩ := hm
  have hc : c < p.length := by rw [← h.nxl]; exact hc
  have h1 := of_decide_eq_true h1
  rw [enN_get hc] at h1
  obtain ⟨g1, g2, g3⟩ := h.nx c hc
  have e : s.1.getD c 0 = (((s.1.getD c 0).toNat : Nat) : Int) := by omega
  have hpe : pkE s.1 (enN p p.length) b k = s.1.getD c 0 := by
    unfold pkE; rw [h2, Int.toNat_natCast]
  have hle := st_mono (p := p) (show c + 1 ≤ p.length by omega)
  rw [st_all] at hle
  refine ⟨c, hc, h2, (s.1.getD c 0).toNat, by rw [hpe]; exact e, e, by omega, by omega, by omega, fun hX => ?_⟩
  have := (g3 (s.1.getD c 0).toNat (by omega) (by omega)).1 hX
  omega

theorem filter_snoc (P : Int → Bool) (X : List Int) (e : Int) : (X ++ [e]).filter P = X.filter P ++ (if P e = true then [e] else []) := by
  rw [List.filter_append]
  congr 1
  by_cases h : P e = true
  · rw [if_pos h]; simp [h]
  · rw [if_neg h]; simp [h]
theorem reads4 {o : LOp} (h : reads o = true) : o.1 ≠ 4 := by
  unfold reads at h
  simp only [Bool.or_eq_true, decide_eq_true_eq] at h
  omega
theorem writes4 {o : LOp} (h : writes o = true) : o.1 ≠ 4 := by
  unfold writes at h
  simp only [Bool.or_eq_true, decide_eq_true_eq] at h
  omega

theorem IL.step {p : List (List LOp)} {X : List Int} {s : Run} (h : IL p X s) (hX3 : ∀ x ∈ evs 0 p, Go.Lf.inN x.2.1.2.1 3) (b : List Int) {k : Nat} (hk : X.length < (evs 0 p).length) :
    IL p (X ++ [pkE s.1 (enN p p.length) b k]) (runS (enN p p.length) b k s) := by
  obtain ⟨_, c, hc, hpc, i, hpe, hnx, hi1, hi2, hin, hiX⟩ := h.next b (k := k) hk
  have hop := (h.same (i : Int)).2
  have hx3 := hX3 _ (ev_mem hin)
  have hpl : plL s.2.1 s.2.2.2.1 (i : Int) = X.filter (wX (evs 0 p) (ev (evs 0 p) (i : Int)).2.1.2.1) := by
    unfold plL
    rw [hop, h.mo _ (by have := hx3.1; have := hx3.2; omega)]
    congr 1
    have := hx3.1
    rw [show (((ev (evs 0 p) (i : Int)).2.1.2.1.toNat : Nat) : Int) = (ev (evs 0 p) (i : Int)).2.1.2.1 from by omega]
  have htk : takes s.2.1 s.2.2.2.1 (i : Int) = (reads (ev (evs 0 p) (i : Int)).2.1 && decide (0 < (X.filter (wX (evs 0 p) (ev (evs 0 p) (i : Int)).2.1.2.1)).length)) := by
    unfold takes
    rw [hpl, hop]
    cases hr : reads (ev (evs 0 p) (i : Int)).2.1
    · simp
    · rw [decide_eq_false (reads4 hr)]; simp
  have hla : lastL s.2.1 s.2.2.2.1 (i : Int) = (X.filter (wX (evs 0 p) (ev (evs 0 p) (i : Int)).2.1.2.1)).getD ((X.filter (wX (evs 0 p) (ev (evs 0 p) (i : Int)).2.1.2.1)).length - 1) 0 := by
    unfold lastL; rw [hpl]
  have hcore : ∀ c' < p.length, ∀ i' : Nat, st p c' ≤ i' → i' < st p (c' + 1) → i' = i → c' = c := by
    intro c' hc' i' h1 h2 e
    subst e
    have := ev_core hc' h1 h2
    rw [ev_core hc hi1 hi2] at this
    omega
  have hrs : runS (enN p p.length) b k s = (s.1.set c ((i : Int) + 1), xE s.2.1 s.2.2.2.1 (i : Int), xF s.2.1 s.2.2.1 s.2.2.2.1 (i : Int), xM s.2.1 s.2.2.2.1 (i : Int), xO s.2.1 s.2.2.2.2 (i : Int)) := by
    unfold runS xN; rw [hpc, hpe, Int.toNat_natCast]
  have hEsame : ∀ j, (ev (xE s.2.1 s.2.2.2.1 (i : Int)) j).1 = (ev s.2.1 j).1 ∧ (ev (xE s.2.1 s.2.2.2.1 (i : Int)) j).2.1 = (ev s.2.1 j).2.1 := by
    intro j
    unfold xE
    split
    · exact ev_setR_same _ _ _ _
    · exact ⟨rfl, rfl⟩
  have hEoth : ∀ j : Int, j.toNat ≠ i → ev (xE s.2.1 s.2.2.2.1 (i : Int)) j = ev s.2.1 j := by
    intro j hj
    unfold xE
    split
    · rw [ev_setR, if_neg (fun h => hj (by simpa using h.1))]
    · rfl
  have hFoth : ∀ j : Nat, j ≠ i → (xF s.2.1 s.2.2.1 s.2.2.2.1 (i : Int)).getD j 0 = s.2.2.1.getD j 0 := by
    intro j hj
    unfold xF
    split
    · rw [List.getD_eq_getElem?_getD, List.getElem?_set, if_neg (by simpa using Ne.symm hj), ← List.getD_eq_getElem?_getD]
    · rfl
  have hval : ∀ j : Int, j < 0 ∨ j.toNat ≠ i → value (xE s.2.1 s.2.2.2.1 (i : Int)) j = value s.2.1 j := by
    intro j hj
    unfold xE
    split
    · exact value_setR (by simpa using hj)
    · rfl
  have hlast : ∀ (Y : List Int) (P : Int → Bool), (∀ y ∈ Y, y ∈ X) → lastOr (Y.filter P) < 0 ∨ (lastOr (Y.filter P)).toNat ≠ i := by
    intro Y P hY
    rcases lastOr_cases (Y.filter P) with ⟨_, h1⟩ | ⟨h1, _⟩
    · left; rw [h1]; omega
    · have hm := hY _ (List.mem_filter.1 h1).1
      have := h.inr _ hm
      right
      intro e
      exact hiX (by rw [← e, Int.toNat_of_nonneg this.1]; exact hm)
  rw [hrs, hpe]
  refine ⟨by simpa using h.nxl, ?_, ?_, ?_, ?_, ?_, ?_, ?_, ?_, ?_, ?_, ?_, ?_⟩
  · show (xE _ _ _).length = _
    unfold xE; split
    · rw [setR_len]; exact h.el
    · exact h.el
  · show (xF _ _ _ _).length = _
    unfold xF; split
    · simpa using h.fl
    · exact h.fl
  · show (xM _ _ _).length = _
    unfold xM; split
    · simpa using h.ml
    · exact h.ml
  · rw [List.nodup_append]
    refine ⟨h.nod, by simp, fun a ha b hb => ?_⟩
    rw [List.mem_singleton] at hb
    subst hb
    exact fun e => hiX (e ▸ ha)
  · intro e he
    rw [List.mem_append, List.mem_singleton] at he
    rcases he with he | rfl
    · exact h.inr e he
    · omega
  · intro c' hc'
    obtain ⟨g1, g2, g3⟩ := h.nx c' hc'
    show (st p c' : Int) ≤ (s.1.set c ((i : Int) + 1)).getD c' 0 ∧ (s.1.set c ((i : Int) + 1)).getD c' 0 ≤ st p (c' + 1) ∧ ∀ i' : Nat, st p c' ≤ i' → i' < st p (c' + 1) → ((i' : Int) ∈ X ++ [(i : Int)] ↔ (i' : Int) < (s.1.set c ((i : Int) + 1)).getD c' 0)
    by_cases hcc : c = c'
    · subst hcc
      have e : (s.1.set c ((i : Int) + 1)).getD c 0 = (i : Int) + 1 := by
        rw [getD_lt (by simpa [h.nxl] using hc)]; simp
      rw [e]
      refine ⟨by omega, by omega, fun i' h1 h2 => ?_⟩
      rw [List.mem_append, List.mem_singleton, g3 i' h1 h2, hnx]
      omega
    · have e : (s.1.set c ((i : Int) + 1)).getD c' 0 = s.1.getD c' 0 := by
        rw [List.getD_eq_getElem?_getD, List.getElem?_set, if_neg hcc, ← List.getD_eq_getElem?_getD]
      rw [e]
      refine ⟨g1, g2, fun i' h1 h2 => ?_⟩
      rw [List.mem_append, List.mem_singleton, ← g3 i' h1 h2]
      constructor
      · rintro (h | h)
        · exact h
        · exact absurd (hcore c' hc' i' h1 h2 (by omega)).symm hcc
      · exact .inl
  · intro c' hc' i' j' h1 h2 h3 hj
    rw [List.mem_append, List.mem_singleton] at hj
    rcases hj with hj | hj
    · have hi' : (i' : Int) ∈ X := by
        have g3 := (h.nx c' hc').2.2
        have := (g3 j' (by omega) h3).1 hj
        exact (g3 i' h1 (by omega)).2 (by omega)
      rw [idx_old hi', idx_old hj]
      exact h.po c' hc' i' j' h1 h2 h3 hj
    · have hji : j' = i := by omega
      have hcc := hcore c' hc' j' (by omega) h3 hji
      subst hcc
      have hi' : (i' : Int) ∈ X := by
        refine ((h.nx c' hc').2.2 i' h1 (by omega)).2 ?_
        rw [hnx]; omega
      rw [idx_old hi', hj, idx_new hiX]
      exact List.idxOf_lt_length_iff.2 hi'
  · intro j
    have h1 := hEsame j
    have h2 := h.same j
    exact ⟨h1.1.trans h2.1, h1.2.trans h2.2⟩
  · intro x hx
    show (xM s.2.1 s.2.2.2.1 (i : Int)).getD x [] = _
    rw [filter_snoc, ← h.mo x hx]
    unfold xM
    rw [hop]
    by_cases hw : writes (ev (evs 0 p) (i : Int)).2.1 = true
    · rw [if_pos ⟨writes4 hw, hw⟩]
      by_cases hxx : (ev (evs 0 p) (i : Int)).2.1.2.1 = (x : Int)
      · rw [if_pos (by unfold wX; rw [hw, decide_eq_true hxx]; rfl)]
        have e : (ev (evs 0 p) (i : Int)).2.1.2.1.toNat = x := by omega
        rw [e, getD_lt (by simp [h.ml]; exact hx)]
        simp only [List.getElem_set_self]
        unfold plL
        rw [hop, e]
      · rw [if_neg (by unfold wX; rw [hw, decide_eq_false hxx]; simp), List.append_nil]
        have := hx3.1
        rw [List.getD_eq_getElem?_getD, List.getElem?_set, if_neg (by omega), ← List.getD_eq_getElem?_getD]
    · rw [if_neg (fun h => hw h.2), if_neg (by unfold wX; simp [hw]), List.append_nil]
  · show xO s.2.1 s.2.2.2.2 (i : Int) = _
    rw [filter_snoc, ← h.fo]
    unfold xO
    rw [hop]
    by_cases h4 : (ev (evs 0 p) (i : Int)).2.1.1 = 4
    · rw [if_pos h4, if_pos (by unfold fX; exact decide_eq_true h4)]
    · rw [if_neg h4, if_neg (by unfold fX; rw [decide_eq_false h4]; simp), List.append_nil]
  · intro e he hm
    rw [List.mem_append, List.mem_singleton, not_or] at hm
    have hne : e ≠ i := fun h => hm.2 (by rw [h])
    obtain ⟨h1, h2⟩ := h.fr e he hm.1
    refine ⟨?_, ?_⟩
    · show (xF s.2.1 s.2.2.1 s.2.2.2.1 (i : Int)).getD e 0 = -1
      rw [hFoth e hne]; exact h1
    · show (ev (xE s.2.1 s.2.2.2.1 (i : Int)) e).2.2.1 = 0
      rw [hEoth _ (by simpa using hne)]; exact h2
  · intro e he
    show (xF s.2.1 s.2.2.1 s.2.2.2.1 (i : Int)).getD e.toNat 0 = _ ∧ (ev (xE s.2.1 s.2.2.2.1 (i : Int)) e).2.2.1 = if reads (ev (evs 0 p) e).2.1 = true then value (xE s.2.1 s.2.2.2.1 (i : Int)) ((xF s.2.1 s.2.2.1 s.2.2.2.1 (i : Int)).getD e.toNat 0) else 0
    rw [List.mem_append, List.mem_singleton] at he
    rcases he with he | he
    · have hne : e.toNat ≠ i := by
        intro e'
        have := (h.inr e he).1
        exact hiX (by rw [← e', Int.toNat_of_nonneg this]; exact he)
      obtain ⟨h1, h2⟩ := h.fx e he
      rw [hFoth _ hne, pre_old he]
      refine ⟨h1, ?_⟩
      rw [hEoth _ hne, h2]
      by_cases hr : reads (ev (evs 0 p) e).2.1 = true
      · rw [if_pos hr, if_pos hr, hval]
        rw [h1, if_pos hr]
        exact hlast _ _ (fun y hy => List.mem_of_mem_take hy)
      · rw [if_neg hr, if_neg hr]
    · subst he
      obtain ⟨f1, f2⟩ := h.fr i hin hiX
      rw [pre_new hiX, Int.toNat_natCast]
      generalize hL : X.filter (wX (evs 0 p) (ev (evs 0 p) (i : Int)).2.1.2.1) = L at htk hla
      have hlast := hlast X (wX (evs 0 p) (ev (evs 0 p) (i : Int)).2.1.2.1) (fun _ h => h)
      rw [hL] at hlast
      have hFi : (xF s.2.1 s.2.2.1 s.2.2.2.1 (i : Int)).getD i 0 = if reads (ev (evs 0 p) (i : Int)).2.1 = true then lastOr L else -1 := by
        unfold xF
        rw [htk, hla, Int.toNat_natCast]
        by_cases hr : reads (ev (evs 0 p) (i : Int)).2.1 = true
        · rw [if_pos hr]
          by_cases hl : 0 < L.length
          · rw [if_pos (by rw [hr, decide_eq_true hl]; rfl), getD_lt (by simp [h.fl]; exact hin)]
            unfold lastOr
            simp [hl]
          · rw [if_neg (by rw [hr, decide_eq_false hl]; simp)]
            unfold lastOr
            rw [if_neg hl]; exact f1
        · rw [if_neg hr, if_neg (by simp [hr])]
          exact f1
      refine ⟨hFi, ?_⟩
      rw [hFi]
      by_cases hr : reads (ev (evs 0 p) (i : Int)).2.1 = true
      · rw [if_pos hr, if_pos hr, hval _ hlast]
        unfold xE
        rw [htk, hla, Int.toNat_natCast]
        by_cases hl : 0 < L.length
        · rw [if_pos (by rw [hr, decide_eq_true hl]; rfl), ev_setR, if_pos ⟨by simp, by rw [h.el]; exact hin⟩]
          unfold lastOr
          rw [if_pos hl]
        · rw [if_neg (by rw [hr, decide_eq_false hl]; simp), f2]
          unfold lastOr value
          rw [if_neg hl]; rfl
      · rw [if_neg hr]
        unfold xE
        rw [htk, if_neg (by simp [hr])]
        exact f2

def seqN (p : List (List LOp)) (b : List Int) : Nat → List Int
  | 0 => []
  | k + 1 => seqN p b k ++ [pkE (runN p b k).1 (enN p p.length) b k]
theorem seqN_len (p : List (List LOp)) (b : List Int) : ∀ k, (seqN p b k).length = k
  | 0 => rfl
  | k + 1 => by simp [seqN, seqN_len p b k]
theorem IL.all {p : List (List LOp)} (hX3 : ∀ x ∈ evs 0 p, Go.Lf.inN x.2.1.2.1 3) (b : List Int) : ∀ k, k ≤ (evs 0 p).length → IL p (seqN p b k) (runN p b k)
  | 0, _ => IL.zero p b
  | k + 1, hk => (IL.all hX3 b k (by omega)).step hX3 b (k := k) (by rw [seqN_len]; omega)
end Sp
namespace Sp
theorem get2_upd2_or {r : Rel} {a b x y : Nat} {v : Bool} (h : get2 (upd2 r a b v) x y = true) : get2 r x y = true ∨ (x = a ∧ y = b ∧ v = true) := by
  unfold get2 upd2 at *
  by_cases hxa : x = a
  · subst hxa
    have e : (r.set x ((r.getD x (List.replicate 6 false)).set b v)).getD x (List.replicate 6 false) = if x < r.length then (r.getD x (List.replicate 6 false)).set b v else List.replicate 6 false := by
      rw [List.getD_eq_getElem?_getD, List.getElem?_set, if_pos rfl]
      split <;> rfl
    rw [e] at h
    split at h
    · rw [List.getD_eq_getElem?_getD, List.getElem?_set] at h
      by_cases hyb : b = y
      · subst hyb
        rw [if_pos rfl] at h
        split at h
        · exact .inr ⟨rfl, rfl, h⟩
        · cases h
      · rw [if_neg hyb, ← List.getD_eq_getElem?_getD] at h
        exact .inl h
    · rename_i h2
      left
      rw [List.getD_eq_getElem?_getD (l := r), List.getElem?_eq_none (by omega)]; exact h
  · left
    have e : (r.set a ((r.getD a (List.replicate 6 false)).set b v)).getD x (List.replicate 6 false) = r.getD x (List.replicate 6 false) := by
      rw [List.getD_eq_getElem?_getD, List.getElem?_set, if_neg (fun e => hxa e.symm), ← List.getD_eq_getElem?_getD]
    rw [e] at h; exact h
section
variable {R : Nat → Nat → Prop} (ht : ∀ a b c, R a b → R b c → R a c)
include ht
theorem stepB_in {k a b : Nat} {r : Rel} (h : ∀ x y, get2 r x y = true → R x y) : ∀ x y, get2 (stepB k a r b) x y = true → R x y := by
  intro x y hxy
  unfold stepB at hxy
  rcases get2_upd2_or hxy with h1 | ⟨rfl, rfl, h1⟩
  · exact h _ _ h1
  · simp only [Bool.or_eq_true, Bool.and_eq_true] at h1
    rcases h1 with h1 | ⟨h1, h2⟩
    · exact h _ _ h1
    · exact ht _ _ _ (h _ _ h1) (h _ _ h2)
theorem rowB_in {k a : Nat} {r : Rel} (h : ∀ x y, get2 r x y = true → R x y) : ∀ n, ∀ x y, get2 (rowB k a r n) x y = true → R x y
  | 0 => h
  | n + 1 => by rw [Go.User.rowB_succ]; exact stepB_in ht (rowB_in h n)
theorem rowA_in {k : Nat} {r : Rel} (h : ∀ x y, get2 r x y = true → R x y) : ∀ n, ∀ x y, get2 (rowA k r n) x y = true → R x y
  | 0 => h
  | n + 1 => by rw [Go.User.rowA_succ]; exact rowB_in ht (rowA_in h n) 6
theorem closeN_in {r : Rel} (h : ∀ x y, get2 r x y = true → R x y) : ∀ n, ∀ x y, get2 (closeN r n) x y = true → R x y
  | 0 => h
  | n + 1 => by rw [Go.User.closeN_succ]; exact rowA_in ht (closeN_in h n) 6
/-- The closure of a relation lies in each transitive relation that it lies in. -/
theorem close_in {r : Rel} (h : ∀ x y, get2 r x y = true → R x y) : ∀ x y, get2 (close r) x y = true → R x y := closeN_in ht h 6
end
theorem get2_mat_in {f : Nat → Nat → Bool} {a b : Nat} (h : get2 (mat f) a b = true) : a < 6 ∧ b < 6 ∧ f a b = true := by
  rcases Nat.lt_or_ge a 6 with ha | ha
  · rcases Nat.lt_or_ge b 6 with hb | hb
    · exact ⟨ha, hb, by rw [get2_mat ha hb] at h; exact h⟩
    · unfold get2 at h
      rw [mat_row ha, List.getD_eq_getElem?_getD, List.getElem?_eq_none (by simp; exact hb)] at h
      cases h
  · unfold get2 at h
    rw [List.getD_eq_getElem?_getD (l := mat f), List.getElem?_eq_none (by simp [mat]; exact ha)] at h
    simp only [Option.getD_none] at h
    rcases Nat.lt_or_ge b 6 with hb | hb
    · rw [getD_lt (by simpa using hb), List.getElem_replicate] at h; cases h
    · rw [List.getD_eq_getElem?_getD, List.getElem?_eq_none (by simpa using hb)] at h; cases h

theorem pre_cons (x : Int) (X : List Int) (a : Int) : pre (x :: X) a = if x = a then [] else x :: pre X a := by
  unfold pre
  rw [List.idxOf_cons]
  by_cases h : x = a
  · rw [if_pos h]; simp [h]
  · rw [if_neg h]
    have : (x == a) = false := by simpa using h
    rw [this]; simp
theorem idx_cons2 (x : Int) (X : List Int) (a : Int) : (x :: X).idxOf a = if x = a then 0 else X.idxOf a + 1 := by
  rw [List.idxOf_cons]
  by_cases h : x = a
  · rw [if_pos h]; simp [h]
  · rw [if_neg h]
    have : (x == a) = false := by simpa using h
    rw [this]; simp
theorem mem_pre : ∀ {X : List Int} {a b : Int}, a ∈ pre X b ↔ X.idxOf a < X.idxOf b
  | [], a, b => by simp [pre]
  | x :: X, a, b => by
    rw [pre_cons, idx_cons2, idx_cons2]
    have ih := mem_pre (X := X) (a := a) (b := b)
    by_cases h1 : x = b
    · rw [if_pos h1, if_pos h1]; simp
    · rw [if_neg h1, if_neg h1]
      by_cases h2 : x = a
      · rw [if_pos h2]; simp [h2]
      · rw [if_neg h2, List.mem_cons, ih]
        constructor
        · rintro (h | h)
          · exact absurd h.symm h2
          · omega
        · intro h; right; omega
theorem pre_pre : ∀ {X : List Int} {a b : Int}, X.idxOf a < X.idxOf b → ∃ t, pre X b = pre X a ++ a :: t
  | [], a, b, h => by simp at h
  | x :: X, a, b, h => by
    rw [idx_cons2, idx_cons2] at h
    rw [pre_cons, pre_cons]
    by_cases h1 : x = b
    · rw [if_pos h1] at h; omega
    · rw [if_neg h1] at h ⊢
      by_cases h2 : x = a
      · rw [if_pos h2]; exact ⟨pre X b, by rw [h2]; rfl⟩
      · rw [if_neg h2] at h ⊢
        obtain ⟨t, ht⟩ := pre_pre (X := X) (a := a) (b := b) (by omega)
        exact ⟨t, by rw [ht]; rfl⟩
theorem idxOf_filter {P : Int → Bool} : ∀ {X : List Int} {a : Int}, a ∈ X → P a = true → (X.filter P).idxOf a = ((pre X a).filter P).length
  | x :: X, a, h, hP => by
    rw [pre_cons]
    by_cases h2 : x = a
    · rw [if_pos h2, h2, List.filter_cons_of_pos hP, List.idxOf_cons_self]; rfl
    · rw [if_neg h2]
      have hm : a ∈ X := by
        rcases List.mem_cons.1 h with h | h
        · exact absurd h.symm h2
        · exact h
      have ih := idxOf_filter (P := P) hm hP
      by_cases hx : P x = true
      · rw [List.filter_cons_of_pos hx, List.filter_cons_of_pos hx, idx_cons2, if_neg h2, ih]; rfl
      · rw [List.filter_cons_of_neg hx, List.filter_cons_of_neg hx, ih]
theorem pre_append (X : List Int) (b : Int) : ∃ t, X = pre X b ++ t := ⟨X.drop (X.idxOf b), by unfold pre; rw [List.take_append_drop]⟩
theorem idx_of_mem {l : List Int} {a : Int} (h : a ∈ l) : idx l a = (l.idxOf a : Int) := by unfold idx; rw [if_pos h]
theorem idx_lastOr {X : List Int} {P : Int → Bool} {b : Int} (hn : X.Nodup) (h1 : (-1 : Int) ∉ X) : idx (X.filter P) (lastOr ((pre X b).filter P)) = (((pre X b).filter P).length : Int) - 1 := by
  obtain ⟨t, ht⟩ := pre_append X b
  have hf : X.filter P = (pre X b).filter P ++ t.filter P := by rw [← List.filter_append, ← ht]
  rcases lastOr_cases ((pre X b).filter P) with ⟨h2, h3⟩ | ⟨h2, h3⟩
  · rw [h3, ← idx_none (fun h => h1 (List.mem_filter.1 h).1), h2]; rfl
  · have hm : lastOr ((pre X b).filter P) ∈ X.filter P := by rw [hf]; exact List.mem_append_left _ h2
    rw [idx_of_mem hm, hf, List.idxOf_append, if_pos h2]
    have hn2 : ((pre X b).filter P).Nodup := by
      rw [ht, List.nodup_append] at hn
      exact hn.1.filter _
    generalize hL : (pre X b).filter P = L at *
    have e : lastOr L = L[L.length - 1]'(by omega) := by
      unfold lastOr; rw [if_pos h3, getD_lt (by omega)]
    rw [e, List.Nodup.idxOf_getElem hn2]
    omega
theorem isList_filter {X : List Int} {E : List LEv} {is : LOp → Bool} {P : Int → Bool} (hn : X.Nodup) (hr : ∀ e ∈ X, 0 ≤ e ∧ e < E.length) (ha : ∀ i : Nat, i < E.length → (i : Int) ∈ X) (hP : ∀ e, P e = is (ev E e).2.1) :
    isList (X.filter P) E is = true := by
  unfold isList
  simp only [Bool.and_eq_true, decide_eq_true_eq]
  refine ⟨⟨hn.filter _, fun n h => ?_⟩, fun n h h2 => ?_⟩
  · have := List.mem_filter.1 h
    exact ⟨(hr n this.1).1, (hr n this.1).2, by rw [← hP]; exact this.2⟩
  · exact List.mem_filter.2 ⟨ha n h, by rw [hP]; exact h2⟩
theorem kinds {o : LOp} (h : usual o = true) (h4 : o.1 ≠ 4) : o.1 = 1 ∨ o.1 = 2 ∨ o.1 = 3 := by
  unfold usual at h
  rw [if_neg h4] at h
  split at h
  · exact .inl (by assumption)
  · split at h
    · exact .inr (by assumption)
    · cases h

theorem run_right {t : Lit} {b : List Int} (hv : valid t = true) : RightP t (iE t b, iF t b, iM t b, iO t b, ()) ∧ ∃ X, IL t.1 X (runN t.1 b (evs 0 t.1).length) ∧ ∀ i : Nat, i < (evs 0 t.1).length → (i : Int) ∈ X := by
  have hu := valid_ev hv
  have h := IL.all (p := t.1) (fun x hx => by have := usual_X (hu.2 x hx); exact ⟨this.1, by omega⟩) b (evs 0 t.1).length (Nat.le_refl _)
  have hl := seqN_len t.1 b (evs 0 t.1).length
  generalize seqN t.1 b (evs 0 t.1).length = X at h hl
  have hall : ∀ i : Nat, i < (evs 0 t.1).length → (i : Int) ∈ X := by
    intro i hi
    refine Classical.byContradiction fun hm => ?_
    have := nodup_le (l := (i : Int) :: X) (m := (List.range (evs 0 t.1).length).map (fun (i : Nat) => (i : Int))) (List.nodup_cons.2 ⟨hm, h.nod⟩) (by
      intro x hx
      simp only [List.mem_map, List.mem_range]
      rcases List.mem_cons.1 hx with rfl | hx
      · exact ⟨i, hi, rfl⟩
      · have := h.inr x hx
        exact ⟨x.toNat, by omega, by omega⟩)
    simp at this; omega
  refine ⟨?_, X, h, hall⟩
  refine ⟨hv, h.el, h.fl, h.ml, fun n hn => ?_, fun n hn => ?_, fun q hq => ?_, ?_⟩
  · have hf := (h.fx _ (hall n hn)).1
    rw [Int.toNat_natCast] at hf
    have hs := h.same (n : Int)
    refine ⟨hs.1, hs.2, ?_⟩
    show -1 ≤ (iF t b).getD n 0 ∧ (iF t b).getD n 0 < ((evs 0 t.1).length : Int) ∧ (0 ≤ (iF t b).getD n 0 → _)
    have hf : (iF t b).getD n 0 = _ := hf
    by_cases hr : reads (ev (evs 0 t.1) (n : Int)).2.1 = true
    · rw [if_pos hr] at hf
      rcases lastOr_cases ((pre X n).filter (wX (evs 0 t.1) (ev (evs 0 t.1) (n : Int)).2.1.2.1)) with ⟨_, h2⟩ | ⟨h2, _⟩
      · rw [hf, h2]; exact ⟨by omega, by omega, fun h => by omega⟩
      · rw [← hf] at h2
        have h3 := List.mem_filter.1 h2
        have h4 := h.inr _ (List.mem_of_mem_take h3.1)
        have h5 := h3.2
        unfold wX at h5
        simp only [Bool.and_eq_true, decide_eq_true_eq] at h5
        exact ⟨by omega, h4.2, fun _ => ⟨hr, h5.1, h5.2⟩⟩
    · rw [if_neg hr] at hf
      rw [hf]; exact ⟨by omega, by omega, fun h => by omega⟩
  · have hn : n < (iE t b).length := hn
    have hn' : n < (evs 0 t.1).length := by rw [← h.el]; exact hn
    have hf := (h.fx _ (hall n hn')).2
    rw [Int.toNat_natCast] at hf
    have hs := (h.same (n : Int)).2
    unfold got
    show (ev (iE t b) n).2.2.1 = if reads (ev (iE t b) n).2.1 = true then value (iE t b) ((iF t b).getD n 0) else 0
    have hs : (ev (iE t b) n).2.1 = (ev (evs 0 t.1) n).2.1 := hs
    rw [hs]; exact hf
  · show isList ((iM t b).getD q []) (evs 0 t.1) _ = true
    have e : (iM t b).getD q [] = X.filter (wX (evs 0 t.1) (q : Int)) := h.mo q hq
    rw [e]
    exact isList_filter h.nod h.inr hall (fun e => rfl)
  · show isList (iO t b) (evs 0 t.1) _ = true
    have e : iO t b = X.filter (fX (evs 0 t.1)) := h.fo
    rw [e]
    exact isList_filter h.nod h.inr hall (fun e => rfl)

theorem run_allowed {t : Lit} {b : List Int} (hv : valid t = true) : allowed t (iE t b, iF t b, iM t b, iO t b, ()) = true := by
  obtain ⟨hR, X, h, hall⟩ := run_right (b := b) hv
  have hu := valid_ev hv
  have hEl : (iE t b).length = (evs 0 t.1).length := hR.lenE
  have hFl : (iF t b).length = (evs 0 t.1).length := hR.lenF
  have hsame : ∀ i, (ev (iE t b) i).1 = (ev (evs 0 t.1) i).1 ∧ (ev (iE t b) i).2.1 = (ev (evs 0 t.1) i).2.1 := h.same
  have hmo : ∀ x < 3, (iM t b).getD x [] = X.filter (wX (evs 0 t.1) (x : Int)) := h.mo
  have hfo : iO t b = X.filter (fX (evs 0 t.1)) := h.fo
  have hfx : ∀ e ∈ X, (iF t b).getD e.toNat 0 = (if reads (ev (evs 0 t.1) e).2.1 = true then lastOr ((pre X e).filter (wX (evs 0 t.1) (ev (evs 0 t.1) e).2.1.2.1)) else -1) := fun e he => (h.fx e he).1
  have hne : (-1 : Int) ∉ X := fun hm => by have := (h.inr _ hm).1; omega
  have hpo := h.po
  have hnod := h.nod
  generalize hE : evs 0 t.1 = E0 at *
  generalize iE t b = E at *
  generalize iF t b = F at *
  generalize iM t b = M at *
  generalize iO t b = O at *
  have htr : ∀ a b c : Nat, X.idxOf (a : Int) < X.idxOf (b : Int) → X.idxOf (b : Int) < X.idxOf (c : Int) → X.idxOf (a : Int) < X.idxOf (c : Int) := fun a b c h1 h2 => by omega
  have hord : ∀ a c : Nat, ordF E O a c = true → X.idxOf (a : Int) < X.idxOf (c : Int) := by
    intro a c hac
    unfold ordF at hac
    simp only [Bool.or_eq_true, Bool.and_eq_true, decide_eq_true_eq, List.any_eq_true, List.mem_range] at hac
    rcases hac with ⟨⟨h1, h2⟩, h3⟩ | ⟨j, hj, i, hi, h1, h2⟩
    · rw [(hsame _).1, (hsame _).1] at h3
      have hc' : c < E0.length := by omega
      have ha' : a < E0.length := by omega
      rw [← hE] at hc' ha'
      obtain ⟨c1, k1, k2, k3⟩ := core_ex ha'
      obtain ⟨c2, m1, m2, m3⟩ := core_ex hc'
      have e1 := ev_core k1 k2 k3
      have e2 := ev_core m1 m2 m3
      rw [hE] at e1 e2
      rw [e1, e2] at h3
      have : c1 = c2 := by omega
      subst this
      exact hpo c1 k1 a c k2 h1 m3 (hall c (by rw [← hE]; exact hc'))
    · have hOn : O.Nodup := by rw [hfo]; exact hnod.filter _
      rw [getD_lt (by omega)] at h1 h2
      have ha : (a : Int) ∈ X.filter (fX E0) := by rw [← hfo, ← h1]; exact List.getElem_mem _
      have hc : (c : Int) ∈ X.filter (fX E0) := by rw [← hfo, ← h2]; exact List.getElem_mem _
      have i1 : O.idxOf (a : Int) = i := by rw [← h1, List.Nodup.idxOf_getElem hOn]
      have i2 : O.idxOf (c : Int) = j := by rw [← h2, List.Nodup.idxOf_getElem hOn]
      have ha := List.mem_filter.1 ha
      have hc := List.mem_filter.1 hc
      rw [hfo, idxOf_filter ha.1 ha.2] at i1
      rw [hfo, idxOf_filter hc.1 hc.2] at i2
      rcases Nat.lt_trichotomy (X.idxOf (a : Int)) (X.idxOf (c : Int)) with h5 | h5 | h5
      · exact h5
      · exfalso
        have : pre X a = pre X c := by unfold pre; rw [h5]
        rw [this] at i1; omega
      · exfalso
        obtain ⟨t', ht'⟩ := pre_pre h5
        rw [ht', List.filter_append, List.length_append] at i1
        omega
  have hfl : ∀ a c : Nat, flowN (E, F, M, O, ()) F.length a c = true → X.idxOf (a : Int) < X.idxOf (c : Int) := by
    intro a c hac
    unfold flowN at hac
    simp only [Bool.or_eq_true, Bool.and_eq_true, decide_eq_true_eq] at hac
    rcases hac with hac | ⟨h1, h2⟩
    · exact hord a c hac
    · have h3 := hfx _ (hall c (by omega))
      rw [Int.toNat_natCast, h2] at h3
      split at h3
      · rcases lastOr_cases ((pre X c).filter (wX E0 (ev E0 (c : Int)).2.1.2.1)) with ⟨_, h5⟩ | ⟨h5, _⟩
        · omega
        · rw [← h3] at h5
          exact mem_pre.1 (List.mem_filter.1 h5).1
      · omega
  have hflow : ∀ a c : Nat, get2 (flow (E, F, M, O, ())) a c = true → X.idxOf (a : Int) < X.idxOf (c : Int) := by
    intro a c hac
    exact close_in htr (fun x y hxy => hfl x y (get2_mat_in hxy).2.2) a c hac
  have hbef : ∀ a c : Nat, get2 (before (E, F, M, O, ())) a c = true → X.idxOf (a : Int) < X.idxOf (c : Int) := by
    intro a c hac
    exact close_in htr (fun x y hxy => hord x y (get2_mat_in hxy).2.2) a c hac
  have hround : round (flow (E, F, M, O, ())) = false := by
    unfold round
    rw [List.any_eq_false]
    intro a ha hh
    have := hflow a a hh
    omega
  have hX3 : ∀ a : Nat, a < E0.length → 0 ≤ (ev E0 a).2.1.2.1 ∧ (ev E0 a).2.1.2.1 < 3 := fun a ha => usual_X (hu.2 _ (ev_mem ha))
  have hplc : ∀ a : Nat, a < E0.length → plc (E, F, M, O, ()) (a : Int) = (idx (X.filter (wX E0 (ev E0 a).2.1.2.1)) a, idx (X.filter (wX E0 (ev E0 a).2.1.2.1)) (F.getD a 0), ()) := by
    intro a ha
    have := hX3 a ha
    unfold plc
    simp only [Int.toNat_natCast]
    rw [(hsame _).2, hmo _ (by omega), show (((ev E0 (a : Int)).2.1.2.1.toNat : Nat) : Int) = (ev E0 (a : Int)).2.1.2.1 from by omega]
  have hw : ∀ a : Nat, a < E0.length → writes (ev E0 a).2.1 = true → (plc (E, F, M, O, ()) (a : Int)).1 = (((pre X a).filter (wX E0 (ev E0 a).2.1.2.1)).length : Int) := by
    intro a ha hwr
    rw [hplc a ha]
    have hwx : wX E0 (ev E0 (a : Int)).2.1.2.1 (a : Int) = true := by unfold wX; rw [hwr]; simp
    simp only
    rw [idx_of_mem (List.mem_filter.2 ⟨hall a ha, hwx⟩), idxOf_filter (hall a ha) hwx]
  have hr : ∀ a : Nat, a < E0.length → reads (ev E0 a).2.1 = true → (plc (E, F, M, O, ()) (a : Int)).2.1 = (((pre X a).filter (wX E0 (ev E0 a).2.1.2.1)).length : Int) - 1 := by
    intro a ha hrd
    rw [hplc a ha]
    have hfa := hfx _ (hall a ha)
    rw [Int.toNat_natCast, if_pos hrd] at hfa
    simp only
    rw [hfa, idx_lastOr hnod hne]
  unfold allowed
  rw [(right_iff _ _).2 hR, hround]
  simp only [Bool.not_false, Bool.and_true, Bool.true_and, decide_eq_true_eq]
  intro a ha
  have ha' : a < E0.length := by rw [← hEl]; exact ha
  unfold okEv
  simp only
  rw [(hsame _).2]
  by_cases h4 : (ev E0 (a : Int)).2.1.1 = 4
  · exact .inl h4
  · right
    have hka := kinds (hu.2 _ (ev_mem ha')) h4
    refine ⟨?_, fun c hc => ?_⟩
    · unfold badAdd
      simp only
      rw [(hsame _).2]
      by_cases h3 : (ev E0 (a : Int)).2.1.1 = 3
      · rw [hr a ha' (by unfold reads; rw [h3]; rfl), hw a ha' (by unfold writes; rw [h3]; rfl)]
        simp
      · rw [decide_eq_false h3]; rfl
    · have hc' : c < E0.length := by rw [← hEl]; exact hc
      unfold badPair
      simp only
      rw [(hsame _).2, (hsame _).2]
      cases hb : get2 (before (E, F, M, O, ())) a c
      · rfl
      by_cases hc4 : (ev E0 (c : Int)).2.1.1 = 4
      · rw [decide_eq_true hc4]; rfl
      by_cases hx : (ev E0 (a : Int)).2.1.2.1 = (ev E0 (c : Int)).2.1.2.1
      · rw [decide_eq_false hc4, decide_eq_true hx]
        simp only [Bool.not_false, Bool.and_true, Bool.true_and, Bool.not_eq_false']
        have hkc := kinds (hu.2 _ (ev_mem hc')) hc4
        have hlt := hbef a c hb
        obtain ⟨t', ht'⟩ := pre_pre hlt
        have hcnt : ((pre X c).filter (wX E0 (ev E0 c).2.1.2.1)).length = ((pre X a).filter (wX E0 (ev E0 a).2.1.2.1)).length + (([(a : Int)].filter (wX E0 (ev E0 a).2.1.2.1)).length + (t'.filter (wX E0 (ev E0 a).2.1.2.1)).length) := by
          rw [← hx, ht', show (pre X a ++ (a : Int) :: t') = pre X a ++ ([(a : Int)] ++ t') from rfl, List.filter_append, List.filter_append, List.length_append, List.length_append]
        have hone : writes (ev E0 (a : Int)).2.1 = true → ([(a : Int)].filter (wX E0 (ev E0 a).2.1.2.1)).length = 1 := by
          intro hwr
          have hwx : wX E0 (ev E0 (a : Int)).2.1.2.1 (a : Int) = true := by unfold wX; rw [hwr]; simp
          rw [List.filter_cons_of_pos hwx]; rfl
        unfold coh
        simp only
        rw [(hsame _).2, (hsame _).2]
        have hlow : ∀ low : Int, low = (if writes (ev E0 (a : Int)).2.1 = true then (plc (E, F, M, O, ()) (a : Int)).1 else (plc (E, F, M, O, ()) (a : Int)).2.1) → low + 1 ≤ (((pre X c).filter (wX E0 (ev E0 c).2.1.2.1)).length : Int) := by
          intro low hlow
          by_cases hwa : writes (ev E0 (a : Int)).2.1 = true
          · rw [if_pos hwa, hw a ha' hwa] at hlow
            have := hone hwa
            omega
          · rw [if_neg hwa] at hlow
            have hra : reads (ev E0 (a : Int)).2.1 = true := by
              unfold reads writes at *
              simp only [Bool.or_eq_true, decide_eq_true_eq] at *
              omega
            rw [hr a ha' hra] at hlow
            omega
        have hlow := hlow _ rfl
        generalize (if writes (ev E0 (a : Int)).2.1 = true then (plc (E, F, M, O, ()) (a : Int)).1 else (plc (E, F, M, O, ()) (a : Int)).2.1) = low at *
        simp only [Bool.and_eq_true, Bool.not_eq_true', Bool.and_eq_false_iff, decide_eq_false_iff_not]
        constructor
        · cases hrc : reads (ev E0 (c : Int)).2.1
          · exact .inl rfl
          · right; rw [hr c hc' hrc]; omega
        · cases hwc : writes (ev E0 (c : Int)).2.1
          · exact .inl rfl
          · right; rw [hw c hc' hwc]; omega
      · rw [decide_eq_false hx]; simp

/-- The tests of bytes are valid. -/
theorem opOf_usual {b : List Int} (h : ∀ x ∈ b, Go.Lf.inK .u8 x) (i : Nat) : usual (opOf b i) = true := by
  have h1 := byte_at h i
  have h2 := byte_at h (i + 1)
  have t1 := Int.tmod_nonneg 3 (show 0 ≤ b.getD i 0 / 4 by omega)
  have t2 := Int.tmod_lt_of_pos (b.getD i 0 / 4) (show (0 : Int) < 3 by omega)
  have t3 := Int.tmod_nonneg 9 (show 0 ≤ b.getD (i + 1) 0 / 4 by omega)
  have t4 := Int.tmod_lt_of_pos (b.getD (i + 1) 0 / 4) (show (0 : Int) < 9 by omega)
  unfold usual opOf
  simp only
  generalize (b.getD i 0 / 4).tmod 3 = q at *
  generalize (b.getD (i + 1) 0 / 4).tmod 9 = r at *
  by_cases h4 : 1 + b.getD i 0 % 4 = 4
  · rw [if_pos h4, if_pos h4, if_neg (by omega)]; rfl
  · rw [if_neg h4, if_neg h4]
    by_cases h3 : 1 + b.getD i 0 % 4 = 1
    · have h23 : ¬ (1 + b.getD i 0 % 4 = 2 ∨ 1 + b.getD i 0 % 4 = 3) := by omega
      simp only [if_pos h3, if_neg h23, Bool.and_eq_true, decide_eq_true_eq, and_true]; omega
    · have h23 : 1 + b.getD i 0 % 4 = 2 ∨ 1 + b.getD i 0 % 4 = 3 := by omega
      simp only [if_neg h3, if_pos h23, Bool.and_eq_true, decide_eq_true_eq]; omega
theorem madeN_usual {b : List Int} (h : ∀ x ∈ b, Go.Lf.inK .u8 x) : ∀ k, ∀ l ∈ madeN b k, ∀ o ∈ l, usual o = true
  | 0, l, hl, o, ho => by
    simp only [madeN, List.mem_replicate] at hl
    rw [hl.2] at ho; cases ho
  | k + 1, l, hl, o, ho => by
    have ih := madeN_usual h k
    unfold madeN addOp at hl
    rcases List.mem_or_eq_of_mem_set hl with hl | rfl
    · exact ih l hl o ho
    · rw [List.mem_append] at ho
      rcases ho with ho | ho
      · have hc := cOf h (2 * k + 2)
        have hlen := madeN_len b k
        rw [getD_lt (by omega)] at ho
        exact ih _ (List.getElem_mem _) o ho
      · simp only [List.mem_singleton] at ho
        rw [ho]; exact opOf_usual h _
theorem madeP_valid {b : List Int} (h : ∀ x ∈ b, Go.Lf.inK .u8 x) : valid (madeP b, ()) = true := by
  have hK : nK b ≤ 6 := by unfold nK; omega
  have hl := madeN_evs h (nK b)
  have hlen := madeN_len b (nK b)
  have hnr := nC_range b
  have hm : ∀ l ∈ madeP b, ∀ o ∈ l, usual o = true := by
    intro l hl' o ho
    unfold madeP at hl'
    split at hl'
    · rcases List.mem_or_eq_of_mem_set hl' with h1 | rfl
      · exact madeN_usual h _ l h1 o ho
      · simp only [List.mem_singleton] at ho
        rw [ho]; rfl
    · exact madeN_usual h _ l hl' o ho
  have hn : 1 ≤ (evs 0 (madeP b)).length ∧ (evs 0 (madeP b)).length ≤ 6 ∧ (madeP b).length = (nC b).toNat := by
    unfold madeP
    split
    · rename_i h0
      have hz : (madeN b (nK b)).getD 0 [] = [] := by
        have := evs_get (madeN b (nK b)) 0 0
        exact List.length_eq_zero_iff.1 (by omega)
      have := evs_set (1, 0, 0, ()) (madeN b (nK b)) 0 0 (by omega)
      rw [hz, List.nil_append] at this
      rw [this]; simp; omega
    · omega
  unfold valid
  simp only [Bool.and_eq_true, decide_eq_true_eq, List.all_eq_true]
  refine ⟨⟨⟨⟨by omega, by omega⟩, hn.1⟩, hn.2.1⟩, fun x hx => ?_⟩
  obtain ⟨l, h1, h2⟩ := mem_evs _ _ x hx
  exact hm l h1 _ h2
end Sp
