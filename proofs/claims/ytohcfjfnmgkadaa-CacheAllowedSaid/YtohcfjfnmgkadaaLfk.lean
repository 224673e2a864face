/- Taken over from another seat by conv.py: it is computed. Litmus tests of bytes; the law that caches are allowed: what is computed. Written by gen.py: what is left to show of each function. Caches without coherence, by what each core would read: plain facts; what is kept by each step. Caches without coherence: each step keeps what is known. -/
import Derived.Test.YtohcfjfnmgkadaaLfj
set_option linter.unusedVariables false
set_option linter.unusedSimpArgs false
namespace Sp.Ax
open Relation
theorem not_mem_take_succ {α : Type} {l : List α} {i : Nat} {n d : α} (h : n ∉ l.take i) (hi : i < l.length) (hn : l.getD i d ≠ n) : n ∉ l.take (i + 1) := by
  rw [List.take_succ_eq_append_getElem hi]
  simp only [List.mem_append, List.mem_singleton, not_or]
  refine ⟨h, fun e => hn ?_⟩
  rw [List.getD_eq_getElem?_getD, List.getElem?_eq_getElem hi]
  exact e.symm
theorem idx_at {l : List Int} {n : Int} {i : Nat} (h : n ∉ l.take i) (hi : i < l.length) (hn : l.getD i 0 = n) : (i : Int) = idx l n := by
  have hg : l[i] = n := by rw [List.getD_eq_getElem?_getD, List.getElem?_eq_getElem hi] at hn; exact hn
  have hm : n ∈ l := hg ▸ List.getElem_mem hi
  unfold idx
  rw [if_pos hm]
  have e : l.idxOf n = i := by
    have := List.idxOf_append (l₁ := l.take i) (l₂ := l.drop i) (a := n)
    rw [List.take_append_drop, if_neg h, List.drop_eq_getElem_cons hi, hg, List.idxOf_cons_self, List.length_take] at this
    omega
  rw [e]
theorem idx_none {l : List Int} {n : Int} (h : n ∉ l) : (-1 : Int) = idx l n := by unfold idx; rw [if_neg h]
theorem take_all {α : Type} {l : List α} {i : Nat} (h1 : i ≤ l.length) (h2 : (l.length : Int) ≤ (i : Int)) : l.take i = l := List.take_of_length_le (by omega)
theorem findI_at {l : List LEv} {p : LEv → Bool} {i : Nat} (h : ∀ e ∈ l.take i, p e = false) (hi : i < l.length) (hp : p (l.getD i ev0) = true) : (i : Int) = findI p l := by
  have hg : l.getD i ev0 = l[i] := by rw [List.getD_eq_getElem?_getD, List.getElem?_eq_getElem hi]; rfl
  rw [hg] at hp
  unfold findI
  have : l.findIdx? p = some i := by
    rw [List.findIdx?_eq_some_iff_getElem]
    refine ⟨hi, hp, fun j hj => ?_⟩
    have := h l[j] (List.mem_take_iff_getElem.2 ⟨j, by omega, rfl⟩)
    rw [this]; simp
  rw [this]
theorem findI_none {l : List LEv} {p : LEv → Bool} (h : ∀ e ∈ l, p e = false) : (-1 : Int) = findI p l := by
  unfold findI
  have : l.findIdx? p = none := by
    rw [List.findIdx?_eq_none_iff]; exact h
  rw [this]
theorem findI_any (l : List LEv) (p : LEv → Bool) : decide (0 ≤ findI p l) = l.any p := by
  unfold findI
  cases h : l.findIdx? p with
  | none =>
    rw [List.findIdx?_eq_none_iff] at h
    have : l.any p = false := by rw [List.any_eq_false]; intro x hx; rw [h x hx]; simp
    rw [this]; rfl
  | some i =>
    rw [List.findIdx?_eq_some_iff_getElem] at h
    obtain ⟨hi, hp, _⟩ := h
    have : l.any p = true := List.any_eq_true.2 ⟨_, List.getElem_mem hi, hp⟩
    rw [this]
    simp
end Sp.Ax
namespace Go.User.Ax
open Go.Lf Go.Proofs
theorem lim_eq : lim = 140737488355328 := rfl
theorem inK_of {z : Int} (h1 : -9223372036854775808 ≤ z) (h2 : z ≤ 9223372036854775807) : inK .i64 z := ⟨h1, h2⟩
/-- A counter below a length may go on. -/
theorem inK_succ {i n : Nat} (h : (i : Int) < (n : Int)) (hn : n ≤ lim) : inK .i64 ((i : Int) + 1) := by rw [lim_eq] at hn; exact inK_of (by omega) (by omega)
theorem inN_of {i n : Nat} (h : (i : Int) < (n : Int)) : inN (i : Int) n := ⟨by omega, h⟩
theorem okA {n : Nat} {fns : List (FuncId × FSpec)} (h : ∀ f s, Lf.look fns f = some s → FOk Try.prog f s) : CtxOK Try.prog (mkC n fns) := ctx_okQ 0 rfl rfl h ptrs_nil (fun _ h => by cases h) (fun _ h => by cases h) ins_nil
theorem ok53 : FOk Try.prog 53 S53 := by
  refine FOk.intro (okA fns_nil) (stpQ_ok (okA fns_nil)) Try.call53 Try.func53 (by kernel_rfl) (by kernel_rfl) L53 (vc53.mpr ?_)
  simp only [z1, z2, z3, z4, z5, z6, z7, z8, z9, z10, z11, z12, z13, z14, z15, z16, z17, z18, z19, z20, z21, z22, z23, z24, z25, z26, z27, z28, z29, z30, z31, z32, z33, z34, z35, z36, z37, z38, dFact]
  intro x hx
  refine ⟨⟨0, ⟨Nat.zero_le _, by simp⟩, rfl⟩, ?_⟩
  intro i hi hk
  refine ⟨fun hlt => ⟨inN_of hlt, fun h => Sp.Ax.idx_at hi.2 (by omega) h.symm, fun h => ⟨inK_succ hlt hx.1.1, i + 1, ⟨by omega, Sp.Ax.not_mem_take_succ hi.2 (by omega) (fun e => h e.symm)⟩, by omega, by omega⟩⟩, fun hge => ?_⟩
  have := hi.2
  rw [Sp.Ax.take_all hi.1 hge] at this
  exact Sp.Ax.idx_none this
theorem ok29 : FOk Try.prog 29 S29 := FOk.intro (okA fns_nil) (stpQ_ok (okA fns_nil)) Try.call29 Try.func29 (by kernel_rfl) (by kernel_rfl) L29 (vc29.mpr (by simp only [z1, z2, z3, z4, z5, z6, z7, z8, z9, z10, z11, z12, z13, z14, z15, z16, z17, z18, z19, z20, z21, z22, z23, z24, z25, z26, z27, z28, z29, z30, z31, z32, z33, z34, z35, z36, z37, z38, dFact]; first | done | exact (fun x hx => rfl)))
theorem ok30 : FOk Try.prog 30 S30 := FOk.intro (okA fns_nil) (stpQ_ok (okA fns_nil)) Try.call30 Try.func30 (by kernel_rfl) (by kernel_rfl) L30 (vc30.mpr (by simp only [z1, z2, z3, z4, z5, z6, z7, z8, z9, z10, z11, z12, z13, z14, z15, z16, z17, z18, z19, z20, z21, z22, z23, z24, z25, z26, z27, z28, z29, z30, z31, z32, z33, z34, z35, z36, z37, z38, dFact]; first | done | exact (fun x hx => rfl)))
theorem ok52 : FOk Try.prog 52 S52 := by
  refine FOk.intro (okA fns_nil) (stpQ_ok (okA fns_nil)) Try.call52 Try.func52 (by kernel_rfl) (by kernel_rfl) L52 (vc52.mpr ?_)
  simp only [z1, z2, z3, z4, z5, z6, z7, z8, z9, z10, z11, z12, z13, z14, z15, z16, z17, z18, z19, z20, z21, z22, z23, z24, z25, z26, z27, z28, z29, z30, z31, z32, z33, z34, z35, z36, z37, z38, dFact]
  intro x hx
  refine ⟨fun h => ?_, fun h => ⟨fun h1 => ?_, fun h1 => ⟨fun h2 => ⟨fun _ => ?_, fun h3 => absurd h2 h3⟩, fun h2 => ⟨fun h3 => ?_, fun h3 => ?_⟩⟩⟩⟩
  · simp [Sp.Ax.usual, h]
  · simp [Sp.Ax.usual, h1]; rfl
  · simp [Sp.Ax.usual, h2]
  · simp [Sp.Ax.usual, h3]
  · simp [Sp.Ax.usual, h, h1, h2, h3]
theorem ok51 : FOk Try.prog 51 S51 :=
  have hC : CtxOK Try.prog C51 := okA (fns_cons ok52 fns_nil)
  FOk.intro hC (stpQ_ok hC) Try.call51 Try.func51 (by kernel_rfl) (by kernel_rfl) L51 (vc51.mpr (by simp only [z1, z2, z3, z4, z5, z6, z7, z8, z9, z10, z11, z12, z13, z14, z15, z16, z17, z18, z19, z20, z21, z22, z23, z24, z25, z26, z27, z28, z29, z30, z31, z32, z33, z34, z35, z36, z37, z38, dFact]; first | done | exact (fun x hx => rfl)))
theorem ok63 : FOk Try.prog 63 S63 := by
  refine FOk.intro (okA fns_nil) (stpQ_ok (okA fns_nil)) Try.call63 Try.func63 (by kernel_rfl) (by kernel_rfl) L63 (vc63.mpr ?_)
  simp only [z1, z2, z3, z4, z5, z6, z7, z8, z9, z10, z11, z12, z13, z14, z15, z16, z17, z18, z19, z20, z21, z22, z23, z24, z25, z26, z27, z28, z29, z30, z31, z32, z33, z34, z35, z36, z37, z38, dFact]
  intro x hp hx
  refine ⟨⟨0, ⟨Nat.zero_le _, by simp⟩, rfl⟩, ?_⟩
  intro i hi hk
  refine ⟨fun hlt => ⟨⟨inN_of hlt, hp _⟩, fun h => Sp.Ax.findI_at hi.2 (by omega) h, fun h => ⟨inK_succ hlt hx.1, i + 1, ⟨by omega, ?_⟩, by omega, by omega⟩⟩, fun hge => ?_⟩
  · intro e he
    rw [List.take_succ_eq_append_getElem (by omega)] at he
    rcases List.mem_append.1 he with he | he
    · exact hi.2 e he
    · simp only [List.mem_singleton] at he
      rw [List.getD_eq_getElem?_getD, List.getElem?_eq_getElem (by omega)] at h
      rw [he]; exact h
  · have := hi.2
    rw [Sp.Ax.take_all hi.1 hge] at this
    exact Sp.Ax.findI_none this
theorem ok50 : FOk Try.prog 50 S50 :=
  have hC : CtxOK Try.prog C50 := okA (fns_cons ok63 fns_nil)
  FOk.intro hC (stpQ_ok hC) Try.call50 Try.func50 (by kernel_rfl) (by kernel_rfl) L50 (vc50.mpr (by simp only [z1, z2, z3, z4, z5, z6, z7, z8, z9, z10, z11, z12, z13, z14, z15, z16, z17, z18, z19, z20, z21, z22, z23, z24, z25, z26, z27, z28, z29, z30, z31, z32, z33, z34, z35, z36, z37, z38, dFact]; exact (fun x hp hx => ⟨hp, Sp.Ax.findI_any _ _⟩)))
theorem value_vc {e : List Sp.LEv} {n : Int} : (n < 0 → (0 : Int) = Sp.Ax.value e n) ∧ (0 ≤ n → (Sp.Ax.ev e n).2.1.1 = 3 → IntKind.wrap .i64 ((Sp.Ax.ev e n).2.2.1 + (Sp.Ax.ev e n).2.1.2.2.1) = Sp.Ax.value e n) ∧
    (0 ≤ n → ¬ (Sp.Ax.ev e n).2.1.1 = 3 → (Sp.Ax.ev e n).2.1.2.2.1 = Sp.Ax.value e n) := by
  refine ⟨fun h => ?_, fun h h1 => ?_, fun h h1 => ?_⟩
  · unfold Sp.Ax.value; rw [if_pos h]
  · unfold Sp.Ax.value; rw [if_neg (by omega), if_pos h1]
  · unfold Sp.Ax.value; rw [if_neg (by omega), if_neg h1]
theorem okW {n : Nat} {fns : List (FuncId × FSpec)} {wr : List Nat} (h : ∀ f s, Lf.look fns f = some s → FOk Try.prog f s) : CtxOK Try.prog { mkC n fns with wrp := wr } := ctx_okQ 0 rfl rfl h ptrs_nil (fun _ h => by cases h) (fun _ h => by cases h) ins_nil
theorem ok31 : FOk Try.prog 31 S31 := by
  refine FOk.intro (okW fns_nil) (stpQ_ok (okW fns_nil)) Try.call31 Try.func31 (by kernel_rfl) (by kernel_rfl) L31 (vc31.mpr ?_)
  simp only [z1, z2, z3, z4, z5, z6, z7, z8, z9, z10, z11, z12, z13, z14, z15, z16, z17, z18, z19, z20, z21, z22, z23, z24, z25, z26, z27, z28, z29, z30, z31, z32, z33, z34, z35, z36, z37, z38, dFact]
  intro x hp hx
  have hv := value_vc (e := x.1.1) (n := x.2.1)
  exact ⟨fun h => hv.1 h, fun h => ⟨⟨h, hp⟩, fun h1 => ⟨⟨h, hp⟩, hv.2.1 h h1⟩, fun h1 => ⟨⟨h, hp⟩, hv.2.2 h h1⟩⟩⟩
theorem ok33 : FOk Try.prog 33 S33 :=
  have hC : CtxOK Try.prog C33 := okA (fns_cons ok30 fns_nil)
  FOk.intro hC (stpQ_ok hC) Try.call33 Try.func33 (by kernel_rfl) (by kernel_rfl) L33 (vc33.mpr (by simp only [z1, z2, z3, z4, z5, z6, z7, z8, z9, z10, z11, z12, z13, z14, z15, z16, z17, z18, z19, z20, z21, z22, z23, z24, z25, z26, z27, z28, z29, z30, z31, z32, z33, z34, z35, z36, z37, z38, dFact]; first | done | exact (fun x hx => rfl)))
theorem ok34 : FOk Try.prog 34 S34 := FOk.intro (okA fns_nil) (stpQ_ok (okA fns_nil)) Try.call34 Try.func34 (by kernel_rfl) (by kernel_rfl) L34 (vc34.mpr (by simp only [z1, z2, z3, z4, z5, z6, z7, z8, z9, z10, z11, z12, z13, z14, z15, z16, z17, z18, z19, z20, z21, z22, z23, z24, z25, z26, z27, z28, z29, z30, z31, z32, z33, z34, z35, z36, z37, z38, dFact]; first | done | exact (fun x hx => rfl)))
end Go.User.Ax
namespace Sp.Ax
open Relation
theorem getD_lt {α : Type} {l : List α} {i : Nat} {d : α} (h : i < l.length) : l.getD i d = l[i] := by rw [List.getD_eq_getElem?_getD, List.getElem?_eq_getElem h]; rfl
theorem evs_append : ∀ (c : Int) (p q : List (List LOp)), evs c (p ++ q) = evs c p ++ evs (c + p.length) q
  | c, [], q => by simp [evs]
  | c, l :: p, q => by
    simp only [List.cons_append, evs, evs_append (c + 1) p q, List.append_assoc, List.length_cons]
    congr 3; omega
theorem evs_succ {p : List (List LOp)} {i : Nat} (h : i < p.length) : evs 0 (p.take (i + 1)) = evs 0 (p.take i) ++ (p.getD i []).map (mkEv (i : Int)) := by
  rw [List.take_succ_eq_append_getElem h, evs_append, getD_lt h]
  simp only [evs, List.append_nil, List.length_take]
  congr 2; congr 1; omega
theorem evs_le {p : List (List LOp)} {i k : Nat} (h : i < p.length) (hk : k ≤ (p.getD i []).length) : (evs 0 (p.take i) ++ ((p.getD i []).take k).map (mkEv (i : Int))).length ≤ (evs 0 p).length := by
  have h1 : evs 0 p = evs 0 (p.take (i + 1)) ++ evs (0 + ((p.take (i + 1)).length : Int)) (p.drop (i + 1)) := by rw [← evs_append, List.take_append_drop]
  rw [h1, evs_succ h]
  simp only [List.length_append, List.length_map, List.length_take]
  omega
theorem map_take_succ {l : List LOp} {k : Nat} (c : Int) (h : k < l.length) : (l.take (k + 1)).map (mkEv c) = (l.take k).map (mkEv c) ++ [mkEv c (l.getD k (0, 0, 0, ()))] := by
  rw [List.take_succ_eq_append_getElem h, List.map_append, getD_lt h]; rfl
theorem mat_ext {f g : Nat → Nat → Bool} (h : ∀ a b, a < 6 → b < 6 → f a b = g a b) : mat f = mat g := by
  unfold mat
  refine List.map_congr_left fun a ha => List.map_congr_left fun b hb => ?_
  exact h a b (List.mem_range.1 ha) (List.mem_range.1 hb)
theorem mat_const : List.replicate 6 (List.replicate 6 false) = mat fun _ _ => false := rfl
theorem mat_row {f : Nat → Nat → Bool} {a : Nat} (h : a < 6) {d : List Bool} : (mat f).getD a d = (List.range 6).map (f a) := by
  have : a < (mat f).length := by simp [mat]; exact h
  rw [getD_lt this]; simp [mat]
theorem get2_mat {f : Nat → Nat → Bool} {a b : Nat} (ha : a < 6) (hb : b < 6) : get2 (mat f) a b = f a b := by
  unfold get2
  rw [mat_row ha, getD_lt (by simp; exact hb)]; simp
theorem mat_set {f : Nat → Nat → Bool} {a b : Nat} (ha : a < 6) (hb : b < 6) {d : List Bool} {v : Bool} :
    (mat f).set a (((mat f).getD a d).set b v) = mat fun x y => if x = a ∧ y = b then v else f x y := by
  rw [mat_row ha]
  apply List.ext_getElem
  · simp [mat]
  · intro i h1 h2
    simp only [List.getElem_set, mat, List.getElem_map, List.getElem_range]
    by_cases hi : a = i
    · subst hi
      rw [if_pos rfl]
      apply List.ext_getElem
      · simp
      · intro j h3 h4
        simp only [List.getElem_set, List.getElem_map, List.getElem_range, true_and]
        by_cases hj : b = j
        · subst hj; simp
        · rw [if_neg hj, if_neg (fun h => hj h.symm)]
    · rw [if_neg hi]
      refine List.map_congr_left fun y hy => ?_
      rw [if_neg (fun h => hi h.1.symm)]
end Sp.Ax
namespace Go.User.Ax
open Go.Lf Go.Proofs
theorem maxNew_eq : maxNew = 2147483648 := rfl
theorem ok27 : FOk Try.prog 27 S27 := by
  refine FOk.intro (okA fns_nil) (stpQ_ok (okA fns_nil)) Try.call27 Try.func27 (by kernel_rfl) (by kernel_rfl) L27 (vc27.mpr ?_)
  simp only [z1, z2, z3, z4, z5, z6, z7, z8, z9, z10, z11, z12, z13, z14, z15, z16, z17, z18, z19, z20, z21, z22, z23, z24, z25, z26, z27, z28, z29, z30, z31, z32, z33, z34, z35, z36, z37, z38, dFact]
  intro x hp hx
  refine ⟨⟨(0, []), ⟨Nat.zero_le _, rfl⟩, rfl, rfl⟩, ?_⟩
  intro i hi hk
  refine ⟨fun hlt => ⟨inN_of hlt, ⟨(0, i.2), ⟨Nat.zero_le _, by simp [hi.2]⟩, rfl, rfl⟩, ?_⟩, fun hge => ?_⟩
  · intro k hk1 hk2
    have hi' : i.1 < x.1.1.length := by omega
    have hl : (x.1.1.getD i.1 []).length ≤ lim := by
      rw [Sp.Ax.getD_lt hi']; exact (hx.2 _ (List.getElem_mem hi')).1
    refine ⟨fun hlt2 => ⟨inN_of hlt2, ?_, inK_succ hlt2 hl, (k.1 + 1, _), ⟨by show k.1 + 1 ≤ _; omega, ?_⟩, by show _ - (k.1 + 1) < _; omega, by show (_ : Int) = ((k.1 + 1 : Nat) : Int); omega, rfl⟩,
      fun hge2 => ⟨inK_succ hlt hx.1, (i.1 + 1, k.2), ⟨by show i.1 + 1 ≤ _; omega, ?_⟩, by show _ - (i.1 + 1) < _; omega, by show (_ : Int) = ((i.1 + 1 : Nat) : Int); omega, rfl⟩⟩
    · have := Sp.Ax.evs_le hi' hk1.1
      rw [← hk1.2] at this
      rw [maxNew_eq]; omega
    · show k.2 ++ _ = Sp.Ax.evs 0 (List.take i.1 x.1.1) ++ List.map (Sp.Ax.mkEv (i.1 : Int)) (List.take (k.1 + 1) (x.1.1.getD i.1 []))
      rw [hk1.2, Sp.Ax.map_take_succ _ (by omega), List.append_assoc]; rfl
    · show k.2 = Sp.Ax.evs 0 (List.take (i.1 + 1) x.1.1)
      rw [hk1.2, Sp.Ax.evs_succ hi', List.take_of_length_le (l := x.1.1.getD i.1 []) (by omega)]
  · rw [hi.2, Sp.Ax.take_all hi.1 hge]
theorem ok38 : FOk Try.prog 38 S38 := by
  have hC : CtxOK Try.prog C38 := okA (fns_cons ok53 fns_nil)
  refine FOk.intro hC (stpQ_ok hC) Try.call38 Try.func38 (by kernel_rfl) (by kernel_rfl) L38 (vc38.mpr ?_)
  simp only [z1, z2, z3, z4, z5, z6, z7, z8, z9, z10, z11, z12, z13, z14, z15, z16, z17, z18, z19, z20, z21, z22, z23, z24, z25, z26, z27, z28, z29, z30, z31, z32, z33, z34, z35, z36, z37, z38, dFact]
  intro x hp hx
  exact ⟨⟨hp.1, hp.2.2⟩, hp.2.1, rfl⟩
theorem fold_succ {α : Type} (f : α → Nat → α) (a : α) (n : Nat) : (List.range (n + 1)).foldl f a = f ((List.range n).foldl f a) n := by
  rw [List.range_succ, List.foldl_append]; rfl
theorem rowA_zero (k : Nat) (r : Sp.Rel) : Sp.Ax.rowA k r 0 = r := rfl
theorem rowB_zero (k a : Nat) (r : Sp.Rel) : Sp.Ax.rowB k a r 0 = r := rfl
theorem rowB_succ (k a : Nat) (r : Sp.Rel) (n : Nat) : Sp.Ax.rowB k a r (n + 1) = Sp.Ax.stepB k a (Sp.Ax.rowB k a r n) n := fold_succ _ _ _
theorem rowA_succ (k : Nat) (r : Sp.Rel) (n : Nat) : Sp.Ax.rowA k r (n + 1) = Sp.Ax.rowB k n (Sp.Ax.rowA k r n) 6 := fold_succ _ _ _
theorem closeN_succ (r : Sp.Rel) (n : Nat) : Sp.Ax.closeN r (n + 1) = Sp.Ax.rowA n (Sp.Ax.closeN r n) 6 := fold_succ _ _ _
theorem stepB_eq (k a : Nat) (r : Sp.Rel) (b : Nat) : List.set r a (List.set (List.getD r a (List.replicate 6 false)) b (List.getD (List.getD r a (List.replicate 6 false)) b false ||
    List.getD (List.getD r a (List.replicate 6 false)) k false && List.getD (List.getD r k (List.replicate 6 false)) b false)) = Sp.Ax.stepB k a r b := rfl
theorem pk36 : POk Try.prog 36 S36 := by
  have hC : ∀ q, CtxOK Try.prog (C36 q) := fun q => ctx_okQ 0 rfl rfl fns_nil ptrs_nil (fun _ h => by cases h) (fun _ h => by cases h) ins_nil
  refine POk.intro hC (fun q => stpQ_ok (hC q)) Try.call36 Try.func36 (fun q => rfl) (by kernel_rfl) L36 (vc36.mpr ?_)
  simp only [z1, z2, z3, z4, z5, z6, z7, z8, z9, z10, z11, z12, z13, z14, z15, z16, z17, z18, z19, z20, z21, z22, z23, z24, z25, z26, z27, z28, z29, z30, z31, z32, z33, z34, z35, z36, z37, z38, dFact]
  intro x hx
  have h6 : ∀ {n : Nat}, (n : Int) < 6 → inN (n : Int) 6 := fun h => ⟨by omega, by omega⟩
  have hk : ∀ {n : Nat}, (n : Int) < 6 → inK .i64 ((n : Int) + 1) := fun h => inK_of (by omega) (by omega)
  refine ⟨⟨(0, x), ⟨Nat.zero_le _, rfl⟩, rfl, rfl⟩, ?_⟩
  intro i hi _
  refine ⟨fun hlt => ⟨⟨(0, i.2), ⟨Nat.zero_le _, by rw [rowA_zero]; exact hi.2⟩, rfl, rfl⟩, ?_⟩, fun hge => ?_⟩
  · intro a ha _
    refine ⟨fun hlt2 => ⟨⟨(0, a.2), ⟨Nat.zero_le _, by rw [rowB_zero]; exact ha.2⟩, rfl, rfl⟩, ?_⟩, fun hge => ⟨hk hlt, (i.1 + 1, a.2), ⟨by show i.1 + 1 ≤ _; omega, ?_⟩, by show _ - (i.1 + 1) < _; omega, by show (_ : Int) = ((i.1 + 1 : Nat) : Int); omega, rfl⟩⟩
    · intro b hb _
      refine ⟨fun hlt3 => ⟨⟨h6 hlt2, h6 hlt3, fun _ => h6 hlt2, fun _ => h6 hlt, fun _ => h6 hlt, fun _ => h6 hlt3, h6 hlt2, h6 hlt3⟩, hk hlt3, (b.1 + 1, _), ⟨by show b.1 + 1 ≤ _; omega, ?_⟩, by show _ - (b.1 + 1) < _; omega, by show (_ : Int) = ((b.1 + 1 : Nat) : Int); omega, rfl⟩,
        fun hge => ⟨hk hlt2, (a.1 + 1, b.2), ⟨by show a.1 + 1 ≤ _; omega, ?_⟩, by show _ - (a.1 + 1) < _; omega, by show (_ : Int) = ((a.1 + 1 : Nat) : Int); omega, rfl⟩⟩
      · rw [rowB_succ, ← hb.2]; exact stepB_eq _ _ _ _
      · rw [rowA_succ, hb.2, show b.1 = 6 from by omega]
    · rw [closeN_succ, ha.2, show a.1 = 6 from by omega]
  · rw [hi.2, show i.1 = 6 from by omega]; rfl
theorem ok37 : FOk Try.prog 37 S37 := by
  refine FOk.intro (okA fns_nil) (stpQ_ok (okA fns_nil)) Try.call37 Try.func37 (by kernel_rfl) (by kernel_rfl) L37 (vc37.mpr ?_)
  simp only [z1, z2, z3, z4, z5, z6, z7, z8, z9, z10, z11, z12, z13, z14, z15, z16, z17, z18, z19, z20, z21, z22, z23, z24, z25, z26, z27, z28, z29, z30, z31, z32, z33, z34, z35, z36, z37, z38, dFact]
  intro x hx
  refine ⟨⟨0, ⟨Nat.zero_le _, fun a h => by omega⟩, rfl⟩, ?_⟩
  intro i hi _
  refine ⟨fun hlt => ⟨⟨by omega, by omega⟩, fun h => ?_, fun h => ⟨inK_of (by omega) (by omega), i + 1, ⟨by omega, ?_⟩, by omega, by omega⟩⟩, fun hge => ?_⟩
  · symm
    unfold Sp.Ax.round
    rw [List.any_eq_true]
    exact ⟨i, List.mem_range.2 (by omega), h⟩
  · intro a ha
    rcases Nat.lt_or_ge a i with h' | h'
    · exact hi.2 a h'
    · rw [show a = i from by omega]; exact h
  · symm
    unfold Sp.Ax.round
    rw [List.any_eq_false]
    intro a ha
    rw [hi.2 a (by have := List.mem_range.1 ha; omega)]
    simp
theorem ok28 : FOk Try.prog 28 S28 := by
  have hC : CtxOK Try.prog C28 := okA (fns_cons ok27 (fns_cons ok50 (fns_cons ok51 fns_nil)))
  refine FOk.intro hC (stpQ_ok hC) Try.call28 Try.func28 (by kernel_rfl) (by kernel_rfl) L28 (vc28.mpr ?_)
  simp only [z1, z2, z3, z4, z5, z6, z7, z8, z9, z10, z11, z12, z13, z14, z15, z16, z17, z18, z19, z20, z21, z22, z23, z24, z25, z26, z27, z28, z29, z30, z31, z32, z33, z34, z35, z36, z37, z38, dFact]
  intro x hp hx
  refine ⟨hp, ?_⟩
  unfold Sp.Ax.valid
  have h1 : ∀ (e : List Sp.LEv), (!e.any fun x => !Sp.Ax.usual x.2.1) = e.all fun x => Sp.Ax.usual x.2.1 := by
    intro e; simp [List.all_eq_not_any_not]
  have h2 : ∀ (n m : Nat), decide ((n : Int) ≤ (m : Int)) = decide (n ≤ m) := fun n m => by simp
  rw [h1]
  simp only [decide_eq_decide.2 (show ((1 : Int) ≤ (x.1.1.length : Int)) ↔ 1 ≤ x.1.1.length from by omega), decide_eq_decide.2 (show ((x.1.1.length : Int) ≤ 4) ↔ x.1.1.length ≤ 4 from by omega),
    decide_eq_decide.2 (show ((1 : Int) ≤ ((Sp.Ax.evs 0 x.1.1).length : Int)) ↔ 1 ≤ (Sp.Ax.evs 0 x.1.1).length from by omega), decide_eq_decide.2 (show (((Sp.Ax.evs 0 x.1.1).length : Int) ≤ 6) ↔ (Sp.Ax.evs 0 x.1.1).length ≤ 6 from by omega)]
end Go.User.Ax
namespace Sp.Ax
open Relation
theorem oA_zero (e : List LEv) (a b : Nat) : false = oA e 0 a b := by simp [oA]
theorem oAB (e : List LEv) (i a b : Nat) : oA e i a b = oB e i (i + 1) a b := by
  rw [Bool.eq_iff_iff]
  simp only [oA, oB, ordF, List.length_nil, List.range_zero, List.any_nil, Bool.or_false, Bool.and_eq_true, Bool.or_eq_true, decide_eq_true_eq]
  constructor
  · rintro ⟨h, h2⟩; exact ⟨.inl h, h2⟩
  · rintro ⟨h | ⟨h, h'⟩, h2⟩
    · exact ⟨h, h2⟩
    · have := h2.1.1; omega
theorem oB_step {e : List LEv} {i k : Nat} (hk : i < k) (hk2 : k < e.length) (a b : Nat) : (if a = i ∧ b = k then decide ((ev e i).1 = (ev e k).1) else oB e i k a b) = oB e i (k + 1) a b := by
  rw [Bool.eq_iff_iff]
  simp only [oB, ordF, List.length_nil, List.range_zero, List.any_nil, Bool.or_false]
  split
  · rename_i h
    obtain ⟨rfl, rfl⟩ := h
    simp only [Bool.and_eq_true, Bool.or_eq_true, decide_eq_true_eq]
    constructor
    · intro h; exact ⟨.inr ⟨trivial, by omega⟩, ⟨hk, hk2⟩, h⟩
    · rintro ⟨_, _, h⟩; exact h
  · rename_i h
    simp only [Bool.and_eq_true, Bool.or_eq_true, decide_eq_true_eq]
    constructor
    · rintro ⟨h1 | ⟨h1, h2⟩, h3⟩
      · exact ⟨.inl h1, h3⟩
      · exact ⟨.inr ⟨h1, by omega⟩, h3⟩
    · rintro ⟨h1 | ⟨h1, h2⟩, h3⟩
      · exact ⟨.inl h1, h3⟩
      · refine ⟨.inr ⟨h1, ?_⟩, h3⟩
        rcases Nat.lt_or_ge b k with h4 | h4
        · exact h4
        · exact absurd ⟨h1, by omega⟩ h
theorem oB_end {e : List LEv} {i k : Nat} (hk : e.length ≤ k) (a b : Nat) : oB e i k a b = oA e (i + 1) a b := by
  rw [Bool.eq_iff_iff]
  simp only [oA, oB, ordF, List.length_nil, List.range_zero, List.any_nil, Bool.or_false, Bool.and_eq_true, Bool.or_eq_true, decide_eq_true_eq]
  constructor
  · rintro ⟨h | ⟨h, _⟩, h2⟩
    · exact ⟨by omega, h2⟩
    · exact ⟨by omega, h2⟩
  · rintro ⟨h, h2⟩
    rcases Nat.lt_or_ge a i with h3 | h3
    · exact ⟨.inl h3, h2⟩
    · exact ⟨.inr ⟨by omega, by have := h2.1.2; omega⟩, h2⟩
theorem oA_end {e : List LEv} {fo : List Int} {i : Nat} (hk : e.length ≤ i) (a b : Nat) : oA e i a b = oC e fo 0 a b := by
  rw [Bool.eq_iff_iff]
  simp only [oA, oC, ordF, List.length_nil, List.range_zero, List.any_nil, Bool.or_false, Bool.and_eq_true, Bool.or_eq_true, decide_eq_true_eq]
  constructor
  · rintro ⟨h, h2⟩; exact h2
  · intro h; exact ⟨by have := h.1.2; have := h.1.1; omega, h⟩
theorem oCD (e : List LEv) (fo : List Int) (i a b : Nat) : oC e fo i a b = oD e fo i 0 a b := by simp [oD]
theorem oD_step {e : List LEv} {fo : List Int} {i k : Nat} (ai bk : Nat) (h1 : fo.getD i 0 = (ai : Int)) (h2 : fo.getD (i + 1 + k) 0 = (bk : Int)) (a b : Nat) :
    (if a = ai ∧ b = bk then true else oD e fo i k a b) = oD e fo i (k + 1) a b := by
  rw [Bool.eq_iff_iff]
  simp only [oD, fo2, h1]
  split
  · rename_i h
    obtain ⟨rfl, rfl⟩ := h
    simp only [Bool.or_eq_true, List.any_eq_true, List.mem_range, Bool.and_eq_true, decide_eq_true_eq, true_iff]
    exact .inr ⟨k, by omega, trivial, h2⟩
  · rename_i h
    simp only [Bool.or_eq_true, List.any_eq_true, List.mem_range, Bool.and_eq_true, decide_eq_true_eq]
    constructor
    · rintro (h3 | ⟨q, h3, h4⟩)
      · exact .inl h3
      · exact .inr ⟨q, by omega, h4⟩
    · rintro (h3 | ⟨q, h3, h4, h5⟩)
      · exact .inl h3
      · refine .inr ⟨q, ?_, h4, h5⟩
        rcases Nat.lt_or_ge q k with h6 | h6
        · exact h6
        · have : q = k := by omega
          subst this
          rw [h2] at h5
          exact absurd ⟨by omega, by omega⟩ h
theorem oD_end {e : List LEv} {fo : List Int} {i k : Nat} (hk : fo.length = i + 1 + k) (a b : Nat) : oD e fo i k a b = oC e fo (i + 1) a b := by
  rw [Bool.eq_iff_iff]
  simp only [oD, oC, Bool.or_eq_true, List.any_eq_true, List.mem_range, Bool.and_eq_true, decide_eq_true_eq]
  constructor
  · rintro ((h | ⟨p, h1, h2⟩) | ⟨q, h1, h2⟩)
    · exact .inl h
    · exact .inr ⟨p, by omega, h2⟩
    · exact .inr ⟨i, by omega, i + 1 + q, by omega, by omega, h2⟩
  · rintro (h | ⟨p, h1, q, h2, h3, h4⟩)
    · exact .inl (.inl h)
    · rcases Nat.lt_or_ge p i with h5 | h5
      · exact .inl (.inr ⟨p, h5, q, h2, h3, h4⟩)
      · have : p = i := by omega
        subst this
        exact .inr ⟨q - (p + 1), by omega, by rw [show p + 1 + (q - (p + 1)) = q from by omega]; exact h4⟩
theorem oC_end {e : List LEv} {fo : List Int} {i : Nat} (hk : i = fo.length) (a b : Nat) : oC e fo i a b = ordF e fo a b := by
  subst hk
  rw [Bool.eq_iff_iff]
  simp only [oC, ordF, fo2, List.length_nil, List.range_zero, List.any_nil, Bool.or_false, Bool.or_eq_true, List.any_eq_true, List.mem_range, Bool.and_eq_true, decide_eq_true_eq]
  constructor
  · rintro (h | ⟨p, h1, q, h2, h3, h4, h5⟩)
    · exact .inl h
    · exact .inr ⟨q, h2, p, h3, h4, h5⟩
  · rintro (h | ⟨q, h1, p, h2, h3, h4⟩)
    · exact .inl h
    · exact .inr ⟨p, by omega, q, h1, h2, h3, h4⟩
theorem isList_false {l : List Int} {e : List LEv} {is : LOp → Bool} (h : ¬ ((l.Nodup ∧ ∀ n ∈ l, 0 ≤ n ∧ n < e.length ∧ is (ev e n).2.1 = true) ∧ ∀ n < e.length, is (ev e n).2.1 = true → (n : Int) ∈ l)) : false = isList l e is := by
  unfold isList
  cases h1 : decide (l.Nodup ∧ ∀ n ∈ l, 0 ≤ n ∧ n < e.length ∧ is (ev e n).2.1 = true)
  · rfl
  · cases h2 : decide (∀ n < e.length, is (ev e n).2.1 = true → (n : Int) ∈ l)
    · rfl
    · exact absurd ⟨of_decide_eq_true h1, of_decide_eq_true h2⟩ h
theorem isList_true {l : List Int} {e : List LEv} {is : LOp → Bool} (h1 : l.Nodup) (h2 : ∀ n ∈ l, 0 ≤ n ∧ n < e.length ∧ is (ev e n).2.1 = true) (h3 : ∀ n < e.length, is (ev e n).2.1 = true → (n : Int) ∈ l) : true = isList l e is := by
  unfold isList
  rw [decide_eq_true ⟨h1, h2⟩, decide_eq_true h3]; rfl
end Sp.Ax
namespace Go.User.Ax
open Go.Lf Go.Proofs
theorem ok35 : FOk Try.prog 35 S35 := by
  refine FOk.intro (okA fns_nil) (stpQ_ok (okA fns_nil)) Try.call35 Try.func35 (by kernel_rfl) (by kernel_rfl) L35 (vc35.mpr ?_)
  simp only [z1, z2, z3, z4, z5, z6, z7, z8, z9, z10, z11, z12, z13, z14, z15, z16, z17, z18, z19, z20, z21, z22, z23, z24, z25, z26, z27, z28, z29, z30, z31, z32, z33, z34, z35, z36, z37, z38, dFact]
  intro x hp hx
  have h6 : ∀ {n : Nat}, (n : Int) < (x.1.1.length : Int) → inN (n : Int) 6 := fun h => ⟨by omega, by have := hp.1; omega⟩
  refine ⟨⟨0, Nat.zero_le _, rfl, ?_⟩, ?_⟩
  · rw [Sp.Ax.mat_const]; exact Sp.Ax.mat_ext fun a b _ _ => Sp.Ax.oA_zero _ _ _
  intro i hi _
  refine ⟨fun hlt => ⟨inK_succ hlt hx.1.1, ⟨i + 1, ⟨by omega, by omega⟩, rfl, Sp.Ax.mat_ext fun a b _ _ => Sp.Ax.oAB _ _ _ _⟩, ?_⟩, fun hge => ⟨⟨0, Nat.zero_le _, rfl, Sp.Ax.mat_ext fun a b _ _ => Sp.Ax.oA_end (by omega) _ _⟩, ?_⟩⟩
  · intro k hk _
    refine ⟨fun hlt2 => ⟨⟨inN_of hlt, inN_of hlt2, h6 hlt, h6 hlt2⟩, inK_succ hlt2 hx.1.1, k + 1, ⟨by omega, by omega⟩, by omega, rfl, ?_⟩, fun hge2 => ⟨inK_succ hlt hx.1.1, i + 1, by omega, by omega, rfl, Sp.Ax.mat_ext fun a b _ _ => Sp.Ax.oB_end (by omega) _ _⟩⟩
    rw [Sp.Ax.mat_set (by have := (h6 hlt).2; omega) (by have := (h6 hlt2).2; omega)]
    exact Sp.Ax.mat_ext fun a b _ _ => Sp.Ax.oB_step hk.1 (by omega) a b
  · intro j hj _
    refine ⟨fun hlt => ?_, fun hge => ?_⟩
    · have hjl : j < x.1.2.2.2.1.length := by omega
      have hw : win ((j : Int) + 1) (x.1.2.2.2.1.length : Int) x.1.2.2.2.1 = x.1.2.2.2.1.drop (j + 1) := by
        unfold win
        rw [List.take_of_length_le (by omega)]
        congr 1
      rw [hw]
      have hlen : (x.1.2.2.2.1.drop (j + 1)).length = x.1.2.2.2.1.length - (j + 1) := List.length_drop
      refine ⟨inN_of hlt, ⟨inK_succ hlt hx.2.2.2.1, by omega, by omega, by omega⟩, ⟨0, by omega, rfl, Sp.Ax.mat_ext fun a b _ _ => Sp.Ax.oCD _ _ _ _ _⟩, ?_⟩
      intro k hk _
      refine ⟨fun hlt2 => ?_, fun hge2 => ⟨inK_succ hlt hx.2.2.2.1, j + 1, by omega, by omega, rfl, Sp.Ax.mat_ext fun a b _ _ => Sp.Ax.oD_end (by omega) _ _⟩⟩
      have hjk : j + 1 + k < x.1.2.2.2.1.length := by omega
      have e1 : (x.1.2.2.2.1.drop (j + 1)).getD k 0 = x.1.2.2.2.1.getD (j + 1 + k) 0 := by
        rw [Sp.Ax.getD_lt (by omega), Sp.Ax.getD_lt hjk, List.getElem_drop]
      rw [e1]
      have n1 : inN (x.1.2.2.2.1.getD j 0) 6 := by rw [Sp.Ax.getD_lt hjl]; exact hp.2 _ (List.getElem_mem hjl)
      have n2 : inN (x.1.2.2.2.1.getD (j + 1 + k) 0) 6 := by rw [Sp.Ax.getD_lt hjk]; exact hp.2 _ (List.getElem_mem hjk)
      refine ⟨inN_of hlt2, ⟨n1, n2⟩, inK_succ hlt2 (by omega), k + 1, by omega, by omega, rfl, ?_⟩
      rw [Sp.Ax.mat_set (by have := n1.2; omega) (by have := n2.2; omega)]
      exact Sp.Ax.mat_ext fun a b _ _ => Sp.Ax.oD_step _ _ (by have := n1.1; omega) (by have := n2.1; omega) a b
    · exact Sp.Ax.mat_ext fun a b _ _ => Sp.Ax.oC_end (by omega) a b
theorem ok32 : FOk Try.prog 32 S32 := by
  refine FOk.intro (okA fns_nil) (stpQ_ok (okA fns_nil)) Try.call32 Try.func32 (by kernel_rfl) (by kernel_rfl) L32 (vc32.mpr ?_)
  simp only [z1, z2, z3, z4, z5, z6, z7, z8, z9, z10, z11, z12, z13, z14, z15, z16, z17, z18, z19, z20, z21, z22, z23, z24, z25, z26, z27, z28, z29, z30, z31, z32, z33, z34, z35, z36, z37, z38, dFact]
  intro x hp hx
  refine ⟨⟨by show (0 : Int) ≤ _; omega, by omega, by rw [maxNew_eq]; have := hp.1; omega⟩, ⟨(0, List.replicate x.2.1.length false), ⟨Nat.zero_le _, by simp, by simp, by simp, ?_⟩, rfl, rfl⟩, ?_⟩
  · intro n hn
    show (List.replicate x.2.1.length false).getD n false = true ↔ (n : Int) ∈ List.take 0 x.1
    rw [Sp.Ax.getD_lt (by simp; exact hn)]; simp
  intro i hi _
  obtain ⟨h1, h2, h3, h4, h5⟩ := hi
  refine ⟨fun hlt => ?_, fun hge => ?_⟩
  · have hil : i.1 < x.1.length := by omega
    have htk : List.take (i.1 + 1) x.1 = List.take i.1 x.1 ++ [x.1.getD i.1 0] := by rw [List.take_succ_eq_append_getElem hil, Sp.Ax.getD_lt hil]
    have hmem : x.1.getD i.1 0 ∈ x.1 := by rw [Sp.Ax.getD_lt hil]; exact List.getElem_mem hil
    have hev : ∀ (n : Int), x.2.1.getD n.toNat (0, (0, 0, 0, ()), 0, ()) = Sp.Ax.ev x.2.1 n := fun n => rfl
    have hnd : x.1.Nodup → x.1.getD i.1 0 ∉ List.take i.1 x.1 := by
      intro hn hm
      rw [Sp.Ax.getD_lt hil] at hm
      obtain ⟨j, hj, he⟩ := List.mem_take_iff_getElem.1 hm
      exact (List.pairwise_iff_getElem.1 hn) j i.1 (by omega) hil (by omega) he
    generalize hv : x.1.getD i.1 0 = v at *
    simp only [hev]
    have hin : ∀ {b : Bool}, (!(decide (v < 0) || decide ((x.2.1.length : Int) ≤ v) || b)) = true → inN v x.2.1.length := by
      intro b h
      simp only [Bool.not_eq_true', Bool.or_eq_false_iff, decide_eq_false_iff_not] at h
      exact ⟨by omega, by omega⟩
    refine ⟨inN_of hlt, ⟨fun h => ?_, fun h => ?_, fun h => hp.2 _⟩, fun h => ?_, fun h => ?_⟩
    · rw [h2]
      exact ⟨h.1, h.2⟩
    · exact ⟨h.1.1, h.1.2⟩
    · refine Sp.Ax.isList_false ?_
      rintro ⟨⟨g1, g2⟩, g3⟩
      obtain ⟨k1, k2, k3⟩ := g2 v hmem
      simp only [Bool.or_eq_true, decide_eq_true_eq, Bool.not_eq_true'] at h
      rcases h with ((h | h) | h) | h
      · omega
      · omega
      · have := (h5 v.toNat (by omega)).1 h
        rw [show ((v.toNat : Nat) : Int) = v from by omega] at this
        exact hnd g1 this
      · rw [k3] at h; cases h
    · obtain ⟨⟨⟨g1, g2⟩, g3⟩, g4⟩ := h
      have hvin : inN v x.2.1.length := ⟨by omega, by omega⟩
      have hnv : v ∉ List.take i.1 x.1 := by
        intro hm
        have := (h5 v.toNat (by omega)).2 (by rw [show ((v.toNat : Nat) : Int) = v from by omega]; exact hm)
        rw [g3] at this; cases this
      refine ⟨by rw [h2]; exact hvin, inK_succ hlt hx.1.1, (i.1 + 1, i.2.set v.toNat true), ⟨by show i.1 + 1 ≤ _; omega, by show (i.2.set _ _).length = _; simp [h2], ?_, ?_, ?_⟩, by show _ - (i.1 + 1) < _; omega, rfl, rfl⟩
      · show (List.take (i.1 + 1) x.1).Nodup
        rw [htk, List.nodup_append]
        refine ⟨h3, by simp, ?_⟩
        intro a ha b hb
        simp only [List.mem_singleton] at hb
        subst hb
        rintro rfl; exact hnv ha
      · intro n hn
        have hn : n ∈ List.take (i.1 + 1) x.1 := hn
        rw [htk] at hn
        rcases List.mem_append.1 hn with hn | hn
        · exact h4 n hn
        · simp only [List.mem_singleton] at hn
          subst hn
          exact ⟨by omega, by omega, g4⟩
      · intro n hn
        show (i.2.set v.toNat true).getD n false = true ↔ (n : Int) ∈ List.take (i.1 + 1) x.1
        rw [htk, List.mem_append, ← h5 n hn, Sp.Ax.getD_lt (by simp; omega), Sp.Ax.getD_lt (by omega), List.getElem_set]
        simp only [List.mem_singleton]
        by_cases hc : v.toNat = n
        · rw [if_pos hc]
          constructor
          · intro _; right; omega
          · intro _; rfl
        · rw [if_neg hc]
          constructor
          · exact .inl
          · rintro (h | h)
            · exact h
            · omega
  · have htk := Sp.Ax.take_all h1 hge
    rw [htk] at h3 h4 h5
    refine ⟨⟨0, ⟨Nat.zero_le _, fun n h => by omega⟩, rfl⟩, ?_⟩
    intro k hk _
    refine ⟨fun hlt => ⟨⟨inN_of hlt, hp.2 _, fun _ => by rw [h2]; exact inN_of hlt⟩, fun h => ?_, fun h => ⟨inK_succ hlt hx.2.1, k + 1, ⟨by omega, ?_⟩, by omega, rfl⟩⟩, fun hge => ?_⟩
    · refine Sp.Ax.isList_false ?_
      rintro ⟨_, g3⟩
      have := (h5 k (by omega)).2 (g3 k (by omega) h.1)
      rw [h.2] at this; cases this
    · intro n hn hf
      rcases Nat.lt_or_ge n k with hc | hc
      · exact hk.2 n hc hf
      · have : n = k := by omega
        subst this
        refine (h5 n (by omega)).1 ?_
        have hf' : x.2.2.1.fn ((x.2.1.getD n (0, (0, 0, 0, ()), 0, ())).2.1, ()) = true := hf
        rw [hf'] at h
        simpa using h
    · exact Sp.Ax.isList_true h3 h4 (fun n hn hf => hk.2 n (by omega) hf)
end Go.User.Ax
namespace Sp.Ax
open Relation
theorem idx_range (l : List Int) (n : Int) : -1 ≤ idx l n ∧ idx l n < l.length := by
  unfold idx
  split
  · rename_i h
    have := List.idxOf_lt_length_iff.2 h
    omega
  · omega
theorem usual_X {o : LOp} (h : usual o = true) : 0 ≤ o.2.1 ∧ o.2.1 < 3 := by
  unfold usual at h
  split at h
  · simp only [Bool.and_eq_true, decide_eq_true_eq] at h; omega
  · split at h
    · simp only [Bool.and_eq_true, decide_eq_true_eq] at h; omega
    · split at h
      · simp only [Bool.and_eq_true, decide_eq_true_eq] at h; omega
      · cases h
structure RightP (t : Lit) (g : Gr) : Prop where
  valid : valid t = true
  lenE : g.1.length = (evs 0 t.1).length
  lenF : g.2.1.length = (evs 0 t.1).length
  lenM : g.2.2.1.length = 3
  src : ∀ n < (evs 0 t.1).length, src (evs 0 t.1) g n
  got : ∀ n < g.1.length, got g n
  mo : ∀ p < 3, isList (g.2.2.1.getD p []) (evs 0 t.1) (fun o => writes o && decide (o.2.1 = (p : Int))) = true
  fo : isList g.2.2.2.1 (evs 0 t.1) (fun o => decide (o.1 = 4)) = true
theorem right_iff (t : Lit) (g : Gr) : right t g = true ↔ RightP t g := by
  unfold right
  simp only [Bool.and_eq_true, decide_eq_true_eq, List.all_eq_true, List.mem_range]
  exact ⟨fun ⟨⟨⟨⟨⟨⟨⟨h1, h2⟩, h3⟩, h4⟩, h5⟩, h6⟩, h7⟩, h8⟩ => ⟨h1, h2, h3, h4, h5, h6, h7, h8⟩, fun ⟨h1, h2, h3, h4, h5, h6, h7, h8⟩ => ⟨⟨⟨⟨⟨⟨⟨h1, h2⟩, h3⟩, h4⟩, h5⟩, h6⟩, h7⟩, h8⟩⟩
theorem right_false {t : Lit} {g : Gr} (h : ¬ RightP t g) : false = right t g := by
  cases hr : right t g
  · rfl
  · exact absurd ((right_iff t g).1 hr) h
theorem valid_ev {t : Lit} (h : valid t = true) : (evs 0 t.1).length ≤ 6 ∧ ∀ x ∈ evs 0 t.1, usual x.2.1 = true := by
  unfold valid at h
  simp only [Bool.and_eq_true, decide_eq_true_eq, List.all_eq_true] at h
  exact ⟨h.1.2, h.2⟩
theorem ev_mem {e : List LEv} {n : Nat} (h : n < e.length) : ev e (n : Int) ∈ e := by
  unfold ev
  rw [Int.toNat_natCast, getD_lt h]
  exact List.getElem_mem h
theorem RightP.ok {t : Lit} {g : Gr} (h : RightP t g) {n : Nat} (hn : n < g.1.length) : Go.User.Ax.okAt g n := by
  have hn' : n < (evs 0 t.1).length := h.lenE ▸ hn
  have hu := (valid_ev h.valid).2 _ (ev_mem hn')
  have hs := (h.src n hn').2.1
  rw [← hs] at hu
  have := usual_X hu
  refine ⟨⟨by omega, by omega⟩, ⟨by omega, by have := h.lenF; omega⟩, by omega, by rw [h.lenM]; omega⟩
theorem isList_in {l : List Int} {e : List LEv} {is : LOp → Bool} (h : isList l e is = true) {n : Int} (hn : n ∈ l) : 0 ≤ n ∧ n < e.length ∧ is (ev e n).2.1 = true := by
  unfold isList at h
  simp only [Bool.and_eq_true, decide_eq_true_eq] at h
  exact h.1.2 n hn
theorem flowN_zero (g : Gr) (a b : Nat) : ordF g.1 g.2.2.2.1 a b = flowN g 0 a b := by simp [flowN]
theorem flowN_step {g : Gr} {i ai : Nat} (h : g.2.1.getD i 0 = (ai : Int)) (a b : Nat) : (if a = ai ∧ b = i then true else flowN g i a b) = flowN g (i + 1) a b := by
  rw [Bool.eq_iff_iff]
  simp only [flowN]
  split
  · rename_i hab
    obtain ⟨rfl, rfl⟩ := hab
    simp only [Bool.or_eq_true, Bool.and_eq_true, decide_eq_true_eq, true_iff]
    exact .inr ⟨by omega, h⟩
  · rename_i hab
    simp only [Bool.or_eq_true, Bool.and_eq_true, decide_eq_true_eq]
    constructor
    · rintro (h1 | ⟨h1, h2⟩)
      · exact .inl h1
      · exact .inr ⟨by omega, h2⟩
    · rintro (h1 | ⟨h1, h2⟩)
      · exact .inl h1
      · refine .inr ⟨?_, h2⟩
        rcases Nat.lt_or_ge b i with h3 | h3
        · exact h3
        · have : b = i := by omega
          subst this
          rw [h] at h2
          exact absurd ⟨by omega, rfl⟩ hab
theorem flowN_skip {g : Gr} {i : Nat} (h : g.2.1.getD i 0 < 0) (a b : Nat) : flowN g i a b = flowN g (i + 1) a b := by
  rw [Bool.eq_iff_iff]
  simp only [flowN, Bool.or_eq_true, Bool.and_eq_true, decide_eq_true_eq]
  constructor
  · rintro (h1 | ⟨h1, h2⟩)
    · exact .inl h1
    · exact .inr ⟨by omega, h2⟩
  · rintro (h1 | ⟨h1, h2⟩)
    · exact .inl h1
    · refine .inr ⟨?_, h2⟩
      rcases Nat.lt_or_ge b i with h3 | h3
      · exact h3
      · have : b = i := by omega
        subst this
        omega
theorem allowed_false {t : Lit} {g : Gr} (h : right t g = true → round (flow g) = false → ¬ ∀ a < g.1.length, okEv g a) : false = allowed t g := by
  unfold allowed
  cases h1 : right t g
  · rfl
  · cases h2 : round (flow g)
    · cases h3 : decide (∀ a < g.1.length, okEv g a)
      · rfl
      · exact absurd (of_decide_eq_true h3) (h h1 h2)
    · rfl
end Sp.Ax
namespace Go.User.Ax
open Go.Lf Go.Proofs
theorem ok39 : FOk Try.prog 39 S39 := by
  have hC : CtxOK Try.prog C39 := okA (fns_cons ok38 (fns_cons ok29 (fns_cons ok30 fns_nil)))
  refine FOk.intro hC (stpQ_ok hC) Try.call39 Try.func39 (by kernel_rfl) (by kernel_rfl) L39 (vc39.mpr ?_)
  simp only [z1, z2, z3, z4, z5, z6, z7, z8, z9, z10, z11, z12, z13, z14, z15, z16, z17, z18, z19, z20, z21, z22, z23, z24, z25, z26, z27, z28, z29, z30, z31, z32, z33, z34, z35, z36, z37, z38, dFact]
  intro x hp hx
  have key : ∀ low : Int, (low = if Sp.Ax.writes (Sp.Ax.ev x.1.1 x.2.1).2.1 = true then (Sp.Ax.plc x.1 x.2.1).1 else (Sp.Ax.plc x.1 x.2.1).2.1) →
      Sp.Ax.coh x.1 x.2.1 x.2.2.1 = (!(Sp.Ax.reads (Sp.Ax.ev x.1.1 x.2.2.1).2.1 && decide ((Sp.Ax.plc x.1 x.2.2.1).2.1 < low)) && !(Sp.Ax.writes (Sp.Ax.ev x.1.1 x.2.2.1).2.1 && decide ((Sp.Ax.plc x.1 x.2.2.1).1 ≤ low))) := by
    intro low h; rw [h]; rfl
  refine ⟨hp, ⟨hp.1.1, hp.2.1⟩, fun h => ?_, fun h => ?_⟩
  · have hl := key (Sp.Ax.plc x.1 x.2.1).1 (by rw [if_pos (show Sp.Ax.writes (Sp.Ax.ev x.1.1 x.2.1).2.1 = true from h)])
    refine ⟨fun h1 => ?_, fun h1 => ⟨fun h2 => ?_, fun h2 => ?_⟩⟩
    · rw [hl, show Sp.Ax.reads (Sp.Ax.ev x.1.1 x.2.2.1).2.1 = true from h1.1, decide_eq_true (show (Sp.Ax.plc x.1 x.2.2.1).2.1 < (Sp.Ax.plc x.1 x.2.1).1 from h1.2)]; rfl
    · rw [hl, show Sp.Ax.writes (Sp.Ax.ev x.1.1 x.2.2.1).2.1 = true from h2.1, decide_eq_true (show (Sp.Ax.plc x.1 x.2.2.1).1 ≤ (Sp.Ax.plc x.1 x.2.1).1 from h2.2)]; simp
    · rw [hl, show (Sp.Ax.reads (Sp.Ax.ev x.1.1 x.2.2.1).2.1 && decide ((Sp.Ax.plc x.1 x.2.2.1).2.1 < (Sp.Ax.plc x.1 x.2.1).1)) = false from h1, show (Sp.Ax.writes (Sp.Ax.ev x.1.1 x.2.2.1).2.1 && decide ((Sp.Ax.plc x.1 x.2.2.1).1 ≤ (Sp.Ax.plc x.1 x.2.1).1)) = false from h2]; rfl
  · have hl := key (Sp.Ax.plc x.1 x.2.1).2.1 (by rw [if_neg (by rw [show Sp.Ax.writes (Sp.Ax.ev x.1.1 x.2.1).2.1 = false from h]; simp)])
    refine ⟨fun h1 => ?_, fun h1 => ⟨fun h2 => ?_, fun h2 => ?_⟩⟩
    · rw [hl, show Sp.Ax.reads (Sp.Ax.ev x.1.1 x.2.2.1).2.1 = true from h1.1, decide_eq_true (show (Sp.Ax.plc x.1 x.2.2.1).2.1 < (Sp.Ax.plc x.1 x.2.1).2.1 from h1.2)]; rfl
    · rw [hl, show Sp.Ax.writes (Sp.Ax.ev x.1.1 x.2.2.1).2.1 = true from h2.1, decide_eq_true (show (Sp.Ax.plc x.1 x.2.2.1).1 ≤ (Sp.Ax.plc x.1 x.2.1).2.1 from h2.2)]; simp
    · rw [hl, show (Sp.Ax.reads (Sp.Ax.ev x.1.1 x.2.2.1).2.1 && decide ((Sp.Ax.plc x.1 x.2.2.1).2.1 < (Sp.Ax.plc x.1 x.2.1).2.1)) = false from h1, show (Sp.Ax.writes (Sp.Ax.ev x.1.1 x.2.2.1).2.1 && decide ((Sp.Ax.plc x.1 x.2.2.1).1 ≤ (Sp.Ax.plc x.1 x.2.1).2.1)) = false from h2]; rfl
theorem ok17 : FOk Try.prog 17 S17 := by
  have hC : CtxOK Try.prog C17 := okA (fns_cons ok27 (fns_cons ok28 (fns_cons ok29 (fns_cons ok30 (fns_cons ok31 (fns_cons ok32 (fns_cons ok33 (fns_cons ok34 fns_nil))))))))
  refine FOk.intro hC (stpQ_ok hC) Try.call17 Try.func17 (by kernel_rfl) (by kernel_rfl) L17 (vc17.mpr ?_)
  simp only [z1, z2, z3, z4, z5, z6, z7, z8, z9, z10, z11, z12, z13, z14, z15, z16, z17, z18, z19, z20, z21, z22, z23, z24, z25, z26, z27, z28, z29, z30, z31, z32, z33, z34, z35, z36, z37, z38, dFact]
  intro x hp hx
  refine ⟨hp, hp, fun h => ?_, fun h => ?_⟩
  · refine Sp.Ax.right_false fun hr => ?_
    simp only [hr.valid, hr.lenE, hr.lenF, hr.lenM] at h
    simp at h
  obtain ⟨⟨⟨hv, hE⟩, hF⟩, hM⟩ := h
  have hE : x.2.1.1.length = (Sp.Ax.evs 0 x.1.1).length := by omega
  have hF : x.2.1.2.1.length = (Sp.Ax.evs 0 x.1.1).length := by omega
  have hM : x.2.1.2.2.1.length = 3 := by omega
  have he6 := (Sp.Ax.valid_ev hv).1
  refine ⟨⟨0, ⟨Nat.zero_le _, fun n hn => by omega⟩, rfl⟩, ?_⟩
  intro i hi _
  refine ⟨fun hlt => ?_, fun hge => ?_⟩
  · have hkk : inK .i64 ((i : Int) + 1) := inK_succ hlt (by rw [lim_eq]; omega)
    have h1 : inN (i : Int) (Sp.Ax.evs 0 x.1.1).length := inN_of hlt
    refine ⟨h1, by rw [hE]; exact h1, by rw [hF]; exact h1, fun h => ?_, fun h => ?_⟩
    · refine Sp.Ax.right_false fun hr => ?_
      have hs := hr.src i (by omega)
      obtain ⟨s1, s2, s3, s4, s5⟩ := hs
      have s1 : (x.2.1.1.getD i (0, (0, 0, 0, ()), 0, ())).1 = ((Sp.Ax.evs 0 x.1.1).getD i (0, (0, 0, 0, ()), 0, ())).1 := s1
      have s2 : (x.2.1.1.getD i (0, (0, 0, 0, ()), 0, ())).2.1 = ((Sp.Ax.evs 0 x.1.1).getD i (0, (0, 0, 0, ()), 0, ())).2.1 := s2
      rw [s1, s2] at h
      simp only [decide_true, Bool.and_true, Bool.not_true, Bool.false_or, Bool.or_eq_true, decide_eq_true_eq] at h
      omega
    · obtain ⟨⟨⟨a1, a2, a3, a4⟩, b1⟩, b2⟩ := h
      refine ⟨⟨fun h => ⟨h.1, b2⟩, fun h => ⟨h.1, b2⟩⟩, fun h => ?_, fun h => ⟨hkk, i + 1, ⟨by omega, fun n hn => ?_⟩, by omega, rfl⟩⟩
      · refine Sp.Ax.right_false fun hr => ?_
        obtain ⟨s1, s2, s3, s4, s5⟩ := hr.src i (by omega)
        obtain ⟨c1, c2, c3⟩ := s5 h.1
        have h2 := h.2
        have c1 : Sp.Ax.reads ((Sp.Ax.evs 0 x.1.1).getD i (0, (0, 0, 0, ()), 0, ())).2.1 = true := c1
        have c2 : Sp.Ax.writes ((Sp.Ax.evs 0 x.1.1).getD (x.2.1.2.1.getD i 0).toNat (0, (0, 0, 0, ()), 0, ())).2.1 = true := c2
        have c3 : ((Sp.Ax.evs 0 x.1.1).getD (x.2.1.2.1.getD i 0).toNat (0, (0, 0, 0, ()), 0, ())).2.1.2.1 = ((Sp.Ax.evs 0 x.1.1).getD i (0, (0, 0, 0, ()), 0, ())).2.1.2.1 := c3
        rw [c1, c2, c3] at h2
        simp at h2
      · rcases Nat.lt_or_ge n i with hc | hc
        · exact hi.2 n hc
        · have : n = i := by omega
          subst this
          refine ⟨a1, ?_, b1, b2, fun h0 => ?_⟩
          · show (x.2.1.1.getD n (0, (0, 0, 0, ()), 0, ())).2.1 = ((Sp.Ax.evs 0 x.1.1).getD n (0, (0, 0, 0, ()), 0, ())).2.1
            exact Prod.ext a2 (Prod.ext a3 (Prod.ext a4 rfl))
          · rw [decide_eq_true h0] at h
            simp only [Bool.true_and, Bool.or_eq_false_iff, Bool.not_eq_false'] at h
            refine ⟨h.1.1, h.1.2, ?_⟩
            have := h.2
            simp only [bne_eq_false_iff_eq] at this
            exact this
  · have hsrc : ∀ n < (Sp.Ax.evs 0 x.1.1).length, Sp.Ax.src (Sp.Ax.evs 0 x.1.1) x.2.1 n := fun n hn => hi.2 n (by omega)
    refine ⟨⟨0, ⟨Nat.zero_le _, fun n hn => by omega⟩, rfl⟩, ?_⟩
    intro k hk _
    refine ⟨fun hlt => ?_, fun hge2 => ?_⟩
    · have hkk : inK .i64 ((k : Int) + 1) := inK_succ hlt (by rw [lim_eq]; omega)
      have hkl : k < x.2.1.1.length := by omega
      have hstep : Sp.Ax.got x.2.1 k → ∃ (y : Nat), (y ≤ x.2.1.1.length ∧ ∀ (n : Nat), n < y → Sp.Ax.got x.2.1 n) ∧ x.2.1.1.length - y < x.2.1.1.length - k ∧ (k : Int) + 1 = (y : Int) := by
        intro hg
        refine ⟨k + 1, ⟨by omega, fun n hn => ?_⟩, by omega, rfl⟩
        rcases Nat.lt_or_ge n k with hc | hc
        · exact hk.2 n hc
        · rw [show n = k from by omega]; exact hg
      refine ⟨inN_of hlt, fun hr => ⟨⟨⟨by omega, by omega⟩, ?_⟩, fun h => ?_, fun h => ⟨hkk, hstep ?_⟩⟩, fun hr => ⟨fun h => ?_, fun h => ⟨hkk, hstep ?_⟩⟩⟩
      · have := (hsrc k (by omega)).2.2.2.1
        show x.2.1.2.1.getD k 0 < (x.2.1.1.length : Int)
        omega
      · refine Sp.Ax.right_false fun hr' => ?_
        have hg := hr'.got k hkl
        unfold Sp.Ax.got at hg
        rw [if_pos (show Sp.Ax.reads (Sp.Ax.ev x.2.1.1 k).2.1 = true from hr)] at hg
        exact h hg
      · unfold Sp.Ax.got
        rw [if_pos (show Sp.Ax.reads (Sp.Ax.ev x.2.1.1 k).2.1 = true from hr)]
        exact h
      · refine Sp.Ax.right_false fun hr' => ?_
        have hg := hr'.got k hkl
        unfold Sp.Ax.got at hg
        rw [if_neg (by rw [show Sp.Ax.reads (Sp.Ax.ev x.2.1.1 k).2.1 = false from hr]; simp)] at hg
        exact h hg
      · unfold Sp.Ax.got
        rw [if_neg (by rw [show Sp.Ax.reads (Sp.Ax.ev x.2.1.1 k).2.1 = false from hr]; simp)]
        exact h
    · have hgot : ∀ n < x.2.1.1.length, Sp.Ax.got x.2.1 n := fun n hn => hk.2 n (by omega)
      refine ⟨⟨0, ⟨Nat.zero_le _, fun n hn => by omega⟩, rfl⟩, ?_⟩
      intro p hpp _
      refine ⟨fun hlt => ⟨⟨⟨by omega, by rw [hM]; omega⟩, hp⟩, fun h => ?_, fun h => ⟨inK_of (by omega) (by omega), p + 1, ⟨by omega, fun q hq => ?_⟩, by omega, rfl⟩⟩, fun hge3 => ⟨hp, ?_⟩⟩
      · refine Sp.Ax.right_false fun hr => ?_
        have := hr.mo p (by omega)
        rw [h] at this; cases this
      · rcases Nat.lt_or_ge q p with hc | hc
        · exact hpp.2 q hc
        · rw [show q = p from by omega]; exact h
      · have hall : (Sp.Ax.isList x.2.1.2.2.2.1 (Sp.Ax.evs 0 x.1.1) (fun o => decide (o.1 = 4)) = true) ↔ Sp.Ax.right x.1 x.2.1 = true := by
          rw [Sp.Ax.right_iff]
          exact ⟨fun h => ⟨hv, hE, hF, hM, hsrc, hgot, fun q hq => hpp.2 q (by omega), h⟩, fun h => h.fo⟩
        exact Bool.eq_iff_iff.2 hall
theorem ok18 : FOk Try.prog 18 S18 := by
  have hC : CtxOK Try.prog C18 := ctx_okQ 0 rfl rfl (fns_cons ok17 (fns_cons ok35 (fns_cons ok37 (fns_cons ok38 (fns_cons ok39 fns_nil))))) (ptr_cons pk36 ptrs_nil) (fun _ h => by cases h) (fun _ h => by cases h) ins_nil
  refine FOk.intro hC (stpQ_ok hC) Try.call18 Try.func18 (by kernel_rfl) (by kernel_rfl) L18 (vc18.mpr ?_)
  simp only [z1, z2, z3, z4, z5, z6, z7, z8, z9, z10, z11, z12, z13, z14, z15, z16, z17, z18, z19, z20, z21, z22, z23, z24, z25, z26, z27, z28, z29, z30, z31, z32, z33, z34, z35, z36, z37, z38, dFact]
  intro x hp hx
  refine ⟨hp, fun h => ?_, fun hr => ?_⟩
  · exact Sp.Ax.allowed_false fun h1 => by rw [h] at h1; cases h1
  have hR := (Sp.Ax.right_iff _ _).1 hr
  have he6 := (Sp.Ax.valid_ev hR.valid).1
  have hE := hR.lenE
  have hF := hR.lenF
  have hM := hR.lenM
  have hok : ∀ {n : Nat}, (n : Int) < (x.2.1.1.length : Int) → okAt x.2.1 n := fun h => hR.ok (by omega)
  have h6 : ∀ {n : Nat}, (n : Int) < (x.2.1.1.length : Int) → inN (n : Int) 6 := fun h => ⟨by omega, by omega⟩
  have hKs : ∀ {n : Nat}, (n : Int) < (x.2.1.1.length : Int) → inK .i64 ((n : Int) + 1) := fun h => inK_succ h (by rw [lim_eq]; omega)
  refine ⟨⟨by omega, fun n hn => ?_⟩, ⟨0, Nat.zero_le _, rfl, Sp.Ax.mat_ext fun a b _ _ => Sp.Ax.flowN_zero _ _ _⟩, ?_⟩
  · have := Sp.Ax.isList_in hR.fo hn
    exact ⟨this.1, by omega⟩
  intro i hi _
  refine ⟨fun hlt => ?_, fun hge => ?_⟩
  · have hil : i < (Sp.Ax.evs 0 x.1.1).length := by omega
    have hs := hR.src i hil
    refine ⟨inN_of hlt, fun h0 => ⟨⟨⟨h0, by have := hs.2.2.2.1; show x.2.1.2.1.getD i 0 < 6; omega⟩, ⟨by omega, by omega⟩⟩, inK_succ hlt hx.2.2.1.1, i + 1, by omega, by omega, rfl, ?_⟩, fun h0 => ⟨inK_succ hlt hx.2.2.1.1, i + 1, by omega, by omega, rfl, Sp.Ax.mat_ext fun a b _ _ => Sp.Ax.flowN_skip h0 a b⟩⟩
    have h7 := hs.2.2.2.1
    rw [Sp.Ax.mat_set (by omega) (by omega)]
    exact Sp.Ax.mat_ext fun a b _ _ => Sp.Ax.flowN_step (by omega) a b
  have hflow : Sp.Ax.close (Sp.Ax.mat (Sp.Ax.flowN x.2.1 i)) = Sp.Ax.flow x.2.1 := by unfold Sp.Ax.flow; rw [show i = x.2.1.2.1.length from by omega]
  rw [hflow]
  refine ⟨fun h => ?_, fun hround => ⟨⟨0, ⟨Nat.zero_le _, fun a ha => by omega⟩, rfl⟩, ?_⟩⟩
  · exact Sp.Ax.allowed_false fun _ h1 => by rw [h] at h1; cases h1
  intro a ha _
  refine ⟨fun hlt => ?_, fun hge2 => ?_⟩
  · have hal : a < x.2.1.1.length := by omega
    have hstep : Sp.Ax.okEv x.2.1 a → ∃ (y : Nat), (y ≤ x.2.1.1.length ∧ ∀ (n : Nat), n < y → Sp.Ax.okEv x.2.1 n) ∧ x.2.1.1.length - y < x.2.1.1.length - a ∧ (a : Int) + 1 = (y : Int) := by
      intro hg
      refine ⟨a + 1, ⟨by omega, fun n hn => ?_⟩, by omega, rfl⟩
      rcases Nat.lt_or_ge n a with hc | hc
      · exact ha.2 n hc
      · rw [show n = a from by omega]; exact hg
    refine ⟨inN_of hlt, fun h4 => ⟨hKs hlt, hstep (.inl h4)⟩, fun h4 => ⟨hok hlt, fun _ => ?_, fun h => ?_, fun hadd => ?_⟩⟩
    · have := Sp.Ax.idx_range (x.2.1.2.2.1.getD (Sp.Ax.ev x.2.1.1 a).2.1.2.1.toNat []) a
      have hX := (hok hlt).2.2
      have hl : (x.2.1.2.2.1.getD (Sp.Ax.ev x.2.1.1 a).2.1.2.1.toNat []).length ≤ lim := by
        rw [Sp.Ax.getD_lt (by have := hX.1; have := hX.2; omega)]
        exact (hx.2.2.2.1.2 _ (List.getElem_mem _)).1
      rw [lim_eq] at hl
      exact inK_of (by omega) (by omega)
    · refine Sp.Ax.allowed_false fun _ _ hall => ?_
      rcases hall a hal with h1 | ⟨h1, _⟩
      · exact h4 h1
      · unfold Sp.Ax.badAdd at h1
        rw [decide_eq_true (show (Sp.Ax.ev x.2.1.1 a).2.1.1 = 3 from h.1), decide_eq_false (show ¬ (Sp.Ax.plc x.2.1 a).2.1 = (Sp.Ax.plc x.2.1 a).1 - 1 from h.2)] at h1
        cases h1
    · have hbad : Sp.Ax.badAdd x.2.1 a = false := by
        unfold Sp.Ax.badAdd
        rw [← hadd]
        rfl
      refine ⟨⟨0, ⟨Nat.zero_le _, fun b hb => by omega⟩, rfl⟩, ?_⟩
      intro b hb _
      refine ⟨fun hlt2 => ⟨inN_of hlt2, ⟨h6 hlt, h6 hlt2, fun _ => ⟨hok hlt, hok hlt2⟩⟩, fun h => ?_, fun h => ⟨hKs hlt2, b + 1, ⟨by omega, fun n hn => ?_⟩, by omega, rfl⟩⟩, fun hge3 => ⟨hKs hlt, hstep (.inr ⟨hbad, fun b' hb' => hb.2 b' (by omega)⟩)⟩⟩
      · refine Sp.Ax.allowed_false fun _ _ hall => ?_
        rcases hall a hal with h1 | ⟨_, h1⟩
        · exact h4 h1
        · have := h1 b (by omega)
          unfold Sp.Ax.badPair at this
          rw [show Sp.Ax.get2 (Sp.Ax.before x.2.1) a b = true from h.1.1.1, decide_eq_false (show ¬ (Sp.Ax.ev x.2.1.1 b).2.1.1 = 4 from h.1.1.2), decide_eq_true (show (Sp.Ax.ev x.2.1.1 a).2.1.2.1 = (Sp.Ax.ev x.2.1.1 b).2.1.2.1 from h.1.2), h.2] at this
          cases this
      · rcases Nat.lt_or_ge n b with hc | hc
        · exact hb.2 n hc
        · rw [show n = b from by omega]
          unfold Sp.Ax.badPair
          rw [← h]
          rfl
  · unfold Sp.Ax.allowed
    rw [hr, hround, decide_eq_true (fun a' ha' => ha.2 a' (by omega))]; rfl
end Go.User.Ax
namespace Sp.Ax
open Relation
theorem evs_set (o : LOp) : ∀ (P : List (List LOp)) (n : Nat) (k : Int), n < P.length → (evs k (P.set n (P.getD n [] ++ [o]))).length = (evs k P).length + 1
  | [], n, k, h => by simp at h
  | l :: ls, 0, k, h => by simp [evs]; omega
  | l :: ls, n + 1, k, h => by
    have ih := evs_set o ls n (k + 1) (by simpa using h)
    have e : (l :: ls).getD (n + 1) [] = ls.getD n [] := rfl
    rw [List.set_cons_succ, e]
    simp only [evs, List.length_append, ih]; omega
theorem mem_evs : ∀ (P : List (List LOp)) (k : Int) (x : LEv), x ∈ evs k P → ∃ l ∈ P, x.2.1 ∈ l
  | [], k, x, h => by simp [evs] at h
  | l :: ls, k, x, h => by
    simp only [evs, List.mem_append, List.mem_map] at h
    rcases h with ⟨o, h1, rfl⟩ | h
    · exact ⟨l, List.mem_cons_self, h1⟩
    · obtain ⟨l', h1, h2⟩ := mem_evs ls (k + 1) x h
      exact ⟨l', List.mem_cons_of_mem _ h1, h2⟩
theorem getD_set_true {l : List Bool} {b y : Nat} {v : Bool} (h : l.getD y false = true) (hv : y = b → v = true) : (l.set b v).getD y false = true := by
  rw [List.getD_eq_getElem?_getD, List.getElem?_set]
  by_cases hyb : b = y
  · subst hyb
    rw [if_pos rfl]
    split
    · exact hv rfl
    · rename_i h2
      rw [List.getD_eq_getElem?_getD, List.getElem?_eq_none (by omega)] at h; cases h
  · rw [if_neg hyb, ← List.getD_eq_getElem?_getD]; exact h
theorem get2_upd2 {r : Rel} {a b x y : Nat} {v : Bool} (h : get2 r x y = true) (hv : x = a → y = b → v = true) : get2 (upd2 r a b v) x y = true := by
  unfold get2 upd2 at *
  by_cases hxa : x = a
  · subst hxa
    have e : (r.set x ((r.getD x (List.replicate 6 false)).set b v)).getD x (List.replicate 6 false) = if x < r.length then (r.getD x (List.replicate 6 false)).set b v else List.replicate 6 false := by
      rw [List.getD_eq_getElem?_getD, List.getElem?_set, if_pos rfl]
      split <;> rfl
    rw [e]
    split
    · exact getD_set_true h (hv rfl)
    · rename_i h2
      rw [List.getD_eq_getElem?_getD (l := r), List.getElem?_eq_none (by omega)] at h; exact h
  · have e : (r.set a ((r.getD a (List.replicate 6 false)).set b v)).getD x (List.replicate 6 false) = r.getD x (List.replicate 6 false) := by
      rw [List.getD_eq_getElem?_getD, List.getElem?_set, if_neg (fun e => hxa e.symm), ← List.getD_eq_getElem?_getD]
    rw [e]; exact h
theorem get2_stepB {k a b : Nat} {r : Rel} {x y : Nat} (h : get2 r x y = true) : get2 (stepB k a r b) x y = true := by
  unfold stepB
  refine get2_upd2 h (fun e1 e2 => ?_)
  subst e1; subst e2
  rw [h]; rfl
theorem get2_rowB {k a : Nat} {r : Rel} {x y : Nat} (h : get2 r x y = true) : ∀ n, get2 (rowB k a r n) x y = true
  | 0 => h
  | n + 1 => by rw [Go.User.Ax.rowB_succ]; exact get2_stepB (get2_rowB h n)
theorem get2_rowA {k : Nat} {r : Rel} {x y : Nat} (h : get2 r x y = true) : ∀ n, get2 (rowA k r n) x y = true
  | 0 => h
  | n + 1 => by rw [Go.User.Ax.rowA_succ]; exact get2_rowB (get2_rowA h n) 6
def st (p : List (List LOp)) (c : Nat) : Nat := (evs 0 (p.take c)).length
theorem st_all (p : List (List LOp)) : st p p.length = (evs 0 p).length := by unfold st; rw [List.take_length]
theorem st_succ {p : List (List LOp)} {c : Nat} (h : c < p.length) : st p (c + 1) = st p c + (p.getD c []).length := by
  unfold st; rw [evs_succ h]; simp
theorem ev_core {p : List (List LOp)} {c i : Nat} (hc : c < p.length) (h1 : st p c ≤ i) (h2 : i < st p (c + 1)) : (ev (evs 0 p) (i : Int)).1 = (c : Int) := by
  have e : evs 0 p = evs 0 (p.take (c + 1)) ++ evs (0 + ((p.take (c + 1)).length : Int)) (p.drop (c + 1)) := by rw [← evs_append, List.take_append_drop]
  have h3 := st_succ hc
  unfold st at h1 h2 h3
  unfold ev
  rw [Int.toNat_natCast, e, List.getD_eq_getElem?_getD, List.getElem?_append_left h2, evs_succ hc, List.getElem?_append_right h1, List.getElem?_map, List.getElem?_eq_getElem (by omega)]
  rfl
theorem core_ex' {p : List (List LOp)} {i : Nat} : ∀ m, m ≤ p.length → i < st p m → ∃ c < m, st p c ≤ i ∧ i < st p (c + 1)
  | 0, _, h => by unfold st at h; simp [evs] at h
  | m + 1, hm, h => by
    rcases Nat.lt_or_ge i (st p m) with h1 | h1
    · obtain ⟨c, hc, h2⟩ := core_ex' m (by omega) h1
      exact ⟨c, by omega, h2⟩
    · exact ⟨m, by omega, h1, h⟩
theorem core_ex {p : List (List LOp)} {i : Nat} (h : i < (evs 0 p).length) : ∃ c < p.length, st p c ≤ i ∧ i < st p (c + 1) := core_ex' p.length (Nat.le_refl _) (by rw [st_all]; exact h)
def pre (X : List Int) (e : Int) : List Int := X.take (X.idxOf e)
theorem ev_evs_R : ∀ (p : List (List LOp)) (c : Int) (n : Nat), ((evs c p).getD n ev0).2.2.1 = 0
  | [], c, n => by simp [evs, ev0]
  | l :: p, c, n => by
    simp only [evs]
    rw [List.getD_eq_getElem?_getD]
    rcases Nat.lt_or_ge n (l.map (mkEv c)).length with h | h
    · rw [List.getElem?_append_left h, List.getElem?_map, List.getElem?_eq_getElem (by simpa using h)]; rfl
    · rw [List.getElem?_append_right h, ← List.getD_eq_getElem?_getD]
      exact ev_evs_R p (c + 1) _
theorem get2_upd2_or {r : Rel} {a b x y : Nat} {v : Bool} (h : get2 (upd2 r a b v) x y = true) : get2 r x y = true ∨ (x = a ∧ y = b ∧ v = true) := by
  unfold get2 upd2 at *
  by_cases hxa : x = a
  · subst hxa
    have e : (r.set x ((r.getD x (List.replicate 6 false)).set b v)).getD x (List.replicate 6 false) = if x < r.length then (r.getD x (List.replicate 6 false)).set b v else List.replicate 6 false := by
      rw [List.getD_eq_getElem?_getD, List.getElem?_set, if_pos rfl]
      split <;> rfl
    rw [e] at h
    split at h
    · rw [List.getD_eq_getElem?_getD, List.getElem?_set] at h
      by_cases hyb : b = y
      · subst hyb
        rw [if_pos rfl] at h
        split at h
        · exact .inr ⟨rfl, rfl, h⟩
        · cases h
      · rw [if_neg hyb, ← List.getD_eq_getElem?_getD] at h
        exact .inl h
    · rename_i h2
      left
      rw [List.getD_eq_getElem?_getD (l := r), List.getElem?_eq_none (by omega)]; exact h
  · left
    have e : (r.set a ((r.getD a (List.replicate 6 false)).set b v)).getD x (List.replicate 6 false) = r.getD x (List.replicate 6 false) := by
      rw [List.getD_eq_getElem?_getD, List.getElem?_set, if_neg (fun e => hxa e.symm), ← List.getD_eq_getElem?_getD]
    rw [e] at h; exact h
section
variable {R : Nat → Nat → Prop} (ht : ∀ a b c, R a b → R b c → R a c)
include ht
theorem stepB_in {k a b : Nat} {r : Rel} (h : ∀ x y, get2 r x y = true → R x y) : ∀ x y, get2 (stepB k a r b) x y = true → R x y := by
  intro x y hxy
  unfold stepB at hxy
  rcases get2_upd2_or hxy with h1 | ⟨rfl, rfl, h1⟩
  · exact h _ _ h1
  · simp only [Bool.or_eq_true, Bool.and_eq_true] at h1
    rcases h1 with h1 | ⟨h1, h2⟩
    · exact h _ _ h1
    · exact ht _ _ _ (h _ _ h1) (h _ _ h2)
theorem rowB_in {k a : Nat} {r : Rel} (h : ∀ x y, get2 r x y = true → R x y) : ∀ n, ∀ x y, get2 (rowB k a r n) x y = true → R x y
  | 0 => h
  | n + 1 => by rw [Go.User.Ax.rowB_succ]; exact stepB_in ht (rowB_in h n)
theorem rowA_in {k : Nat} {r : Rel} (h : ∀ x y, get2 r x y = true → R x y) : ∀ n, ∀ x y, get2 (rowA k r n) x y = true → R x y
  | 0 => h
  | n + 1 => by rw [Go.User.Ax.rowA_succ]; exact rowB_in ht (rowA_in h n) 6
theorem closeN_in {r : Rel} (h : ∀ x y, get2 r x y = true → R x y) : ∀ n, ∀ x y, get2 (closeN r n) x y = true → R x y
  | 0 => h
  | n + 1 => by rw [Go.User.Ax.closeN_succ]; exact rowA_in ht (closeN_in h n) 6
/-- The closure of a relation lies in each transitive relation that it lies in. -/
theorem close_in {r : Rel} (h : ∀ x y, get2 r x y = true → R x y) : ∀ x y, get2 (close r) x y = true → R x y := closeN_in ht h 6
end
theorem get2_mat_in {f : Nat → Nat → Bool} {a b : Nat} (h : get2 (mat f) a b = true) : a < 6 ∧ b < 6 ∧ f a b = true := by
  rcases Nat.lt_or_ge a 6 with ha | ha
  · rcases Nat.lt_or_ge b 6 with hb | hb
    · exact ⟨ha, hb, by rw [get2_mat ha hb] at h; exact h⟩
    · unfold get2 at h
      rw [mat_row ha, List.getD_eq_getElem?_getD, List.getElem?_eq_none (by simp; exact hb)] at h
      cases h
  · unfold get2 at h
    rw [List.getD_eq_getElem?_getD (l := mat f), List.getElem?_eq_none (by simp [mat]; exact ha)] at h
    simp only [Option.getD_none] at h
    rcases Nat.lt_or_ge b 6 with hb | hb
    · rw [getD_lt (by simpa using hb), List.getElem_replicate] at h; cases h
    · rw [List.getD_eq_getElem?_getD, List.getElem?_eq_none (by simpa using hb)] at h; cases h
/-- Paths whose inner points are below n. -/
def W (R : Nat → Nat → Prop) : Nat → Nat → Nat → Prop
  | 0, a, b => R a b
  | n + 1, a, b => W R n a b ∨ (W R n a n ∧ W R n n b)
theorem W_trans {R : Nat → Nat → Prop} : ∀ n a b c, b < n → W R n a b → W R n b c → W R n a c
  | 0, a, b, c, h, _, _ => by omega
  | n + 1, a, b, c, h, h1, h2 => by
    have ih := W_trans (R := R) n
    by_cases hb : b = n
    · subst hb
      right
      refine ⟨?_, ?_⟩
      · rcases h1 with h1 | h1
        · exact h1
        · exact h1.1
      · rcases h2 with h2 | h2
        · exact h2
        · exact h2.2
    · have hb : b < n := by omega
      rcases h1 with h1 | h1
      · rcases h2 with h2 | h2
        · exact .inl (ih a b c hb h1 h2)
        · exact .inr ⟨ih a b n hb h1 h2.1, h2.2⟩
      · rcases h2 with h2 | h2
        · exact .inr ⟨h1.1, ih n b c hb h1.2 h2⟩
        · exact .inr ⟨h1.1, h2.2⟩
theorem W_sub {R : Nat → Nat → Prop} {a b : Nat} (h : R a b) : ∀ n, W R n a b
  | 0 => h
  | n + 1 => .inl (W_sub h n)
theorem gen_W {R : Nat → Nat → Prop} {n : Nat} (hR : ∀ a b, R a b → a < n ∧ b < n) {a b : Nat} (h : TransGen R a b) : W R n a b := by
  induction h with
  | single h => exact W_sub h n
  | tail h1 h2 ih => exact W_trans n _ _ _ (hR _ _ h2).1 ih (W_sub h2 n)
theorem upd_get {r : Rel} {a b : Nat} {v : Bool} (ha : a < r.length) (hb : b < (r.getD a (List.replicate 6 false)).length) : get2 (upd2 r a b v) a b = v := by
  unfold get2 upd2
  generalize r.getD a (List.replicate 6 false) = row at *
  have e : (r.set a (row.set b v)).getD a (List.replicate 6 false) = row.set b v := by
    rw [getD_lt (by simpa using ha), List.getElem_set_self]
  rw [e, getD_lt (by simpa using hb), List.getElem_set_self]
/-- A relation of six events. -/
def sq (r : Rel) : Prop := r.length = 6 ∧ ∀ a < 6, (r.getD a (List.replicate 6 false)).length = 6
theorem sq_upd {r : Rel} (h : sq r) (a b : Nat) (v : Bool) : sq (upd2 r a b v) := by
  refine ⟨by simp [upd2, h.1], fun c hc => ?_⟩
  unfold upd2
  rw [List.getD_eq_getElem?_getD, List.getElem?_set]
  by_cases e : a = c
  · subst e
    rw [if_pos rfl]
    split
    · simp only [Option.getD_some, List.length_set]; exact h.2 a hc
    · rfl
  · rw [if_neg e, ← List.getD_eq_getElem?_getD]; exact h.2 c hc
theorem sq_rowB {r : Rel} (h : sq r) (k a : Nat) : ∀ n, sq (rowB k a r n)
  | 0 => h
  | n + 1 => by rw [Go.User.Ax.rowB_succ]; exact sq_upd (sq_rowB h k a n) _ _ _
theorem sq_rowA {r : Rel} (h : sq r) (k : Nat) : ∀ n, sq (rowA k r n)
  | 0 => h
  | n + 1 => by rw [Go.User.Ax.rowA_succ]; exact sq_rowB (sq_rowA h k n) _ _ _
theorem sq_closeN {r : Rel} (h : sq r) : ∀ n, sq (closeN r n)
  | 0 => h
  | n + 1 => by rw [Go.User.Ax.closeN_succ]; exact sq_rowA (sq_closeN h n) _ _
theorem stepB_new {r : Rel} (hs : sq r) {k a b : Nat} (ha : a < 6) (hb : b < 6) (h : get2 r a b = true ∨ (get2 r a k = true ∧ get2 r k b = true)) : get2 (stepB k a r b) a b = true := by
  unfold stepB
  rw [upd_get (by rw [hs.1]; exact ha) (by rw [hs.2 a ha]; exact hb)]
  rcases h with h | ⟨h1, h2⟩
  · rw [h]; rfl
  · rw [h1, h2]; simp
theorem rowB_new {r : Rel} (hs : sq r) {k a : Nat} (ha : a < 6) {b : Nat} (h : get2 r a b = true ∨ (get2 r a k = true ∧ get2 r k b = true)) : ∀ n, n ≤ 6 → b < n → get2 (rowB k a r n) a b = true
  | 0, _, hb => by omega
  | n + 1, hn, hb => by
    rw [Go.User.Ax.rowB_succ]
    by_cases e : b = n
    · subst e
      refine stepB_new (sq_rowB hs k a b) ha (by omega) ?_
      rcases h with h | ⟨h1, h2⟩
      · exact .inl (get2_rowB h b)
      · exact .inr ⟨get2_rowB h1 b, get2_rowB h2 b⟩
    · exact get2_stepB (rowB_new hs ha h n (by omega) (by omega))
theorem rowA_new {r : Rel} (hs : sq r) {k : Nat} {a b : Nat} (hb : b < 6) (h : get2 r a b = true ∨ (get2 r a k = true ∧ get2 r k b = true)) : ∀ n, n ≤ 6 → a < n → get2 (rowA k r n) a b = true
  | 0, _, ha => by omega
  | n + 1, hn, ha => by
    rw [Go.User.Ax.rowA_succ]
    by_cases e : a = n
    · subst e
      refine rowB_new (sq_rowA hs k a) (by omega) ?_ 6 (Nat.le_refl _) hb
      rcases h with h | ⟨h1, h2⟩
      · exact .inl (get2_rowA h a)
      · exact .inr ⟨get2_rowA h1 a, get2_rowA h2 a⟩
    · exact get2_rowB (rowA_new hs hb h n (by omega) (by omega)) 6
theorem closeN_W {r : Rel} (hs : sq r) : ∀ n, n ≤ 6 → ∀ a b, a < 6 → b < 6 → W (fun a b => get2 r a b = true) n a b → get2 (closeN r n) a b = true
  | 0, _, a, b, _, _, h => h
  | n + 1, hn, a, b, ha, hb, h => by
    have ih := closeN_W hs n (by omega)
    rw [Go.User.Ax.closeN_succ]
    refine rowA_new (sq_closeN hs n) hb ?_ 6 (Nat.le_refl _) ha
    rcases h with h | ⟨h1, h2⟩
    · exact .inl (ih a b ha hb h)
    · exact .inr ⟨ih a n ha (by omega) h1, ih n b (by omega) hb h2⟩
theorem sq_mat (f : Nat → Nat → Bool) : sq (mat f) := ⟨by simp [mat], fun a ha => by rw [mat_row ha]; simp⟩
/-- Closing a relation gives its transitive closure. -/
theorem close_iff {f : Nat → Nat → Bool} (hf : ∀ a b, f a b = true → a < 6 ∧ b < 6) {a b : Nat} : get2 (close (mat f)) a b = true ↔ TransGen (fun a b => f a b = true) a b := by
  have hm : ∀ a b, get2 (mat f) a b = true ↔ f a b = true := by
    intro a b
    constructor
    · intro h; exact (get2_mat_in h).2.2
    · intro h; rw [get2_mat (hf a b h).1 (hf a b h).2]; exact h
  constructor
  · exact close_in (R := TransGen fun a b => f a b = true) (fun a b c h1 h2 => TransGen.trans h1 h2) (fun x y h => .single ((hm x y).1 h)) a b
  · intro h
    have e : (fun a b => get2 (mat f) a b = true) = (fun a b => f a b = true) := by
      funext a b; exact propext (hm a b)
    have hW := gen_W (n := 6) hf h
    have hab : a < 6 ∧ b < 6 := by
      clear hW
      induction h with
      | single h => exact hf _ _ h
      | tail h1 h2 ih => exact ⟨ih.1, (hf _ _ h2).2⟩
    rw [← e] at hW
    exact closeN_W (sq_mat f) 6 (Nat.le_refl _) a b hab.1 hab.2 hW
/-- Two numbers of a list, one behind the other. -/
theorem pair_iff {fo : List Int} {a b : Int} : ((List.range fo.length).any fun j => (List.range j).any fun i => decide (fo.getD i 0 = a) && decide (fo.getD j 0 = b)) = true ↔ [a, b].Sublist fo := by
  rw [List.any_eq_true]
  have : (∃ x, x ∈ List.range fo.length ∧ ((List.range x).any fun i => decide (fo.getD i 0 = a) && decide (fo.getD x 0 = b)) = true) ↔ ∃ j, j < fo.length ∧ ∃ i, i < j ∧ fo.getD i 0 = a ∧ fo.getD j 0 = b := by
    simp only [List.mem_range, List.any_eq_true, Bool.and_eq_true, decide_eq_true_eq]
  rw [this]
  clear this
  induction fo with
  | nil => simp
  | cons x l ih =>
    have hs : [a, b].Sublist (x :: l) ↔ [a, b].Sublist l ∨ (x = a ∧ b ∈ l) := by
      rw [List.sublist_cons_iff]
      constructor
      · rintro (h | ⟨r, h1, h2⟩)
        · exact .inl h
        · simp only [List.cons.injEq] at h1
          obtain ⟨e1, e2⟩ := h1
          subst e2
          exact .inr ⟨e1.symm, List.singleton_sublist.1 h2⟩
      · rintro (h | ⟨h1, h2⟩)
        · exact .inl h
        · exact .inr ⟨[b], by rw [h1], List.singleton_sublist.2 h2⟩
    rw [hs]
    refine Iff.trans ?_ (or_congr ih Iff.rfl)
    constructor
    · rintro ⟨j, hj, i, hi, h1, h2⟩
      match i, j, hi with
      | 0, j + 1, _ =>
        right
        refine ⟨h1, ?_⟩
        have h2 : l.getD j 0 = b := h2
        simp only [List.length_cons] at hj
        rw [getD_lt (by omega)] at h2
        rw [← h2]; exact List.getElem_mem _
      | i + 1, j + 1, hi =>
        left
        simp only [List.length_cons] at hj
        exact ⟨j, by omega, i, by omega, h1, h2⟩
    · rintro (⟨j, hj, i, hi, h1, h2⟩ | ⟨h1, h2⟩)
      · exact ⟨j + 1, by simp only [List.length_cons]; omega, i + 1, by omega, h1, h2⟩
      · obtain ⟨j, hj, e⟩ := List.getElem_of_mem h2
        exact ⟨j + 1, by simp only [List.length_cons]; omega, 0, by omega, h1, by show l.getD j 0 = b; rw [getD_lt hj]; exact e⟩
/-- Ordered before another event. -/
def Ord (g : Gr) (a b : Nat) : Prop := (a < b ∧ b < g.1.length ∧ (ev g.1 a).1 = (ev g.1 b).1) ∨ [(a : Int), (b : Int)].Sublist g.2.2.2.1
def Flow (g : Gr) (a b : Nat) : Prop := Ord g a b ∨ (b < g.2.1.length ∧ g.2.1.getD b 0 = (a : Int))
theorem ordF_iff (g : Gr) (a b : Nat) : ordF g.1 g.2.2.2.1 a b = true ↔ Ord g a b := by
  unfold ordF Ord
  rw [Bool.or_eq_true, pair_iff]
  simp only [Bool.and_eq_true, decide_eq_true_eq, and_assoc]
theorem flowN_iff (g : Gr) (a b : Nat) : flowN g g.2.1.length a b = true ↔ Flow g a b := by
  unfold flowN Flow
  rw [Bool.or_eq_true, ordF_iff]
  simp only [Bool.and_eq_true, decide_eq_true_eq]
theorem RightP.six {t : Lit} {g : Gr} (h : RightP t g) : g.1.length ≤ 6 := by rw [h.lenE]; exact (valid_ev h.valid).1
theorem RightP.ord_lt {t : Lit} {g : Gr} (h : RightP t g) {a b : Nat} (ho : Ord g a b) : a < g.1.length ∧ b < g.1.length := by
  rcases ho with ho | ho
  · exact ⟨by omega, ho.2.1⟩
  · have hfo := h.fo
    have h1 := isList_in hfo (ho.subset (by simp) : (a : Int) ∈ _)
    have h2 := isList_in hfo (ho.subset (by simp) : (b : Int) ∈ _)
    have := h.lenE
    omega
theorem RightP.flow_lt {t : Lit} {g : Gr} (h : RightP t g) {a b : Nat} (ho : Flow g a b) : a < g.1.length ∧ b < g.1.length := by
  rcases ho with ho | ⟨h1, h2⟩
  · exact h.ord_lt ho
  · have hF := h.lenF
    have hE := h.lenE
    obtain ⟨_, _, _, h3, _⟩ := h.src b (by omega)
    rw [h2] at h3
    omega
theorem RightP.before_iff {t : Lit} {g : Gr} (h : RightP t g) {a b : Nat} : get2 (before g) a b = true ↔ TransGen (Ord g) a b := by
  have h6 := h.six
  have e : (fun a b => ordF g.1 g.2.2.2.1 a b = true) = Ord g := by funext a b; exact propext (ordF_iff g a b)
  unfold before order
  rw [close_iff (fun a b hab => by have := h.ord_lt ((ordF_iff g a b).1 hab); omega), e]
theorem RightP.flow_iff {t : Lit} {g : Gr} (h : RightP t g) {a b : Nat} : get2 (flow g) a b = true ↔ TransGen (Flow g) a b := by
  have h6 := h.six
  have e : (fun a b => flowN g g.2.1.length a b = true) = Flow g := by funext a b; exact propext (flowN_iff g a b)
  unfold flow
  rw [close_iff (fun a b hab => by have := h.flow_lt ((flowN_iff g a b).1 hab); omega), e]
theorem gen_lt {R : Nat → Nat → Prop} {n : Nat} (hR : ∀ a b, R a b → a < n ∧ b < n) {a b : Nat} (h : TransGen R a b) : a < n ∧ b < n := by
  induction h with
  | single h => exact hR _ _ h
  | tail h1 h2 ih => exact ⟨ih.1, (hR _ _ h2).2⟩
theorem gen_map {R S : Nat → Nat → Prop} {em : Nat → Nat} (h : ∀ a b, R a b → S (em a) (em b)) {a b : Nat} (hab : TransGen R a b) : TransGen S (em a) (em b) := by
  induction hab with
  | single h1 => exact .single (h _ _ h1)
  | tail h1 h2 ih => exact .tail ih (h _ _ h2)
/-- What it means that a graph is allowed. -/
structure AllowP (t : Lit) (g : Gr) : Prop where
  right : RightP t g
  acyc : ∀ a, ¬ TransGen (Flow g) a a
  add : ∀ a < g.1.length, (ev g.1 a).2.1.1 = 3 → (plc g a).2.1 = (plc g a).1 - 1
  coh : ∀ a < g.1.length, ∀ b < g.1.length, (ev g.1 a).2.1.1 ≠ 4 → (ev g.1 b).2.1.1 ≠ 4 → TransGen (Ord g) a b → (ev g.1 a).2.1.2.1 = (ev g.1 b).2.1.2.1 → coh g a b = true
theorem allowed_iff (t : Lit) (g : Gr) : allowed t g = true ↔ AllowP t g := by
  unfold allowed
  simp only [Bool.and_eq_true, decide_eq_true_eq, Bool.not_eq_true']
  constructor
  · rintro ⟨⟨h1, h2⟩, h3⟩
    have hR := (right_iff t g).1 h1
    refine ⟨hR, fun a ha => ?_, fun a ha h => ?_, fun a ha b hb h4 h5 hab hx => ?_⟩
    · have hf := hR.flow_iff.2 ha
      have h6 := hR.six
      have hl := (gen_lt (fun a b h => hR.flow_lt h) ha).1
      unfold round at h2
      rw [List.any_eq_false] at h2
      exact h2 a (by simp; omega) hf
    · rcases h3 a ha with h4 | ⟨h4, _⟩
      · omega
      · unfold badAdd at h4
        rw [decide_eq_true h] at h4
        simpa using h4
    · rcases h3 a ha with h6 | ⟨_, h6⟩
      · exact absurd h6 h4
      · have := h6 b hb
        unfold badPair at this
        rw [hR.before_iff.2 hab, decide_eq_false h5, decide_eq_true hx] at this
        simpa using this
  · intro h
    refine ⟨⟨(right_iff t g).2 h.right, ?_⟩, fun a ha => ?_⟩
    · unfold round
      rw [List.any_eq_false]
      intro a _ hh
      exact h.acyc a (h.right.flow_iff.1 hh)
    · by_cases h4 : (ev g.1 (a : Int)).2.1.1 = 4
      · exact .inl h4
      · right
        refine ⟨?_, fun b hb => ?_⟩
        · unfold badAdd
          by_cases h3 : (ev g.1 (a : Int)).2.1.1 = 3
          · rw [h.add a ha h3]; simp
          · rw [decide_eq_false h3]; rfl
        · unfold badPair
          cases hb2 : get2 (before g) a b
          · rfl
          by_cases h5 : (ev g.1 (b : Int)).2.1.1 = 4
          · rw [decide_eq_true h5]; simp
          by_cases hx : (ev g.1 (a : Int)).2.1.2.1 = (ev g.1 (b : Int)).2.1.2.1
          · rw [h.coh a ha b hb h4 h5 (h.right.before_iff.1 hb2) hx]; simp
          · rw [decide_eq_false hx]; simp
/-- A graph whose events are some of another one's is allowed if that is. -/
theorem AllowP.of {t u : Lit} {g h : Gr} (hg : AllowP t g) (hR : RightP u h) (em : Nat → Nat) (ho : ∀ a b, Ord h a b → Ord g (em a) (em b)) (hf : ∀ a b, Flow h a b → Flow g (em a) (em b))
    (he : ∀ a < h.1.length, em a < g.1.length ∧ (ev h.1 a).2.1.1 = (ev g.1 (em a)).2.1.1 ∧ ((ev h.1 a).2.1.1 ≠ 4 → plc h a = plc g (em a)))
    (hx : ∀ a < h.1.length, ∀ b < h.1.length, (ev h.1 a).2.1.1 ≠ 4 → (ev h.1 b).2.1.1 ≠ 4 → (ev h.1 a).2.1.2.1 = (ev h.1 b).2.1.2.1 → (ev g.1 (em a)).2.1.2.1 = (ev g.1 (em b)).2.1.2.1) : AllowP u h := by
  refine ⟨hR, fun a ha => hg.acyc (em a) (gen_map hf ha), fun a ha h3 => ?_, fun a ha b hb h4 h5 hab hxx => ?_⟩
  · obtain ⟨h1, h2, h4⟩ := he a ha
    rw [h4 (by omega)]
    exact hg.add _ h1 (by omega)
  · obtain ⟨a1, a2, a3⟩ := he a ha
    obtain ⟨b1, b2, b3⟩ := he b hb
    have := hg.coh _ a1 _ b1 (by omega) (by omega) (gen_map ho hab) (hx a ha b hb h4 h5 hxx)
    unfold Sp.Ax.coh at *
    have hw : ∀ o o' : LOp, o.1 = o'.1 → writes o = writes o' ∧ reads o = reads o' := fun o o' h => by unfold writes reads; rw [h]; exact ⟨rfl, rfl⟩
    rw [a3 h4, b3 h5, (hw _ _ a2).1, (hw _ _ b2).1, (hw _ _ b2).2]
    exact this
end Sp.Ax
namespace Sp
def tK (b : List Int) (i : Nat) : Int := 1 + b.getD (i + 1) 0 % 4
def tOp (b : List Int) (i : Nat) : LOp :=
  (tK b i, if tK b i = 4 then 0 else b.getD (i + 2) 0 % 3, if tK b i = 1 ∨ tK b i = 4 then 0 else 1 + (b.getD (i + 2) 0 / 3) % 9, ())
def putOp (P : List (List LOp)) (c : Int) (o : LOp) : List (List LOp) := P.set c.toNat (P.getD c.toNat [] ++ [o])
def testN (b : List Int) : Nat → List (List LOp)
  | 0 => [[], [], []]
  | k + 1 => putOp (testN b k) (b.getD (3 * k) 0 % 3) (tOp b (3 * k))
def nT (b : List Int) : Nat := min 6 (b.length / 3)
def test (b : List Int) : Lit := (testN b (nT b), ())
end Sp
namespace Go.User
open Go.Lf
def mLit : Md := .pair (.own (.own .shr)) .shr
def S15 : FSpec := { args := [.val (.slice (.int .u8))], multi := false, res := tLit, mode := .shr, pre := fun _ => True, fn := fun x => Sp.test x.1 }
def C15 : Ctx := { mkC 80 [] with mds := [(10, .own (.own .shr)), (11, mLit), (3, mLit), (2, .pair .shr .shr)], fzs := [3] }
def L15 (x : kdens S15.args) : List LoopI := [
  { ι := Nat, inv := fun k => k ≤ Sp.nT x.1, dec := fun k => Sp.nT x.1 - k, ovr := fun k => [(4, .shr tI ((3 * k : Nat) : Int)), (3, .box tLit mLit (Sp.testN x.1 k, ()))], keep := [0, 2] }]
def S8 : FSpec := { args := [.val (.slice (.int .u8)), .val (.slice tI)], multi := false, res := .bool, mode := .shr, pre := fun _ => True, fn := fun _ => true }
def C8 : Ctx := mkC 50 [(9, S9), (15, S15), (16, S16), (17, Ax.S17), (18, Ax.S18)]
def L8 (x : kdens S8.args) : List LoopI := []
end Go.User
namespace Go.User
open Go.Proofs Go.Lf
set_option maxRecDepth 100000
theorem vc15 : (funI C15 (stpR C15) S15 L15 Try.f15) = (
let q0 : Prop := (True ∧ True) ∧ True;
let q1 : Prop := True ∧ True ∧ True;
let q2 : Prop := True ∧ q1;
let q3 : Prop := True ∧ q2;
let q4 : Prop := True ∧ True ∧ q3;
let q5 : Int := (0 : Int);
let q6 : Nat := (3 : Nat);
let q7 : List (List (Int × Int × Int × Unit)) := ([] : List tLOp.slice.den);
let q8 : List (List (Int × Int × Int × Unit)) × Unit := (q7, ());
let q9 : Prop := q8 = q8 ∧ True;
let q10 : Int := (2 : Int);
let q11 : Int := (1 : Int);
let q12 : Int := (4 : Int);
let q13 : Int := (3 : Int);
let q14 : Prop := q13 ≠ q5;
let q15 : Int := (9 : Int);
let q16 : Prop := (True ∧ True) ∧ True ∧ True;
let q17 : Prop := q2 ∧ True;
let q18 : Int × Unit := (q5, ());
let q19 : Int × Int × Unit := (q5, q18);
let q20 : Prop := Step.fst = Step.fst ∧ True;
∀ (x : List Int × Unit),
  let q21 : Prop := x.1 = x.1 ∧ q9;
  let q22 : Nat := x.1.length;
  True →
    dFact (Ty.int IntKind.u8).slice x.1 ∧ True →
      q0 ∧
        (q4 ∧ True ∧ True) ∧
          q0 ∧
            (∃ (x_1 : Nat), x_1 ≤ Sp.nT x.1 ∧ q5 = (↑(q6 * x_1) : Int) ∧ (([] : List tLOp.den) :: ([] : List tLOp.den) :: ([] : List tLOp.den) :: q7, ()) = (Sp.testN x.1 x_1, ()) ∧ q21) ∧
              ∀ (x_1 : Nat),
                let q23 : Int := (↑(q6 * x_1) : Int);
                let q24 : List (List (Int × Int × Int × Unit)) × Unit := (Sp.testN x.1 x_1, ());
                let q25 : Int := q23 + q10;
                let q26 : Prop := inK IntKind.i64 q25;
                let q27 : Bool := decide (q25 < (↑q22 : Int));
                let q28 : Prop := (true && bif q27 then true else false) = true → True;
                let q29 : Bool := bif q27 then decide (q23 < (18 : Int)) else false;
                let q30 : Int := q23 + q11;
                let q31 : Int := q11 + x.1.getD q30.toNat q5 % q12;
                let q32 : Prop := inN q25 q22;
                let q33 : Int := x.1.getD q25.toNat q5;
                let q34 : Int := q11 + q33 / q13 % q15;
                let q35 : Bool := q31 == q11;
                let q36 : Prop := (true && bif q35 then false else true) = true → True;
                let q37 : Bool := q31 == q12;
                let q38 : Bool := bif q35 then true else q37;
                let q39 : Prop := q37 = true;
                let q40 : Prop := (True ∧ True ∧ inN q23 q22 ∧ True ∧ q14 ∧ q1) ∧ True;
                let q41 : Int := x.1.getD q23.toNat q5 % q13;
                let q42 : Prop := inN q41 (Sp.testN x.1 x_1).length;
                let q43 : Nat := q41.toNat;
                let q44 : List (Int × Int × Int × Unit) := (Sp.testN x.1 x_1).getD q43 (([] : List tLOp.den));
                let q45 : Nat := q44.length;
                let q46 : List (Int × Int × Int × Unit) := (q31, q19) :: ([] : List tLOp.den);
                let q47 : Prop := q42 ∧ True;
                let q48 : Prop := True ∧ True ∧ True ∧ True ∧ True ∧ True ∧ True ∧ True ∧ True ∧ True ∧ ((True ∧ q20 ∧ True ∧ True ∧ q20 ∧ True ∧ True ∧ (Step.fst = Step.fst ∧ Step.idx q43 = Step.idx q43 ∧ True) ∧ q3) ∧ True ∧ True ∧ True ∧ True ∧ True ∧ True ∧ True ∧ True ∧ True ∧ True ∧ True ∧ True ∧ True ∧ True ∧ True ∧ True ∧ True ∧ True ∧ True ∧ True ∧ True ∧ True ∧ True ∧ True ∧ True ∧ True ∧ True ∧ True ∧ True ∧ True ∧ True ∧ True ∧ True ∧ True ∧ True ∧ True ∧ True ∧ True ∧ True ∧ True ∧ True ∧ True ∧ True ∧ True ∧ True ∧ True ∧ True ∧ True ∧ True ∧ True ∧ True ∧ True ∧ True ∧ True ∧ True ∧ True ∧ True ∧ True ∧ True ∧ True ∧ True ∧ True ∧ True ∧ True ∧ True ∧ True ∧ True ∧ True ∧ True ∧ True ∧ True ∧ True ∧ True ∧ True ∧ q4) ∧ True ∧ True;
                let q49 : List Step := List.append._f (Step.fst :: ([] : List Step)) ⟨List.append._f (([] : List Step)) PUnit.unit, PUnit.unit⟩ (Step.idx q43 :: ([] : List Step));
                let q50 : Prop := q49 = q49 ∧ True;
                let q51 : Int := q23 + q13;
                let q52 : Prop := (True ∧ inK IntKind.i64 q51 ∧ True ∧ True) ∧ True;
                let q53 : Prop := q37 = false;
                let q54 : Int := q33 % q13;
                let q55 : List (Int × Int × Int × Unit) := (q31, q54, q18) :: ([] : List tLOp.den);
                let q56 : Int × Unit := (q34, ());
                let q57 : List (Int × Int × Int × Unit) := (q31, q5, q56) :: ([] : List tLOp.den);
                let q58 : List (Int × Int × Int × Unit) := (q31, q54, q56) :: ([] : List tLOp.den);
                x_1 ≤ Sp.nT x.1 → dFact (Ty.int IntKind.i64) q23 ∧ dFact (((Ty.int IntKind.i64).prod ((Ty.int IntKind.i64).prod ((Ty.int IntKind.i64).prod Ty.unit))).slice.slice.prod Ty.unit) q24 ∧ True → ((True ∧ q26 ∧ True ∧ True ∧ True ∧ True ∧ q28 ∧ q28 ∧ True ∧ True) ∧ True) ∧ (q29 = true → ((True ∧ True ∧ inK IntKind.i64 q30 ∧ inN q30 q22 ∧ True ∧ q12 ≠ q5 ∧ True ∧ inK IntKind.i64 q31 ∧ True ∧ True ∧ q26 ∧ q32 ∧ True ∧ q14 ∧ True ∧ True ∧ True ∧ q26 ∧ q32 ∧ True ∧ q14 ∧ q15 ≠ q5 ∧ True ∧ inK IntKind.i64 q34 ∧ q1) ∧ True ∧ True) ∧ ((True ∧ True ∧ True ∧ True ∧ q36 ∧ q36 ∧ q36 ∧ True ∧ True) ∧ True) ∧ (q38 = true → q16 ∧ q17 ∧ (q39 → q16 ∧ q40 ∧ (((True ∧ True ∧ True ∧ True ∧ True ∧ True ∧ q42 ∧ True ∧ True ∧ True ∧ (↑(q45 + q46.length) : Int) ≤ maxNew ∧ q47) ∧ q48) ∧ q50) ∧ q52 ∧ ∃ (y : Nat), y ≤ Sp.nT x.1 ∧ Sp.nT x.1 - y < Sp.nT x.1 - x_1 ∧ q51 = (↑(q6 * y) : Int) ∧ ((Sp.testN x.1 x_1).set q43 (q44 ++ q46), ()) = (Sp.testN x.1 y, ()) ∧ q21) ∧ (q53 → q40 ∧ (((True ∧ True ∧ True ∧ True ∧ True ∧ True ∧ q42 ∧ True ∧ True ∧ True ∧ (↑(q45 + q55.length) : Int) ≤ maxNew ∧ q47) ∧ q48) ∧ q50) ∧ q52 ∧ ∃ (y : Nat), y ≤ Sp.nT x.1 ∧ Sp.nT x.1 - y < Sp.nT x.1 - x_1 ∧ q51 = (↑(q6 * y) : Int) ∧ ((Sp.testN x.1 x_1).set q43 (q44 ++ q55), ()) = (Sp.testN x.1 y, ()) ∧ q21)) ∧ (q38 = false → q17 ∧ (q39 → q16 ∧ q40 ∧ (((True ∧ True ∧ True ∧ True ∧ True ∧ True ∧ q42 ∧ True ∧ True ∧ True ∧ (↑(q45 + q57.length) : Int) ≤ maxNew ∧ q47) ∧ q48) ∧ q50) ∧ q52 ∧ ∃ (y : Nat), y ≤ Sp.nT x.1 ∧ Sp.nT x.1 - y < Sp.nT x.1 - x_1 ∧ q51 = (↑(q6 * y) : Int) ∧ ((Sp.testN x.1 x_1).set q43 (q44 ++ q57), ()) = (Sp.testN x.1 y, ()) ∧ q21) ∧ (q53 → q40 ∧ (((True ∧ True ∧ True ∧ True ∧ True ∧ True ∧ q42 ∧ True ∧ True ∧ True ∧ (↑(q45 + q58.length) : Int) ≤ maxNew ∧ q47) ∧ q48) ∧ q50) ∧ q52 ∧ ∃ (y : Nat), y ≤ Sp.nT x.1 ∧ Sp.nT x.1 - y < Sp.nT x.1 - x_1 ∧ q51 = (↑(q6 * y) : Int) ∧ ((Sp.testN x.1 x_1).set q43 (q44 ++ q58), ()) = (Sp.testN x.1 y, ()) ∧ q21))) ∧ (q29 = false → q16 ∧ q24 = Sp.test x.1)) := by kernel_rfl
theorem vc8 : (funI C8 (stpR C8) S8 L8 Try.f8) = (
let q0 : Prop := (True ∧ True) ∧ True;
let q1 : Prop := True ∧ True ∧ True;
let q2 : Prop := q1 ∧ True;
let q3 : Prop := True ∧ q1;
let q4 : Prop := q2 ∧ true = true;
let q5 : Int := (0 : Int);
let q6 : Int := (1 : Int);
let q7 : Int := (2 : Int);
let q8 : Nat := (1000 : Nat);
∀ (x : List Int × List Int × Unit),
  let q9 : Bool := decide ((↑x.2.1.length : Int) > (60 : Int));
  let q10 : List (List (Int × Int × Int × Unit)) := Sp.testN x.1 (Sp.nT x.1);
  let q11 : Nat := q10.length;
  let q12 : Int := (↑(List.length (q10.getD q5.toNat (([] : List tLOp.den)))) : Int) + (↑(List.length (q10.getD q6.toNat (([] : List tLOp.den)))) : Int);
  let q13 : Int := q12 + (↑(List.length (q10.getD q7.toNat (([] : List tLOp.den)))) : Int);
  let q14 : Bool := q13 == q5;
  let q15 : Prop := (Sp.Ax.evs q5 q10).length ≤ q8;
  let q16 : List (Int × (Int × Int × Int × Unit) × Int × Unit) × List Int × List (List Int) × List Int × Unit := (Sp.gE (Sp.test x.1) x.2.1, Sp.gF (Sp.test x.1) x.2.1, Sp.gM (Sp.test x.1) x.2.1, Sp.gO (Sp.test x.1) x.2.1, ());
  let q17 : Bool := Sp.Ax.right (Sp.test x.1) q16;
  let q18 : Prop := (true && bif q17 then true else false) = true;
  let q19 : Prop := q18 → True;
  let q20 : Bool := bif q17 then Sp.Ax.allowed (Sp.test x.1) q16 else false;
  True → dFact (Ty.int IntKind.u8).slice x.1 ∧ dFact (Ty.int IntKind.i64).slice x.2.1 ∧ True → q0 ∧ q2 ∧ q2 ∧ ((!true) = true → q0 ∧ false = true) ∧ ((!true) = false → (q3 ∧ True) ∧ (q9 = true → q4) ∧ (q9 = false → (q3 ∧ True ∧ True) ∧ ((True ∧ True ∧ inN q5 q11 ∧ True ∧ True ∧ True ∧ True ∧ inN q6 q11 ∧ True ∧ True ∧ inK IntKind.i64 q12 ∧ True ∧ True ∧ inN q7 q11 ∧ True ∧ True ∧ inK IntKind.i64 q13 ∧ True ∧ True) ∧ True) ∧ (q14 = true → q4) ∧ (q14 = false → ((True ∧ True ∧ Sp.okT (Sp.test x.1) ∧ True ∧ True) ∧ True ∧ True) ∧ ((True ∧ True ∧ q15 ∧ True ∧ q19 ∧ q19 ∧ (q18 → q15) ∧ True ∧ True ∧ ((true && bif q20 then true else false) = true → True) ∧ q1) ∧ True) ∧ (bif q20 then true else false) = true)))) := by kernel_rfl
end Go.User
namespace Cx
open Relation Sp Sp.Ax
def lst (l : List Int) : Int := l.getLastD (-1)
def onto (l : List Int) (a : Int) : Prop := a = -1 ∨ a ∈ l
theorem lst_snoc (l : List Int) (b : Int) : lst (l ++ [b]) = b := by simp [lst]
theorem lst_app (l p : List Int) (h : p ≠ []) : lst (l ++ p) = lst p := by
  unfold lst
  rw [List.getLastD_eq_getLast?, List.getLastD_eq_getLast?, List.getLast?_append]
  cases hp : p.getLast? with
  | none => exact absurd (List.getLast?_eq_none_iff.1 hp) h
  | some v => rfl
theorem lst_nil : lst [] = -1 := rfl
theorem lst_cases (l : List Int) : l = [] ∨ ∃ a b, l = a ++ [b] ∧ lst l = b := by
  rcases List.eq_nil_or_concat l with h | ⟨a, b, h⟩
  · exact .inl h
  · rw [List.concat_eq_append] at h
    exact .inr ⟨a, b, h, by rw [h]; exact lst_snoc a b⟩
theorem lst_onto (l : List Int) : onto l (lst l) := by
  rcases lst_cases l with h | ⟨a, b, h, h1⟩
  · rw [h]; exact .inl rfl
  · rw [h1, h]; exact .inr (by simp)
theorem onto.app {l p : List Int} {a : Int} (h : onto l a) : onto (l ++ p) a := h.imp id (fun h => List.mem_append_left _ h)
theorem idx_le (l : List Int) (a : Int) : -1 ≤ idx l a ∧ idx l a ≤ (l.length : Int) - 1 := by
  unfold idx
  split
  · rename_i h
    have := List.idxOf_lt_length_iff.2 h
    omega
  · omega
theorem idx_in {l : List Int} {a : Int} (h : a ∈ l) : idx l a = (l.idxOf a : Int) := by unfold idx; rw [if_pos h]
theorem idx_out {l : List Int} {a : Int} (h : a ∉ l) : idx l a = -1 := by unfold idx; rw [if_neg h]
theorem idx_app_in {l p : List Int} {a : Int} (h : a ∈ l) : idx (l ++ p) a = idx l a := by
  rw [idx_in h, idx_in (List.mem_append_left _ h), List.idxOf_append, if_pos h]
theorem idx_app_out {l p : List Int} {a : Int} (h : a ∉ l) (h2 : a ∈ p) : idx (l ++ p) a = l.length + idx p a := by
  rw [idx_in h2, idx_in (List.mem_append_right _ h2), List.idxOf_append, if_neg h]; omega
theorem idx_snoc {l : List Int} {b : Int} (h : b ∉ l) : idx (l ++ [b]) b = l.length := by
  rw [idx_app_out h (by simp), idx_in (by simp), List.idxOf_cons_self]; omega
theorem idx_lst {l : List Int} (hn : l.Nodup) (h1 : (-1 : Int) ∉ l) : idx l (lst l) = (l.length : Int) - 1 := by
  rcases lst_cases l with h | ⟨a, b, h, h2⟩
  · rw [h]; rfl
  · rw [h2, h, idx_snoc (by
      rw [h, List.nodup_append] at hn
      exact fun hb => hn.2.2 b hb b (by simp) rfl)]
    simp
theorem idx_pos {l : List Int} {a : Int} (h : a ∈ l) : 0 ≤ idx l a := by rw [idx_in h]; omega

/-- A list into which some more are put. -/
structure Ins (l l' : List Int) : Prop where
  ex : ∃ A P B, l = A ++ B ∧ l' = A ++ P ++ B
  nd : l'.Nodup
  ne : (-1 : Int) ∉ l'
theorem Ins.onto {l l' : List Int} (h : Ins l l') {a : Int} (ha : onto l a) : onto l' a := by
  obtain ⟨A, P, B, rfl, rfl⟩ := h.ex
  rcases ha with ha | ha
  · exact .inl ha
  · right
    rcases List.mem_append.1 ha with h | h <;> simp [h]
theorem Ins.idx {l l' : List Int} (h : Ins l l') : ∃ n k : Nat, ∀ a, Cx.onto l a → Sp.Ax.idx l' a = if Sp.Ax.idx l a < n then Sp.Ax.idx l a else Sp.Ax.idx l a + k := by
  obtain ⟨A, P, B, rfl, rfl⟩ := h.ex
  have hn := h.nd
  have hne := h.ne
  refine ⟨A.length, P.length, fun a ha => ?_⟩
  by_cases hA : a ∈ A
  · rw [idx_app_in hA, List.append_assoc, idx_app_in hA, if_pos (by have := idx_le A a; omega)]
  · rcases ha with ha | ha
    · subst ha
      rw [idx_out hne, idx_out (fun hm => hne (by
        rcases List.mem_append.1 hm with h | h <;> simp [h])), if_pos (by omega)]
    · rcases List.mem_append.1 ha with h | hB
      · exact absurd h hA
      · have hAP : a ∉ A ++ P := by
          intro hm
          rw [List.nodup_append] at hn
          exact hn.2.2 a hm a hB rfl
        rw [idx_app_out hA hB, idx_app_out hAP hB, List.length_append, if_neg (by have := idx_pos hB; omega)]
        omega
theorem Ins.le {l l' : List Int} (h : Ins l l') {a b : Int} (ha : Cx.onto l a) (hb : Cx.onto l b) (hab : Sp.Ax.idx l a ≤ Sp.Ax.idx l b) : Sp.Ax.idx l' a ≤ Sp.Ax.idx l' b := by
  obtain ⟨n, k, hi⟩ := h.idx
  rw [hi a ha, hi b hb]
  split <;> split <;> omega
theorem Ins.lt {l l' : List Int} (h : Ins l l') {a b : Int} (ha : Cx.onto l a) (hb : Cx.onto l b) (hab : Sp.Ax.idx l a < Sp.Ax.idx l b) : Sp.Ax.idx l' a < Sp.Ax.idx l' b := by
  obtain ⟨n, k, hi⟩ := h.idx
  rw [hi a ha, hi b hb]
  split <;> split <;> omega
theorem Ins.refl {l : List Int} (h : l.Nodup) (h1 : (-1 : Int) ∉ l) : Ins l l := ⟨⟨l, [], [], by simp, by simp⟩, h, h1⟩

/-- One event before another one, in the order of a list. -/
theorem sub_snoc {X : List Int} {a b c : Int} (hc : c ∉ X) : [a, b].Sublist (X ++ [c]) ↔ [a, b].Sublist X ∨ (b = c ∧ a ∈ X) := by
  constructor
  · intro h
    obtain ⟨l1, l2, h1, h2, h3⟩ := List.sublist_append_iff.1 h
    cases l2 with
    | nil => rw [List.append_nil] at h1; rw [h1]; exact .inl h2
    | cons y l2 =>
      have hl := h3.length_le
      simp only [List.length_cons, List.length_nil] at hl
      have : l2 = [] := List.eq_nil_of_length_eq_zero (by omega)
      subst this
      have hy : y = c := by simpa using h3
      match l1, h1 with
      | [x], h1 =>
        simp only [List.cons_append, List.nil_append, List.cons.injEq, and_true] at h1
        obtain ⟨e1, e2⟩ := h1
        exact .inr ⟨e2.trans hy, by rw [e1]; exact h2.subset (by simp)⟩
      | [], h1 => have := congrArg List.length h1; simp at this
      | _ :: _ :: r, h1 => have := congrArg List.length h1; simp at this
  · rintro (h | ⟨rfl, h⟩)
    · exact h.trans (List.sublist_append_left _ _)
    · exact List.sublist_append_iff.2 ⟨[a], [b], rfl, List.singleton_sublist.2 h, List.Sublist.refl _⟩

section
variable (op : Int → LOp) (core : Int → Nat)
def isF (e : Int) : Prop := (op e).1 = 4
def xof (e : Int) : Nat := (op e).2.1.toNat
def adj (a b : Int) : Prop := core a = core b ∨ (isF op a ∧ isF op b)
def R (X : List Int) (a b : Int) : Prop := [a, b].Sublist X ∧ adj op core a b
def HB (X : List Int) : Int → Int → Prop := TransGen (R op core X)
def NOW (X : List Int) (a : Int) (k : Nat) : Prop := ∃ d ∈ X, core d = k ∧ (a = d ∨ HB op core X a d)
variable {op core}
theorem R.mem {X : List Int} {a b : Int} (h : R op core X a b) : a ∈ X ∧ b ∈ X := ⟨h.1.subset (by simp), h.1.subset (by simp)⟩
theorem HB.mem {X : List Int} {a b : Int} (h : HB op core X a b) : a ∈ X ∧ b ∈ X := by
  unfold HB at h
  induction h with
  | single h => exact h.mem
  | tail h1 h2 ih => exact ⟨ih.1, h2.mem.2⟩
theorem HB.snoc {X : List Int} {a b c : Int} (hc : c ∉ X) (h : HB op core (X ++ [c]) a b) : HB op core X a b ∨ (b = c ∧ ∃ d ∈ X, adj op core d c ∧ (a = d ∨ HB op core X a d)) := by
  unfold HB at h
  induction h with
  | single h =>
    rcases (sub_snoc hc).1 h.1 with h1 | ⟨rfl, h1⟩
    · exact .inl (.single ⟨h1, h.2⟩)
    · exact .inr ⟨rfl, a, h1, h.2, .inl rfl⟩
  | tail h1 h2 ih =>
    rcases (sub_snoc hc).1 h2.1 with h3 | ⟨rfl, h3⟩
    · rcases ih with ih | ⟨rfl, _⟩
      · exact .inl (TransGen.tail ih ⟨h3, h2.2⟩)
      · exact absurd (h3.subset (by simp)) hc
    · rcases ih with ih | ⟨rfl, _⟩
      · exact .inr ⟨rfl, _, h3, h2.2, .inr ih⟩
      · exact absurd h3 hc
theorem HB.mono {X : List Int} {a b c : Int} (h : HB op core X a b) : HB op core (X ++ [c]) a b := by
  unfold HB at *
  induction h with
  | single h => exact .single ⟨h.1.trans (List.sublist_append_left _ _), h.2⟩
  | tail h1 h2 ih => exact .tail ih ⟨h2.1.trans (List.sublist_append_left _ _), h2.2⟩
theorem NOW.mem {X : List Int} {a : Int} {k : Nat} (h : NOW op core X a k) : a ∈ X := by
  obtain ⟨d, h1, _, h2⟩ := h
  rcases h2 with rfl | h2
  · exact h1
  · exact h2.mem.1
/-- What is before the next moment of a core, when an event of it has been added. -/
theorem NOW.snoc {X : List Int} {a c : Int} {k : Nat} (hc : c ∉ X) (h : NOW op core (X ++ [c]) a k) : NOW op core X a k ∨ (core c = k ∧ (a = c ∨ ∃ d ∈ X, adj op core d c ∧ (a = d ∨ HB op core X a d))) := by
  obtain ⟨d, h0, h2, h3⟩ := h
  rcases List.mem_append.1 h0 with h1 | h1
  · left
    refine ⟨d, h1, h2, h3.imp id fun h3 => ?_⟩
    rcases h3.snoc hc with h4 | ⟨h4, _⟩
    · exact h4
    · exact absurd (h4 ▸ h1) hc
  · have h1 : d = c := by simpa using h1
    subst h1
    right
    refine ⟨h2, h3.imp id fun h3 => ?_⟩
    rcases h3.snoc hc with h4 | ⟨_, h4⟩
    · exact absurd h4.mem.2 hc
    · exact h4
end

/-- What the caches hold. -/
structure St where
  Mo : Nat → List Int
  P : Nat → Nat → List Int
  K : Nat → Nat → Option Int
  Fr : Int → Int
def St.ext (s : St) (c x : Nat) : List Int := s.Mo x ++ s.P c x
def St.V (s : St) (c x : Nat) : Int := (s.K c x).getD (lst (s.Mo x))
section
variable (op : Int → LOp) (core : Int → Nat)
def low (Fr : Int → Int) (a : Int) : Int := if writes (op a) = true then a else Fr a
structure Coh (Fr : Int → Int) (l : List Int) (a b : Int) : Prop where
  lo : onto l (low op Fr a)
  rd : reads (op b) = true → onto l (Fr b) ∧ idx l (low op Fr a) ≤ idx l (Fr b)
  wr : writes (op b) = true → b ∈ l ∧ idx l (low op Fr a) < idx l b
structure Inv (X : List Int) (s : St) : Prop where
  nod : X.Nodup
  pos : ∀ e ∈ X, 0 ≤ e
  mo : ∀ x e, e ∈ s.Mo x → e ∈ X ∧ writes (op e) = true ∧ xof op e = x
  pd : ∀ c x e, e ∈ s.P c x → e ∈ X ∧ (op e).1 = 2 ∧ xof op e = x ∧ core e = c
  all : ∀ e ∈ X, writes (op e) = true → e ∈ s.ext (core e) (xof op e)
  nd : ∀ c x, (s.ext c x).Nodup
  kn : ∀ c x, s.K c x = none → s.P c x = []
  ks : ∀ c x v, s.K c x = some v → (s.P c x = [] ∧ onto (s.Mo x) v) ∨ (s.P c x ≠ [] ∧ v = lst (s.P c x))
  fr : ∀ e ∈ X, reads (op e) = true → s.Fr e = -1 ∨ ([s.Fr e, e].Sublist X ∧ writes (op (s.Fr e)) = true ∧ xof op (s.Fr e) = xof op e)
  add : ∀ e ∈ X, (op e).1 = 3 → e ∈ s.Mo (xof op e) ∧ onto (s.Mo (xof op e)) (s.Fr e) ∧ idx (s.Mo (xof op e)) (s.Fr e) = idx (s.Mo (xof op e)) e - 1
  coh : ∀ a b, HB op core X a b → ¬ isF op a → ¬ isF op b → xof op a = xof op b → Coh op s.Fr (s.ext (core b) (xof op b)) a b
  now : ∀ a c, NOW op core X a c → ¬ isF op a → onto (s.ext c (xof op a)) (low op s.Fr a) ∧ idx (s.ext c (xof op a)) (low op s.Fr a) ≤ idx (s.ext c (xof op a)) (s.V c (xof op a))
  fen : ∀ a f, HB op core X a f → isF op f → ¬ isF op a → onto (s.Mo (xof op a)) (low op s.Fr a)
variable {op core}
section
variable {X : List Int} {s s' : St} (h : Inv op core X s)
include h
theorem Inv.mpos {x : Nat} {e : Int} (he : e ∈ s.Mo x) : 0 ≤ e := h.pos e (h.mo x e he).1
theorem Inv.ppos {c x : Nat} {e : Int} (he : e ∈ s.P c x) : 0 ≤ e := h.pos e (h.pd c x e he).1
theorem Inv.epos {c x : Nat} {e : Int} (he : e ∈ s.ext c x) : 0 ≤ e := (List.mem_append.1 he).elim h.mpos h.ppos
theorem Inv.ne (c x : Nat) : (-1 : Int) ∉ s.ext c x := fun he => by have := h.epos he; omega
theorem Inv.einX {c x : Nat} {e : Int} (he : e ∈ s.ext c x) : e ∈ X ∧ writes (op e) = true ∧ xof op e = x := by
  rcases List.mem_append.1 he with he | he
  · exact h.mo x e he
  · have := h.pd c x e he
    exact ⟨this.1, by simp [writes, this.2.1], this.2.2.1⟩
theorem Inv.vonto (c x : Nat) : onto (s.ext c x) (s.V c x) := by
  unfold St.V
  cases hk : s.K c x with
  | none => exact (lst_onto _).app
  | some v =>
    rcases h.ks c x v hk with ⟨_, h2⟩ | ⟨_, h2⟩
    · exact h2.app
    · show onto _ v
      rw [h2]
      rcases lst_onto (s.P c x) with h3 | h3
      · exact .inl h3
      · exact .inr (List.mem_append_right _ h3)
theorem Inv.mnd (x : Nat) : (s.Mo x).Nodup := by
  have := h.nd 0 x
  unfold St.ext at this
  rw [List.nodup_append] at this
  exact this.1
theorem Inv.mne (x : Nat) : (-1 : Int) ∉ s.Mo x := fun he => by have := h.mpos he; omega
/-- What stays of what is known about the events that were there. -/
theorem Inv.old (hI : ∀ c x, Ins (s.ext c x) (s'.ext c x)) (hM : ∀ x a, onto (s.Mo x) a → onto (s'.Mo x) a) (hF : ∀ e ∈ X, s'.Fr e = s.Fr e)
    (hV : ∀ c x, idx (s'.ext c x) (s.V c x) ≤ idx (s'.ext c x) (s'.V c x)) :
    (∀ a b, HB op core X a b → ¬ isF op a → ¬ isF op b → xof op a = xof op b → Coh op s'.Fr (s'.ext (core b) (xof op b)) a b) ∧
    (∀ a c, NOW op core X a c → ¬ isF op a → onto (s'.ext c (xof op a)) (low op s'.Fr a) ∧ idx (s'.ext c (xof op a)) (low op s'.Fr a) ≤ idx (s'.ext c (xof op a)) (s'.V c (xof op a))) ∧
    (∀ a f, HB op core X a f → isF op f → ¬ isF op a → onto (s'.Mo (xof op a)) (low op s'.Fr a)) := by
  have hlow : ∀ a ∈ X, low op s'.Fr a = low op s.Fr a := fun a ha => by unfold low; rw [hF a ha]
  refine ⟨fun a b hab ha hb hx => ?_, fun a c hn ha => ?_, fun a f hab hf ha => ?_⟩
  · obtain ⟨h1, h2, h3⟩ := h.coh a b hab ha hb hx
    have hm := hab.mem
    have hi := hI (core b) (xof op b)
    refine ⟨?_, fun hr => ?_, fun hw => ?_⟩
    · rw [hlow a hm.1]; exact hi.onto h1
    · rw [hlow a hm.1, hF b hm.2]
      exact ⟨hi.onto (h2 hr).1, hi.le h1 (h2 hr).1 (h2 hr).2⟩
    · rw [hlow a hm.1]
      have h4 := hi.onto (.inr (h3 hw).1)
      refine ⟨h4.resolve_left (fun e => ?_), hi.lt h1 (.inr (h3 hw).1) (h3 hw).2⟩
      have := h.pos b hm.2
      omega
  · obtain ⟨h1, h2⟩ := h.now a c hn ha
    have hi := hI c (xof op a)
    rw [hlow a hn.mem]
    exact ⟨hi.onto h1, Int.le_trans (hi.le h1 (h.vonto _ _) h2) (hV _ _)⟩
  · rw [hlow a hab.mem.1]
    exact hM _ _ (h.fen a f hab hf ha)
end
end
end Cx
namespace Cx
open Relation Sp Sp.Ax
def up1 {α : Type} (f : Nat → α) (x : Nat) (v : α) : Nat → α := fun y => if y = x then v else f y
def up2 {α : Type} (f : Nat → Nat → α) (c x : Nat) (v : α) : Nat → Nat → α := fun d y => if d = c ∧ y = x then v else f d y
def upI (f : Int → Int) (b v : Int) : Int → Int := fun e => if e = b then v else f e
theorem up1_same {α : Type} {f : Nat → α} {x : Nat} {v : α} : up1 f x v x = v := if_pos rfl
theorem up1_ne {α : Type} {f : Nat → α} {x y : Nat} {v : α} (h : y ≠ x) : up1 f x v y = f y := if_neg h
theorem up2_same {α : Type} {f : Nat → Nat → α} {c x : Nat} {v : α} : up2 f c x v c x = v := if_pos ⟨rfl, rfl⟩
theorem up2_ne {α : Type} {f : Nat → Nat → α} {c x d y : Nat} {v : α} (h : ¬ (d = c ∧ y = x)) : up2 f c x v d y = f d y := if_neg h
theorem upI_same {f : Int → Int} {b v : Int} : upI f b v b = v := if_pos rfl
theorem upI_ne {f : Int → Int} {b v e : Int} (h : e ≠ b) : upI f b v e = f e := if_neg h
def evS (s : St) (n x : Nat) : St := { Mo := up1 s.Mo x (s.Mo x ++ s.P n x), P := up2 s.P n x [], K := up2 s.K n x none, Fr := s.Fr }
def ldS (s : St) (n x : Nat) (b : Int) : St := { s with K := up2 s.K n x (some (s.V n x)), Fr := upI s.Fr b (s.V n x) }
def stS (s : St) (n x : Nat) (b : Int) : St := { s with P := up2 s.P n x (s.P n x ++ [b]), K := up2 s.K n x (some b) }
def adS (s : St) (n x : Nat) (b : Int) : St := { s with Mo := up1 s.Mo x (s.Mo x ++ [b]), Fr := upI s.Fr b (lst (s.Mo x)) }
section
variable {op : Int → LOp} {core : Int → Nat} {X : List Int} {s : St} (h : Inv op core X s)
include h
theorem Inv.refl (c x : Nat) : Ins (s.ext c x) (s.ext c x) := Ins.refl (h.nd c x) (h.ne c x)
theorem Inv.dis {c d x : Nat} (hcd : c ≠ d) {e : Int} (h1 : e ∈ s.P c x) (h2 : e ∈ s.P d x) : False :=
  hcd ((h.pd c x e h1).2.2.2.symm.trans (h.pd d x e h2).2.2.2)
theorem Inv.mdis {c x : Nat} {e : Int} (h1 : e ∈ s.Mo x) (h2 : e ∈ s.P c x) : False := by
  have := h.nd c x
  unfold St.ext at this
  rw [List.nodup_append] at this
  exact this.2.2 e h1 e h2 rfl
theorem Inv.pnd (c x : Nat) : (s.P c x).Nodup := by
  have := h.nd c x
  unfold St.ext at this
  rw [List.nodup_append] at this
  exact this.2.1
/-- More writes at the end of a place's order: what each core sees there. -/
theorem Inv.put {x : Nat} {p : List Int} (c : Nat) (hp : p.Nodup) (h1 : ∀ e ∈ p, 0 ≤ e) (h2 : ∀ e ∈ p, e ∉ s.Mo x) (h3 : ∀ e ∈ p, e ∉ s.P c x) : Ins (s.ext c x) (s.Mo x ++ p ++ s.P c x) := by
  refine ⟨⟨_, p, _, rfl, rfl⟩, ?_, ?_⟩
  · have hn := h.nd c x
    unfold St.ext at hn
    rw [List.nodup_append] at hn ⊢
    refine ⟨?_, hn.2.1, ?_⟩
    · rw [List.nodup_append]
      exact ⟨hn.1, hp, fun a ha b hb e => h2 b hb (e ▸ ha)⟩
    · intro a ha b hb e
      rcases List.mem_append.1 ha with ha | ha
      · exact hn.2.2 a ha b hb e
      · exact h3 a ha (e ▸ hb)
  · intro hm
    rcases List.mem_append.1 hm with hm | hm
    · rcases List.mem_append.1 hm with hm | hm
      · exact h.mne x hm
      · have := h1 _ hm; omega
    · have := h.ppos hm; omega
theorem Inv.evict {n x : Nat} (hk : s.K n x ≠ none) : Inv op core X (evS s n x) := by
  have hext : ∀ c y, Ins (s.ext c y) ((evS s n x).ext c y) := by
    intro c y
    by_cases hy : y = x
    · subst hy
      by_cases hc : c = n
      · subst hc
        have e : (evS s c y).ext c y = s.ext c y := by
          show up1 s.Mo y _ y ++ up2 s.P c y [] c y = _
          rw [up1_same, up2_same, List.append_nil]; rfl
        rw [e]; exact h.refl _ _
      · have e : (evS s n y).ext c y = s.Mo y ++ s.P n y ++ s.P c y := by
          show up1 s.Mo y _ y ++ up2 s.P n y [] c y = _
          rw [up1_same, up2_ne (fun h => hc h.1)]
        rw [e]
        exact h.put c (h.pnd n y) (fun e he => h.ppos he) (fun e he hm => h.mdis hm he) (fun e he hm => h.dis hc hm he)
    · have e : (evS s n x).ext c y = s.ext c y := by
        show up1 s.Mo x _ y ++ up2 s.P n x [] c y = _
        rw [up1_ne hy, up2_ne (fun h => hy h.2)]; rfl
      rw [e]; exact h.refl _ _
  have hM : ∀ y, ∃ p, (evS s n x).Mo y = s.Mo y ++ p ∧ ((evS s n x).Mo y).Nodup ∧ (-1 : Int) ∉ (evS s n x).Mo y := by
    intro y
    by_cases hy : y = x
    · subst hy
      have e : (evS s n y).Mo y = s.ext n y := up1_same
      exact ⟨s.P n y, e, by rw [e]; exact h.nd n y, by rw [e]; exact h.ne n y⟩
    · have e : (evS s n x).Mo y = s.Mo y := up1_ne hy
      exact ⟨[], by rw [e, List.append_nil], by rw [e]; exact h.mnd y, by rw [e]; exact h.mne y⟩
  have hMo : ∀ y a, onto (s.Mo y) a → onto ((evS s n x).Mo y) a := by
    intro y a ha
    obtain ⟨p, hp, _⟩ := hM y
    rw [hp]; exact ha.app
  have hkn : ∀ c y, (evS s n x).K c y = none → (evS s n x).P c y = [] := by
    intro c y
    show up2 s.K n x none c y = none → up2 s.P n x [] c y = []
    by_cases hc : c = n ∧ y = x
    · intro _; obtain ⟨rfl, rfl⟩ := hc; exact up2_same
    · rw [up2_ne hc, up2_ne hc]; exact h.kn c y
  have hV : ∀ c y, idx ((evS s n x).ext c y) (s.V c y) ≤ idx ((evS s n x).ext c y) ((evS s n x).V c y) := by
    intro c y
    cases hk' : (evS s n x).K c y with
    | none =>
      have e : (evS s n x).ext c y = (evS s n x).Mo y := by show _ ++ _ = _; rw [hkn c y hk', List.append_nil]
      have e2 : (evS s n x).V c y = lst ((evS s n x).Mo y) := by unfold St.V; rw [hk']; rfl
      obtain ⟨p, _, h2, h3⟩ := hM y
      rw [e, e2, idx_lst h2 h3]
      exact (idx_le _ _).2
    | some v =>
      have e : (evS s n x).V c y = v := by unfold St.V; rw [hk']; rfl
      have hc : ¬ (c = n ∧ y = x) := by
        rintro ⟨rfl, rfl⟩
        have : (evS s c y).K c y = none := up2_same
        rw [this] at hk'; cases hk'
      have e3 : s.K c y = some v := by rw [← hk']; exact (up2_ne hc).symm
      have e2 : s.V c y = v := by unfold St.V; rw [e3]; rfl
      rw [e, e2]
      exact Int.le_refl _
  obtain ⟨o1, o2, o3⟩ := h.old hext hMo (fun e he => rfl) hV
  refine ⟨h.nod, h.pos, ?_, ?_, ?_, fun c y => (hext c y).nd, hkn, ?_, h.fr, ?_, o1, o2, o3⟩
  · intro y e he
    have he : e ∈ up1 s.Mo x (s.Mo x ++ s.P n x) y := he
    by_cases hy : y = x
    · subst hy
      rw [up1_same] at he
      exact h.einX (c := n) he
    · rw [up1_ne hy] at he; exact h.mo y e he
  · intro c y e he
    have he : e ∈ up2 s.P n x [] c y := he
    by_cases hc : c = n ∧ y = x
    · obtain ⟨rfl, rfl⟩ := hc; rw [up2_same] at he; cases he
    · rw [up2_ne hc] at he; exact h.pd c y e he
  · intro e he hw
    exact ((hext _ _).onto (.inr (h.all e he hw))).resolve_left (fun e' => by have := h.pos e he; omega)
  · intro c y v hv
    have hv : up2 s.K n x none c y = some v := hv
    show (up2 s.P n x [] c y = [] ∧ _) ∨ (up2 s.P n x [] c y ≠ [] ∧ v = lst (up2 s.P n x [] c y))
    by_cases hc : c = n ∧ y = x
    · obtain ⟨rfl, rfl⟩ := hc; rw [up2_same] at hv; cases hv
    · rw [up2_ne hc] at hv ⊢
      exact (h.ks c y v hv).imp (fun h1 => ⟨h1.1, hMo y v h1.2⟩) id
  · intro e he h3
    obtain ⟨h1, h2, h4⟩ := h.add e he h3
    obtain ⟨p, hp, hn, hne⟩ := hM (xof op e)
    refine ⟨by rw [hp]; exact List.mem_append_left _ h1, hMo _ _ h2, ?_⟩
    show idx ((evS s n x).Mo (xof op e)) (s.Fr e) = _
    rw [hp] at hne ⊢
    rw [idx_app_in h1, ← h4]
    rcases h2 with h2 | h2
    · rw [h2, idx_out hne, idx_out (fun hm => hne (List.mem_append_left _ hm))]
    · exact idx_app_in h2
/-- What a new event brings, one that is no fence. -/
theorem Inv.fresh {s' : St} {b : Int} (hb : b ∉ X) (hf : ¬ isF op b) (hI : ∀ c x, Ins (s.ext c x) (s'.ext c x)) (hM : ∀ x a, onto (s.Mo x) a → onto (s'.Mo x) a) (hF : ∀ e ∈ X, s'.Fr e = s.Fr e)
    (hV : ∀ c x, idx (s'.ext c x) (s.V c x) ≤ idx (s'.ext c x) (s'.V c x))
    (hR : reads (op b) = true → s'.Fr b = s.V (core b) (xof op b))
    (hW : writes (op b) = true → b ∈ s'.ext (core b) (xof op b) ∧ (∀ a, onto (s.ext (core b) (xof op b)) a → idx (s'.ext (core b) (xof op b)) a < idx (s'.ext (core b) (xof op b)) b))
    (hL : onto (s'.ext (core b) (xof op b)) (low op s'.Fr b) ∧ idx (s'.ext (core b) (xof op b)) (low op s'.Fr b) ≤ idx (s'.ext (core b) (xof op b)) (s'.V (core b) (xof op b))) :
    (∀ a d, HB op core (X ++ [b]) a d → ¬ isF op a → ¬ isF op d → xof op a = xof op d → Coh op s'.Fr (s'.ext (core d) (xof op d)) a d) ∧
    (∀ a c, NOW op core (X ++ [b]) a c → ¬ isF op a → onto (s'.ext c (xof op a)) (low op s'.Fr a) ∧ idx (s'.ext c (xof op a)) (low op s'.Fr a) ≤ idx (s'.ext c (xof op a)) (s'.V c (xof op a))) ∧
    (∀ a f, HB op core (X ++ [b]) a f → isF op f → ¬ isF op a → onto (s'.Mo (xof op a)) (low op s'.Fr a)) := by
  obtain ⟨o1, o2, o3⟩ := h.old hI hM hF hV
  have hnow : ∀ a, (∃ d ∈ X, adj op core d b ∧ (a = d ∨ HB op core X a d)) → NOW op core X a (core b) := by
    rintro a ⟨d, h1, h2, h3⟩
    refine ⟨d, h1, h2.resolve_right (fun h2 => hf h2.2), h3⟩
  refine ⟨fun a d had ha hd hx => ?_, fun a c hn ha => ?_, fun a f haf hff ha => ?_⟩
  · rcases had.snoc hb with h1 | ⟨rfl, h1⟩
    · exact o1 a d h1 ha hd hx
    · have hn := hnow a h1
      obtain ⟨k1, k2⟩ := h.now a _ hn ha
      have hlow : low op s'.Fr a = low op s.Fr a := by unfold low; rw [hF a hn.mem]
      rw [hx] at k1 k2
      have hi := hI (core d) (xof op d)
      refine ⟨by rw [hlow]; exact hi.onto k1, fun hr => ?_, fun hw => ⟨(hW hw).1, by rw [hlow]; exact (hW hw).2 _ k1⟩⟩
      rw [hR hr, hlow]
      exact ⟨hi.onto (h.vonto _ _), hi.le k1 (h.vonto _ _) k2⟩
  · rcases hn.snoc hb with h1 | ⟨rfl, rfl | h1⟩
    · exact o2 a c h1 ha
    · exact hL
    · exact o2 a _ (hnow a h1) ha
  · rcases haf.snoc hb with h1 | ⟨rfl, _⟩
    · exact o3 a f h1 hff ha
    · exact absurd hff hf
theorem Inv.load {n x : Nat} {b : Int} (hb : b ∉ X) (h0 : 0 ≤ b) (ho : (op b).1 = 1) (hc : core b = n) (hx : xof op b = x) : Inv op core (X ++ [b]) (ldS s n x b) := by
  subst hc; subst hx
  have hw : writes (op b) = false := by simp [writes, ho]
  have hV : ∀ c y, (ldS s (core b) (xof op b) b).V c y = s.V c y := by
    intro c y
    show (up2 s.K (core b) (xof op b) (some (s.V (core b) (xof op b))) c y).getD (lst (s.Mo y)) = _
    by_cases hk : c = core b ∧ y = xof op b
    · obtain ⟨rfl, rfl⟩ := hk; rw [up2_same]; rfl
    · rw [up2_ne hk]; rfl
  have hF : ∀ e ∈ X, (ldS s (core b) (xof op b) b).Fr e = s.Fr e := fun e he => upI_ne (fun e' => hb (e' ▸ he))
  have hFb : (ldS s (core b) (xof op b) b).Fr b = s.V (core b) (xof op b) := upI_same
  obtain ⟨o1, o2, o3⟩ := h.fresh (s' := ldS s (core b) (xof op b) b) hb (by unfold isF; omega) (fun c y => h.refl c y) (fun _ _ h => h) hF (fun c y => by rw [hV]; exact Int.le_refl _)
    (fun _ => hFb) (fun hw' => by rw [hw] at hw'; cases hw') (by
      unfold low
      rw [if_neg (by rw [hw]; decide), hFb, hV]
      exact ⟨h.vonto _ _, Int.le_refl _⟩)
  refine ⟨?_, ?_, fun y e he => ?_, fun c y e he => ?_, ?_, h.nd, ?_, ?_, ?_, ?_, o1, o2, o3⟩
  · rw [List.nodup_append]; exact ⟨h.nod, by simp, fun a ha d hd e => hb (by rw [List.mem_singleton.1 hd] at e; exact e ▸ ha)⟩
  · intro e he
    rcases List.mem_append.1 he with he | he
    · exact h.pos e he
    · rw [List.mem_singleton.1 he]; exact h0
  · have := h.mo y e he; exact ⟨List.mem_append_left _ this.1, this.2⟩
  · have := h.pd c y e he; exact ⟨List.mem_append_left _ this.1, this.2⟩
  · intro e he hwe
    rcases List.mem_append.1 he with he | he
    · exact h.all e he hwe
    · rw [List.mem_singleton.1 he, hw] at hwe; cases hwe
  · intro c y hk
    have hk : up2 s.K (core b) (xof op b) (some (s.V (core b) (xof op b))) c y = none := hk
    by_cases hcy : c = core b ∧ y = xof op b
    · obtain ⟨rfl, rfl⟩ := hcy; rw [up2_same] at hk; cases hk
    · rw [up2_ne hcy] at hk; exact h.kn c y hk
  · intro c y v hk
    have hk : up2 s.K (core b) (xof op b) (some (s.V (core b) (xof op b))) c y = some v := hk
    by_cases hcy : c = core b ∧ y = xof op b
    · obtain ⟨rfl, rfl⟩ := hcy
      rw [up2_same] at hk
      injection hk with hk
      cases hk2 : s.K (core b) (xof op b) with
      | none =>
        left
        refine ⟨h.kn _ _ hk2, ?_⟩
        rw [← hk]; unfold St.V; rw [hk2]; exact lst_onto _
      | some w =>
        have : s.V (core b) (xof op b) = w := by unfold St.V; rw [hk2]; rfl
        rw [this] at hk
        exact hk ▸ h.ks _ _ w hk2
    · rw [up2_ne hcy] at hk; exact h.ks c y v hk
  · intro e he hr
    rcases List.mem_append.1 he with he | he
    · rw [hF e he]
      exact (h.fr e he hr).imp id fun h1 => ⟨h1.1.trans (List.sublist_append_left _ _), h1.2⟩
    · rw [List.mem_singleton.1 he, hFb]
      rcases h.vonto (core b) (xof op b) with h1 | h1
      · exact .inl h1
      · have := h.einX h1
        exact .inr ⟨(sub_snoc hb).2 (.inr ⟨rfl, this.1⟩), this.2⟩
  · intro e he h3
    rcases List.mem_append.1 he with he | he
    · rw [hF e he]; exact h.add e he h3
    · rw [List.mem_singleton.1 he, ho] at h3; cases h3
theorem Inv.store {n x : Nat} {b : Int} (hb : b ∉ X) (h0 : 0 ≤ b) (ho : (op b).1 = 2) (hc : core b = n) (hx : xof op b = x) : Inv op core (X ++ [b]) (stS s n x b) := by
  subst hc; subst hx
  have hw : writes (op b) = true := by simp [writes, ho]
  have hr : reads (op b) = false := by simp [reads, ho]
  have hbe : ∀ c y, b ∉ s.ext c y := fun c y hm => hb (h.einX hm).1
  have e1 : (stS s (core b) (xof op b) b).ext (core b) (xof op b) = s.ext (core b) (xof op b) ++ [b] := by
    show s.Mo _ ++ up2 s.P _ _ _ _ _ = _
    rw [up2_same, ← List.append_assoc]; rfl
  have e2 : ∀ c y, ¬ (c = core b ∧ y = xof op b) → (stS s (core b) (xof op b) b).ext c y = s.ext c y := by
    intro c y hcy
    show s.Mo _ ++ up2 s.P _ _ _ _ _ = _
    rw [up2_ne hcy]; rfl
  have hext : ∀ c y, Ins (s.ext c y) ((stS s (core b) (xof op b) b).ext c y) := by
    intro c y
    by_cases hcy : c = core b ∧ y = xof op b
    · obtain ⟨rfl, rfl⟩ := hcy
      rw [e1]
      refine ⟨⟨_, [b], [], by rw [List.append_nil], by rw [List.append_nil]⟩, ?_, ?_⟩
      · rw [List.nodup_append]; exact ⟨h.nd _ _, by simp, fun a ha d hd e => hbe _ _ (by rw [List.mem_singleton.1 hd] at e; exact e ▸ ha)⟩
      · intro hm
        rcases List.mem_append.1 hm with hm | hm
        · exact h.ne _ _ hm
        · have := List.mem_singleton.1 hm; omega
    · rw [e2 c y hcy]; exact h.refl c y
  have v1 : (stS s (core b) (xof op b) b).V (core b) (xof op b) = b := by
    show (up2 s.K _ _ _ _ _).getD _ = _
    rw [up2_same]; rfl
  have v2 : ∀ c y, ¬ (c = core b ∧ y = xof op b) → (stS s (core b) (xof op b) b).V c y = s.V c y := by
    intro c y hcy
    show (up2 s.K _ _ _ _ _).getD _ = _
    rw [up2_ne hcy]; rfl
  have top : idx (s.ext (core b) (xof op b) ++ [b]) b = (s.ext (core b) (xof op b)).length := idx_snoc (hbe _ _)
  have hlt : ∀ a, onto (s.ext (core b) (xof op b)) a → idx (s.ext (core b) (xof op b) ++ [b]) a < (s.ext (core b) (xof op b)).length := by
    intro a ha
    rcases ha with ha | ha
    · have := hext (core b) (xof op b)
      rw [e1] at this
      rw [ha, idx_out this.ne]; omega
    · rw [idx_app_in ha]; have := idx_le (s.ext (core b) (xof op b)) a; omega
  obtain ⟨o1, o2, o3⟩ := h.fresh (s' := stS s (core b) (xof op b) b) hb (by unfold isF; omega) hext (fun _ _ h => h) (fun _ _ => rfl) (fun c y => by
      by_cases hcy : c = core b ∧ y = xof op b
      · obtain ⟨rfl, rfl⟩ := hcy
        rw [e1, v1, top]
        exact Int.le_of_lt (hlt _ (h.vonto _ _))
      · rw [v2 c y hcy]; exact Int.le_refl _)
    (fun hr' => by rw [hr] at hr'; cases hr') (fun _ => by
      rw [e1]
      exact ⟨by simp, fun a ha => by rw [top]; exact hlt a ha⟩) (by
      unfold low
      rw [if_pos hw, e1, v1]
      exact ⟨.inr (by simp), Int.le_refl _⟩)
  refine ⟨?_, ?_, fun y e he => ?_, fun c y e he => ?_, ?_, fun c y => (hext c y).nd, ?_, ?_, ?_, ?_, o1, o2, o3⟩
  · rw [List.nodup_append]; exact ⟨h.nod, by simp, fun a ha d hd e => hb (by rw [List.mem_singleton.1 hd] at e; exact e ▸ ha)⟩
  · intro e he
    rcases List.mem_append.1 he with he | he
    · exact h.pos e he
    · rw [List.mem_singleton.1 he]; exact h0
  · have := h.mo y e he; exact ⟨List.mem_append_left _ this.1, this.2⟩
  · have he : e ∈ up2 s.P (core b) (xof op b) (s.P (core b) (xof op b) ++ [b]) c y := he
    by_cases hcy : c = core b ∧ y = xof op b
    · obtain ⟨rfl, rfl⟩ := hcy
      rw [up2_same] at he
      rcases List.mem_append.1 he with he | he
      · have := h.pd _ _ e he; exact ⟨List.mem_append_left _ this.1, this.2⟩
      · rw [List.mem_singleton.1 he]; exact ⟨by simp, ho, rfl, rfl⟩
    · rw [up2_ne hcy] at he; have := h.pd c y e he; exact ⟨List.mem_append_left _ this.1, this.2⟩
  · intro e he hwe
    rcases List.mem_append.1 he with he | he
    · exact ((hext _ _).onto (.inr (h.all e he hwe))).resolve_left (fun e' => by have := h.pos e he; omega)
    · rw [List.mem_singleton.1 he, e1]; simp
  · intro c y hk
    have hk : up2 s.K (core b) (xof op b) (some b) c y = none := hk
    show up2 s.P (core b) (xof op b) _ c y = []
    by_cases hcy : c = core b ∧ y = xof op b
    · obtain ⟨rfl, rfl⟩ := hcy; rw [up2_same] at hk; cases hk
    · rw [up2_ne hcy] at hk ⊢; exact h.kn c y hk
  · intro c y v hk
    have hk : up2 s.K (core b) (xof op b) (some b) c y = some v := hk
    show (up2 s.P (core b) (xof op b) _ c y = [] ∧ _) ∨ (up2 s.P (core b) (xof op b) _ c y ≠ [] ∧ v = lst (up2 s.P (core b) (xof op b) _ c y))
    by_cases hcy : c = core b ∧ y = xof op b
    · obtain ⟨rfl, rfl⟩ := hcy
      rw [up2_same] at hk ⊢
      injection hk with hk
      right
      exact ⟨by simp, by rw [lst_snoc]; exact hk.symm⟩
    · rw [up2_ne hcy] at hk ⊢; exact h.ks c y v hk
  · intro e he hr'
    rcases List.mem_append.1 he with he | he
    · exact (h.fr e he hr').imp id fun h1 => ⟨h1.1.trans (List.sublist_append_left _ _), h1.2⟩
    · rw [List.mem_singleton.1 he, hr] at hr'; cases hr'
  · intro e he h3
    rcases List.mem_append.1 he with he | he
    · exact h.add e he h3
    · rw [List.mem_singleton.1 he, ho] at h3; cases h3
theorem Inv.add' {n x : Nat} {b : Int} (hb : b ∉ X) (h0 : 0 ≤ b) (ho : (op b).1 = 3) (hc : core b = n) (hx : xof op b = x) (hk : s.K n x = none) : Inv op core (X ++ [b]) (adS s n x b) := by
  subst hc; subst hx
  have hw : writes (op b) = true := by simp [writes, ho]
  have hbe : ∀ c y, b ∉ s.ext c y := fun c y hm => hb (h.einX hm).1
  have hbm : ∀ y, b ∉ s.Mo y := fun y hm => hb (h.mo y b hm).1
  have m1 : (adS s (core b) (xof op b) b).Mo (xof op b) = s.Mo (xof op b) ++ [b] := up1_same
  have m2 : ∀ y, y ≠ xof op b → (adS s (core b) (xof op b) b).Mo y = s.Mo y := fun y hy => up1_ne hy
  have e1 : ∀ c, (adS s (core b) (xof op b) b).ext c (xof op b) = s.Mo (xof op b) ++ [b] ++ s.P c (xof op b) := fun c => by
    show (adS s (core b) (xof op b) b).Mo _ ++ s.P _ _ = _
    rw [m1]
  have e2 : ∀ c y, y ≠ xof op b → (adS s (core b) (xof op b) b).ext c y = s.ext c y := fun c y hy => by
    show (adS s (core b) (xof op b) b).Mo _ ++ s.P _ _ = _
    rw [m2 y hy]; rfl
  have hext : ∀ c y, Ins (s.ext c y) ((adS s (core b) (xof op b) b).ext c y) := by
    intro c y
    by_cases hy : y = xof op b
    · subst hy
      rw [e1]
      exact h.put c (by simp) (fun e he => by rw [List.mem_singleton.1 he]; exact h0) (fun e he => by rw [List.mem_singleton.1 he]; exact hbm _) (fun e he hm => by
        rw [List.mem_singleton.1 he] at hm; exact hb (h.pd _ _ _ hm).1)
    · rw [e2 c y hy]; exact h.refl c y
  have hMo : ∀ y a, onto (s.Mo y) a → onto ((adS s (core b) (xof op b) b).Mo y) a := by
    intro y a ha
    by_cases hy : y = xof op b
    · subst hy; rw [m1]; exact ha.app
    · rw [m2 y hy]; exact ha
  have hmn : (s.Mo (xof op b) ++ [b]).Nodup := by
    rw [List.nodup_append]; exact ⟨h.mnd _, by simp, fun a ha d hd e => hbm _ (by rw [List.mem_singleton.1 hd] at e; exact e ▸ ha)⟩
  have hmne : (-1 : Int) ∉ s.Mo (xof op b) ++ [b] := by
    intro hm
    rcases List.mem_append.1 hm with hm | hm
    · exact h.mne _ hm
    · have := List.mem_singleton.1 hm; omega
  have hF : ∀ e ∈ X, (adS s (core b) (xof op b) b).Fr e = s.Fr e := fun e he => upI_ne (fun e' => hb (e' ▸ he))
  have hFb : (adS s (core b) (xof op b) b).Fr b = lst (s.Mo (xof op b)) := upI_same
  have hP : s.P (core b) (xof op b) = [] := h.kn _ _ hk
  have e3 : (adS s (core b) (xof op b) b).ext (core b) (xof op b) = s.Mo (xof op b) ++ [b] := by rw [e1, hP, List.append_nil]
  have e4 : s.ext (core b) (xof op b) = s.Mo (xof op b) := by show _ ++ _ = _; rw [hP, List.append_nil]
  have hVb : s.V (core b) (xof op b) = lst (s.Mo (xof op b)) := by unfold St.V; rw [hk]; rfl
  have hVn : ∀ c, s.K c (xof op b) = none → (adS s (core b) (xof op b) b).V c (xof op b) = b := by
    intro c hkc
    show (s.K c (xof op b)).getD (lst ((adS s (core b) (xof op b) b).Mo (xof op b))) = b
    rw [hkc, m1, lst_snoc]; rfl
  have top : idx (s.Mo (xof op b) ++ [b]) b = (s.Mo (xof op b)).length := idx_snoc (hbm _)
  have hlt : ∀ a, onto (s.Mo (xof op b)) a → idx (s.Mo (xof op b) ++ [b]) a < (s.Mo (xof op b)).length := by
    intro a ha
    rcases ha with ha | ha
    · rw [ha, idx_out hmne]; omega
    · rw [idx_app_in ha]; have := idx_le (s.Mo (xof op b)) a; omega
  obtain ⟨o1, o2, o3⟩ := h.fresh (s' := adS s (core b) (xof op b) b) hb (by unfold isF; omega) hext hMo hF (fun c y => by
      by_cases hy : y = xof op b
      · subst hy
        cases hkc : s.K c (xof op b) with
        | none =>
          rw [hVn c hkc, e1, h.kn _ _ hkc, List.append_nil, top]
          have := (idx_le (s.Mo (xof op b) ++ [b]) (s.V c (xof op b))).2
          simp at this; omega
        | some v =>
          have i1 : s.V c (xof op b) = v := by unfold St.V; rw [hkc]; rfl
          have i2 : (adS s (core b) (xof op b) b).V c (xof op b) = v := by
            show (s.K c (xof op b)).getD _ = v
            rw [hkc]; rfl
          rw [i1, i2]; exact Int.le_refl _
      · have i2 : (adS s (core b) (xof op b) b).V c y = s.V c y := by
          show (s.K c y).getD (lst ((adS s (core b) (xof op b) b).Mo y)) = _
          rw [m2 y hy]; rfl
        rw [i2]; exact Int.le_refl _)
    (fun _ => hFb.trans hVb.symm) (fun _ => by
      rw [e3, e4]
      exact ⟨by simp, fun a ha => by rw [top]; exact hlt a ha⟩) (by
      unfold low
      rw [if_pos hw, e3, hVn _ hk]
      exact ⟨.inr (by simp), Int.le_refl _⟩)
  refine ⟨?_, ?_, fun y e he => ?_, fun c y e he => ?_, ?_, fun c y => (hext c y).nd, h.kn, ?_, ?_, ?_, o1, o2, o3⟩
  · rw [List.nodup_append]; exact ⟨h.nod, by simp, fun a ha d hd e => hb (by rw [List.mem_singleton.1 hd] at e; exact e ▸ ha)⟩
  · intro e he
    rcases List.mem_append.1 he with he | he
    · exact h.pos e he
    · rw [List.mem_singleton.1 he]; exact h0
  · by_cases hy : y = xof op b
    · subst hy
      rw [m1] at he
      rcases List.mem_append.1 he with he | he
      · have := h.mo _ e he; exact ⟨List.mem_append_left _ this.1, this.2⟩
      · rw [List.mem_singleton.1 he]; exact ⟨by simp, hw, rfl⟩
    · rw [m2 y hy] at he; have := h.mo y e he; exact ⟨List.mem_append_left _ this.1, this.2⟩
  · have := h.pd c y e he; exact ⟨List.mem_append_left _ this.1, this.2⟩
  · intro e he hwe
    rcases List.mem_append.1 he with he | he
    · exact ((hext _ _).onto (.inr (h.all e he hwe))).resolve_left (fun e' => by have := h.pos e he; omega)
    · rw [List.mem_singleton.1 he, e3]; simp
  · intro c y v hkc
    exact (h.ks c y v hkc).imp (fun h1 => ⟨h1.1, hMo y v h1.2⟩) id
  · intro e he hr
    rcases List.mem_append.1 he with he | he
    · rw [hF e he]
      exact (h.fr e he hr).imp id fun h1 => ⟨h1.1.trans (List.sublist_append_left _ _), h1.2⟩
    · rw [List.mem_singleton.1 he, hFb]
      rcases lst_onto (s.Mo (xof op b)) with h1 | h1
      · exact .inl h1
      · have := h.mo _ _ h1
        exact .inr ⟨(sub_snoc hb).2 (.inr ⟨rfl, this.1⟩), this.2⟩
  · intro e he h3
    rcases List.mem_append.1 he with he | he
    · obtain ⟨g1, g2, g3⟩ := h.add e he h3
      rw [hF e he]
      refine ⟨?_, hMo _ _ g2, ?_⟩
      · exact (hMo _ _ (.inr g1)).resolve_left (fun e' => by have := h.pos e he; omega)
      · by_cases hy : xof op e = xof op b
        · rw [hy] at g1 g2 g3 ⊢
          rw [m1, idx_app_in g1, ← g3]
          rcases g2 with g2 | g2
          · rw [g2, idx_out hmne, idx_out (h.mne _)]
          · exact idx_app_in g2
        · rw [m2 _ hy]; exact g3
    · rw [List.mem_singleton.1 he, hFb, m1]
      refine ⟨by simp, (lst_onto _).app, ?_⟩
      rw [top]
      rcases lst_cases (s.Mo (xof op b)) with h1 | ⟨a, d, h1, h2⟩
      · have hm := h1
        rw [hm] at hmne ⊢
        rw [lst_nil, idx_out hmne]; rfl
      · have hm : lst (s.Mo (xof op b)) ∈ s.Mo (xof op b) := by rw [h2, h1]; simp
        rw [idx_app_in hm, idx_lst (h.mnd _) (h.mne _)]
theorem Inv.fence {n : Nat} {b : Int} (hb : b ∉ X) (h0 : 0 ≤ b) (ho : (op b).1 = 4) (hc : core b = n) (hk : ∀ x, s.K n x = none) : Inv op core (X ++ [b]) s := by
  subst hc
  have hw : writes (op b) = false := by simp [writes, ho]
  have hr : reads (op b) = false := by simp [reads, ho]
  have hE : ∀ x, s.ext (core b) x = s.Mo x := fun x => by show _ ++ _ = _; rw [h.kn _ _ (hk x), List.append_nil]
  have hV : ∀ x, s.V (core b) x = lst (s.Mo x) := fun x => by unfold St.V; rw [hk]; rfl
  have hnew : ∀ a, ¬ isF op a → (∃ d ∈ X, adj op core d b ∧ (a = d ∨ HB op core X a d)) → onto (s.Mo (xof op a)) (low op s.Fr a) := by
    rintro a ha ⟨d, h1, h2, h3⟩
    rcases h2 with h2 | h2
    · have := (h.now a (core b) ⟨d, h1, h2, h3⟩ ha).1
      rwa [hE] at this
    · rcases h3 with rfl | h3
      · exact absurd h2.1 ha
      · exact h.fen a d h3 h2.1 ha
  refine ⟨?_, ?_, fun y e he => ?_, fun c y e he => ?_, ?_, h.nd, h.kn, h.ks, ?_, ?_, ?_, ?_, ?_⟩
  · rw [List.nodup_append]; exact ⟨h.nod, by simp, fun a ha d hd e => hb (by rw [List.mem_singleton.1 hd] at e; exact e ▸ ha)⟩
  · intro e he
    rcases List.mem_append.1 he with he | he
    · exact h.pos e he
    · rw [List.mem_singleton.1 he]; exact h0
  · have := h.mo y e he; exact ⟨List.mem_append_left _ this.1, this.2⟩
  · have := h.pd c y e he; exact ⟨List.mem_append_left _ this.1, this.2⟩
  · intro e he hwe
    rcases List.mem_append.1 he with he | he
    · exact h.all e he hwe
    · rw [List.mem_singleton.1 he, hw] at hwe; cases hwe
  · intro e he hr'
    rcases List.mem_append.1 he with he | he
    · exact (h.fr e he hr').imp id fun h1 => ⟨h1.1.trans (List.sublist_append_left _ _), h1.2⟩
    · rw [List.mem_singleton.1 he, hr] at hr'; cases hr'
  · intro e he h3
    rcases List.mem_append.1 he with he | he
    · exact h.add e he h3
    · rw [List.mem_singleton.1 he, ho] at h3; cases h3
  · intro a d had ha hd hx
    rcases had.snoc hb with h1 | ⟨rfl, _⟩
    · exact h.coh a d h1 ha hd hx
    · exact absurd ho hd
  · intro a c hn ha
    rcases hn.snoc hb with h1 | ⟨rfl, rfl | h1⟩
    · exact h.now a c h1 ha
    · exact absurd ho ha
    · rw [hE, hV, idx_lst (h.mnd _) (h.mne _)]
      exact ⟨hnew a ha h1, (idx_le _ _).2⟩
  · intro a f haf hf ha
    rcases haf.snoc hb with h1 | ⟨rfl, h1⟩
    · exact h.fen a f h1 hf ha
    · exact hnew a ha h1
end
end Cx
