/- Taken over from another seat by conv.py: it is computed. The graph of a run is right, and allowed by the axioms. ViewAllowed: what is computed. Written by gen.py: what is left to show of each function. ViewAllowed: the law. The law ViewAllowed. -/
import Derived.Test.YthhclebbpbkgdaaLfm
set_option linter.unusedVariables false
set_option linter.unusedSimpArgs false
namespace Sp.Ax
open Relation
theorem not_mem_take_succ {α : Type} {l : List α} {i : Nat} {n d : α} (h : n ∉ l.take i) (hi : i < l.length) (hn : l.getD i d ≠ n) : n ∉ l.take (i + 1) := by
 rw [List.take_succ_eq_append_getElem hi]
 simp only [List.mem_append, List.mem_singleton, not_or]
 refine ⟨h, fun e => hn ?_⟩
 rw [List.getD_eq_getElem?_getD, List.getElem?_eq_getElem hi]
 exact e.symm
theorem idx_at {l : List Int} {n : Int} {i : Nat} (h : n ∉ l.take i) (hi : i < l.length) (hn : l.getD i 0 = n) : (i : Int) = idx l n := by
 have hg : l[i] = n := by rw [List.getD_eq_getElem?_getD, List.getElem?_eq_getElem hi] at hn; exact hn
 have hm : n ∈ l := hg ▸ List.getElem_mem hi
 unfold idx
 rw [if_pos hm]
 have e : l.idxOf n = i := by
  have := List.idxOf_append (l₁ := l.take i) (l₂ := l.drop i) (a := n)
  rw [List.take_append_drop, if_neg h, List.drop_eq_getElem_cons hi, hg, List.idxOf_cons_self, List.length_take] at this;omega
 rw [e]
theorem idx_none {l : List Int} {n : Int} (h : n ∉ l) : (-1 : Int) = idx l n := by unfold idx; rw [if_neg h]
theorem take_all {α : Type} {l : List α} {i : Nat} (h1 : i <= l.length) (h2 : (l.length : Int) <= (i : Int)) : l.take i = l := List.take_of_length_le (by omega)
theorem findI_at {l : List LEv} {p : LEv -> Bool} {i : Nat} (h : ∀ e ∈ l.take i, p e = false) (hi : i < l.length) (hp : p (l.getD i ev0) = true) : (i : Int) = findI p l := by
 have hg : l.getD i ev0 = l[i] := by rw [List.getD_eq_getElem?_getD, List.getElem?_eq_getElem hi]; rfl
 rw [hg] at hp
 unfold findI
 have : l.findIdx? p = some i := by
  rw [List.findIdx?_eq_some_iff_getElem];refine ⟨hi, hp, fun j hj => ?_⟩
  have := h l[j] (List.mem_take_iff_getElem.2 ⟨j, by omega, rfl⟩)
  rw [this]; simp
 rw [this]
theorem findI_none {l : List LEv} {p : LEv -> Bool} (h : ∀ e ∈ l, p e = false) : (-1 : Int) = findI p l := by
 unfold findI
 have : l.findIdx? p = none := by
  rw [List.findIdx?_eq_none_iff]; exact h
 rw [this]
theorem findI_any (l : List LEv) (p : LEv -> Bool) : decide (0 <= findI p l) = l.any p := by
 unfold findI
 cases h : l.findIdx? p with
 | none =>
  rw [List.findIdx?_eq_none_iff] at h;have : l.any p = false := by rw [List.any_eq_false]; intro x hx; rw [h x hx]; simp
  rw [this]; rfl
 | some i =>
  rw [List.findIdx?_eq_some_iff_getElem] at h;obtain ⟨hi, hp, _⟩ := h;have : l.any p = true := List.any_eq_true.2 ⟨_, List.getElem_mem hi, hp⟩;rw [this]
  simp
end Sp.Ax
namespace Go.User.Ax
open Go.Lf Go.Proofs
theorem lim_eq : lim = 140737488355328 := rfl
theorem inK_of {z : Int} (h1 : -9223372036854775808 <= z) (h2 : z <= 9223372036854775807) : inK .i64 z := ⟨h1, h2⟩
theorem inK_succ {i n : Nat} (h : (i : Int) < (n : Int)) (hn : n <= lim) : inK .i64 ((i : Int) + 1) := by rw [lim_eq] at hn; exact inK_of (by omega) (by omega)
theorem inN_of {i n : Nat} (h : (i : Int) < (n : Int)) : inN (i : Int) n := ⟨by omega, h⟩
theorem okA {n : Nat} {fns : List (FuncId × aU)} (h : ∀ f s, Lf.look fns f = some s -> FOk Try.prog f s) : aJ Try.prog (mkC n fns) := ctx_okQ 0 rfl rfl h ptrs_nil (fun _ h => by cases h) (fun _ h => by cases h) ins_nil (fun _ h => by cases h)
theorem ok90 : FOk Try.prog 90 S90 := by
 refine FOk.intro (okA fns_nil) (stpQ_ok (okA fns_nil)) Try.call90 Try.func90 (by kernel_rfl) (by kernel_rfl) L90 (vc90.mpr ?_)
 simp only [zz, zy, aD]
 intro x hx
 refine ⟨⟨0, ⟨Nat.zero_le _, by simp⟩, rfl⟩, ?_⟩
 intro i hi hk
 refine ⟨fun hlt => ⟨inN_of hlt, fun h => Sp.Ax.idx_at hi.2 (by omega) h.symm, fun h => ⟨inK_succ hlt hx.1.1, i + 1, ⟨by omega, Sp.Ax.not_mem_take_succ hi.2 (by omega) (fun e => h e.symm)⟩, by omega, by omega⟩⟩, fun hge => ?_⟩
 have := hi.2
 rw [Sp.Ax.take_all hi.1 hge] at this
 exact Sp.Ax.idx_none this
theorem ok57 : FOk Try.prog 57 S57 := FOk.intro (okA fns_nil) (stpQ_ok (okA fns_nil)) Try.call57 Try.func57 (by kernel_rfl) (by kernel_rfl) L57 (vc57.mpr (by simp only [zz, zy, aD]; first | done | exact (fun x hx => rfl)))
theorem ok58 : FOk Try.prog 58 S58 := FOk.intro (okA fns_nil) (stpQ_ok (okA fns_nil)) Try.call58 Try.func58 (by kernel_rfl) (by kernel_rfl) L58 (vc58.mpr (by simp only [zz, zy, aD]; first | done | exact (fun x hx => rfl)))
theorem ok89 : FOk Try.prog 89 S89 := by
 refine FOk.intro (okA fns_nil) (stpQ_ok (okA fns_nil)) Try.call89 Try.func89 (by kernel_rfl) (by kernel_rfl) L89 (vc89.mpr ?_)
 simp only [zz, zy, aD]
 intro x hx
 refine ⟨fun h => ?_, fun h => ⟨fun h1 => ?_, fun h1 => ⟨fun h2 => ⟨fun _ => ?_, fun h3 => absurd h2 h3⟩, fun h2 => ⟨fun h3 => ?_, fun h3 => ?_⟩⟩⟩⟩
 ·simp [Sp.Ax.usual, h]
 ·simp [Sp.Ax.usual, h1]; rfl
 ·simp [Sp.Ax.usual, h2]
 ·simp [Sp.Ax.usual, h3]
 ·simp [Sp.Ax.usual, h, h1, h2, h3]
theorem ok88 : FOk Try.prog 88 S88 :=
 have hC : aJ Try.prog C88 := okA (aG ok89 fns_nil)
 FOk.intro hC (stpQ_ok hC) Try.call88 Try.func88 (by kernel_rfl) (by kernel_rfl) L88 (vc88.mpr (by simp only [zz, zy, aD]; first | done | exact (fun x hx => rfl)))
theorem ok99 : FOk Try.prog 99 S99 := by
 refine FOk.intro (okA fns_nil) (stpQ_ok (okA fns_nil)) Try.call99 Try.func99 (by kernel_rfl) (by kernel_rfl) L99 (vc99.mpr ?_)
 simp only [zz, zy, aD]
 intro x hp hx
 refine ⟨⟨0, ⟨Nat.zero_le _, by simp⟩, rfl⟩, ?_⟩
 intro i hi hk
 refine ⟨fun hlt => ⟨⟨inN_of hlt, hp _⟩, fun h => Sp.Ax.findI_at hi.2 (by omega) h, fun h => ⟨inK_succ hlt hx.1, i + 1, ⟨by omega, ?_⟩, by omega, by omega⟩⟩, fun hge => ?_⟩
 ·intro e he
  rw [List.take_succ_eq_append_getElem (by omega)] at he;rcases List.mem_append.1 he with he | he
  ·exact hi.2 e he
  ·simp only [List.mem_singleton] at he
   rw [List.getD_eq_getElem?_getD, List.getElem?_eq_getElem (by omega)] at h;rw [he]; exact h
 ·have := hi.2
  rw [Sp.Ax.take_all hi.1 hge] at this;exact Sp.Ax.findI_none this
theorem ok87 : FOk Try.prog 87 S87 :=
 have hC : aJ Try.prog C87 := okA (aG ok99 fns_nil)
 FOk.intro hC (stpQ_ok hC) Try.call87 Try.func87 (by kernel_rfl) (by kernel_rfl) L87 (vc87.mpr (by simp only [zz, zy, aD]; exact (fun x hp hx => ⟨hp, Sp.Ax.findI_any _ _⟩)))
theorem value_vc {e : List Sp.LEv} {n : Int} : (n < 0 -> (0 : Int) = Sp.Ax.value e n) /\ (0 <= n -> (Sp.Ax.ev e n).2.1.1 = 3 -> IntKind.wrap .i64 ((Sp.Ax.ev e n).2.2.1 + (Sp.Ax.ev e n).2.1.2.2.1) = Sp.Ax.value e n) /\
  (0 <= n -> ¬ (Sp.Ax.ev e n).2.1.1 = 3 -> (Sp.Ax.ev e n).2.1.2.2.1 = Sp.Ax.value e n) := by
 refine ⟨fun h => ?_, fun h h1 => ?_, fun h h1 => ?_⟩
 ·unfold Sp.Ax.value; rw [if_pos h]
 ·unfold Sp.Ax.value; rw [if_neg (by omega), if_pos h1]
 ·unfold Sp.Ax.value; rw [if_neg (by omega), if_neg h1]
theorem okW {n : Nat} {fns : List (FuncId × aU)} {wr : List Nat} (h : ∀ f s, Lf.look fns f = some s -> FOk Try.prog f s) : aJ Try.prog { mkC n fns with wrp := wr } := ctx_okQ 0 rfl rfl h ptrs_nil (fun _ h => by cases h) (fun _ h => by cases h) ins_nil (fun _ h => by cases h)
theorem ok59 : FOk Try.prog 59 S59 := by
 refine FOk.intro (okW fns_nil) (stpQ_ok (okW fns_nil)) Try.call59 Try.func59 (by kernel_rfl) (by kernel_rfl) L59 (vc59.mpr ?_)
 simp only [zz, zy, aD]
 intro x hp hx
 have hv := value_vc (e := x.1.1) (n := x.2.1)
 exact ⟨fun h => hv.1 h, fun h => ⟨⟨h, hp⟩, fun h1 => ⟨⟨h, hp⟩, hv.2.1 h h1⟩, fun h1 => ⟨⟨h, hp⟩, hv.2.2 h h1⟩⟩⟩
theorem ok61 : FOk Try.prog 61 S61 :=
 have hC : aJ Try.prog C61 := okA (aG ok58 fns_nil)
 FOk.intro hC (stpQ_ok hC) Try.call61 Try.func61 (by kernel_rfl) (by kernel_rfl) L61 (vc61.mpr (by simp only [zz, zy, aD]; first | done | exact (fun x hx => rfl)))
theorem ok62 : FOk Try.prog 62 S62 := FOk.intro (okA fns_nil) (stpQ_ok (okA fns_nil)) Try.call62 Try.func62 (by kernel_rfl) (by kernel_rfl) L62 (vc62.mpr (by simp only [zz, zy, aD]; first | done | exact (fun x hx => rfl)))
end Go.User.Ax
namespace Sp.Ax
open Relation
theorem getD_lt {α : Type} {l : List α} {i : Nat} {d : α} (h : i < l.length) : l.getD i d = l[i] := by rw [List.getD_eq_getElem?_getD, List.getElem?_eq_getElem h]; rfl
theorem evs_append : ∀ (c : Int) (p q : List (List LOp)), evs c (p ++ q) = evs c p ++ evs (c + p.length) q
 | c, [], q => by simp [evs]
 | c, l :: p, q => by
  simp only [List.cons_append, evs, evs_append (c + 1) p q, List.append_assoc, List.length_cons]
  congr 3; omega
theorem evs_succ {p : List (List LOp)} {i : Nat} (h : i < p.length) : evs 0 (p.take (i + 1)) = evs 0 (p.take i) ++ (p.getD i []).map (mkEv (i : Int)) := by
 rw [List.take_succ_eq_append_getElem h, evs_append, getD_lt h]
 simp only [evs, List.append_nil, List.length_take]
 congr 2; congr 1; omega
theorem evs_le {p : List (List LOp)} {i k : Nat} (h : i < p.length) (hk : k <= (p.getD i []).length) : (evs 0 (p.take i) ++ ((p.getD i []).take k).map (mkEv (i : Int))).length <= (evs 0 p).length := by
 have h1 : evs 0 p = evs 0 (p.take (i + 1)) ++ evs (0 + ((p.take (i + 1)).length : Int)) (p.drop (i + 1)) := by rw [<- evs_append, List.take_append_drop]
 rw [h1, evs_succ h]
 simp only [List.length_append, List.length_map, List.length_take]
 omega
theorem map_take_succ {l : List LOp} {k : Nat} (c : Int) (h : k < l.length) : (l.take (k + 1)).map (mkEv c) = (l.take k).map (mkEv c) ++ [mkEv c (l.getD k (0, 0, 0, ()))] := by
 rw [List.take_succ_eq_append_getElem h, List.map_append, getD_lt h]; rfl
theorem mat_ext {f g : Nat -> Nat -> Bool} (h : ∀ a b, a < 6 -> b < 6 -> f a b = g a b) : mat f = mat g := by
 unfold mat
 refine List.map_congr_left fun a ha => List.map_congr_left fun b hb => ?_
 exact h a b (List.mem_range.1 ha) (List.mem_range.1 hb)
theorem mat_const : List.replicate 6 (List.replicate 6 false) = mat fun _ _ => false := rfl
theorem mat_row {f : Nat -> Nat -> Bool} {a : Nat} (h : a < 6) {d : List Bool} : (mat f).getD a d = (List.range 6).map (f a) := by
 have : a < (mat f).length := by simp [mat]; exact h
 rw [getD_lt this]; simp [mat]
theorem get2_mat {f : Nat -> Nat -> Bool} {a b : Nat} (ha : a < 6) (hb : b < 6) : cE (mat f) a b = f a b := by
 unfold cE
 rw [mat_row ha, getD_lt (by simp; exact hb)]; simp
theorem mat_set {f : Nat -> Nat -> Bool} {a b : Nat} (ha : a < 6) (hb : b < 6) {d : List Bool} {v : Bool} :
  (mat f).set a (((mat f).getD a d).set b v) = mat fun x y => if x = a /\ y = b then v else f x y := by
 rw [mat_row ha]
 apply List.ext_getElem
 ·simp [mat]
 ·intro i h1 h2
  simp only [List.getElem_set, mat, List.getElem_map, List.getElem_range];by_cases hi : a = i
  ·subst hi
   rw [if_pos rfl]
   apply List.ext_getElem
   ·simp
   ·intro j h3 h4
    simp only [List.getElem_set, List.getElem_map, List.getElem_range, true_and];by_cases hj : b = j
    ·subst hj; simp
    ·rw [if_neg hj, if_neg (fun h => hj h.symm)]
  ·rw [if_neg hi]
   refine List.map_congr_left fun y hy => ?_
   rw [if_neg (fun h => hi h.1.symm)]
end Sp.Ax
namespace Go.User.Ax
open Go.Lf Go.Proofs
theorem maxNew_eq : aN = 2147483648 := rfl
theorem ok55 : FOk Try.prog 55 S55 := by
 refine FOk.intro (okA fns_nil) (stpQ_ok (okA fns_nil)) Try.call55 Try.func55 (by kernel_rfl) (by kernel_rfl) L55 (vc55.mpr ?_)
 simp only [zz, zy, aD]
 intro x hp hx
 refine ⟨⟨(0, []), ⟨Nat.zero_le _, rfl⟩, rfl, rfl⟩, ?_⟩
 intro i hi hk
 refine ⟨fun hlt => ⟨inN_of hlt, ⟨(0, i.2), ⟨Nat.zero_le _, by simp [hi.2]⟩, rfl, rfl⟩, ?_⟩, fun hge => ?_⟩
 ·intro k hk1 hk2
  have hi' : i.1 < x.1.1.length := by omega
  have hl : (x.1.1.getD i.1 []).length <= lim := by
   rw [Sp.Ax.getD_lt hi']; exact (hx.2 _ (List.getElem_mem hi')).1
  refine ⟨fun hlt2 => ⟨inN_of hlt2, ?_, inK_succ hlt2 hl, (k.1 + 1, _), ⟨by show k.1 + 1 <= _; omega, ?_⟩, by show _ - (k.1 + 1) < _; omega, by show (_ : Int) = ((k.1 + 1 : Nat) : Int); omega, rfl⟩,
   fun hge2 => ⟨inK_succ hlt hx.1, (i.1 + 1, k.2), ⟨by show i.1 + 1 <= _; omega, ?_⟩, by show _ - (i.1 + 1) < _; omega, by show (_ : Int) = ((i.1 + 1 : Nat) : Int); omega, rfl⟩⟩
  ·have := Sp.Ax.evs_le hi' hk1.1
   rw [<- hk1.2] at this;rw [maxNew_eq]; omega
  ·show k.2 ++ _ = Sp.Ax.evs 0 (List.take i.1 x.1.1) ++ List.map (Sp.Ax.mkEv (i.1 : Int)) (List.take (k.1 + 1) (x.1.1.getD i.1 []))
   rw [hk1.2, Sp.Ax.map_take_succ _ (by omega), List.append_assoc]; rfl
  ·show k.2 = Sp.Ax.evs 0 (List.take (i.1 + 1) x.1.1)
   rw [hk1.2, Sp.Ax.evs_succ hi', List.take_of_length_le (l := x.1.1.getD i.1 []) (by omega)]
 ·rw [hi.2, Sp.Ax.take_all hi.1 hge]
theorem ok66 : FOk Try.prog 66 S66 := by
 have hC : aJ Try.prog C66 := okA (aG ok90 fns_nil)
 refine FOk.intro hC (stpQ_ok hC) Try.call66 Try.func66 (by kernel_rfl) (by kernel_rfl) L66 (vc66.mpr ?_)
 simp only [zz, zy, aD]
 intro x hp hx
 exact ⟨⟨hp.1, hp.2.2⟩, hp.2.1, rfl⟩
theorem fold_succ {α : Type} (f : α -> Nat -> α) (a : α) (n : Nat) : (List.range (n + 1)).foldl f a = f ((List.range n).foldl f a) n := by
 rw [List.range_succ, List.foldl_append]; rfl
theorem rowA_zero (k : Nat) (r : Sp.Rel) : Sp.Ax.rowA k r 0 = r := rfl
theorem rowB_zero (k a : Nat) (r : Sp.Rel) : Sp.Ax.rowB k a r 0 = r := rfl
theorem rowB_succ (k a : Nat) (r : Sp.Rel) (n : Nat) : Sp.Ax.rowB k a r (n + 1) = Sp.Ax.stepB k a (Sp.Ax.rowB k a r n) n := fold_succ _ _ _
theorem rowA_succ (k : Nat) (r : Sp.Rel) (n : Nat) : Sp.Ax.rowA k r (n + 1) = Sp.Ax.rowB k n (Sp.Ax.rowA k r n) 6 := fold_succ _ _ _
theorem closeN_succ (r : Sp.Rel) (n : Nat) : Sp.Ax.closeN r (n + 1) = Sp.Ax.rowA n (Sp.Ax.closeN r n) 6 := fold_succ _ _ _
theorem stepB_eq (k a : Nat) (r : Sp.Rel) (b : Nat) : List.set r a (List.set (List.getD r a (List.replicate 6 false)) b (List.getD (List.getD r a (List.replicate 6 false)) b false ||
  List.getD (List.getD r a (List.replicate 6 false)) k false && List.getD (List.getD r k (List.replicate 6 false)) b false)) = Sp.Ax.stepB k a r b := rfl
theorem pk64 : POk Try.prog 64 S64 := by
 have hC : ∀ q, aJ Try.prog (C64 q) := fun q => ctx_okQ 0 rfl rfl fns_nil ptrs_nil (fun _ h => by cases h) (fun _ h => by cases h) ins_nil (fun _ h => by cases h)
 refine POk.intro hC (fun q => stpQ_ok (hC q)) Try.call64 Try.func64 (fun q => rfl) (by kernel_rfl) L64 (vc64.mpr ?_)
 simp only [zz, zy, aD]
 intro x hx
 have h6 : ∀ {n : Nat}, (n : Int) < 6 -> inN (n : Int) 6 := fun h => ⟨by omega, by omega⟩
 have hk : ∀ {n : Nat}, (n : Int) < 6 -> inK .i64 ((n : Int) + 1) := fun h => inK_of (by omega) (by omega)
 refine ⟨⟨(0, x), ⟨Nat.zero_le _, rfl⟩, rfl, rfl⟩, ?_⟩
 intro i hi _
 refine ⟨fun hlt => ⟨⟨(0, i.2), ⟨Nat.zero_le _, by rw [rowA_zero]; exact hi.2⟩, rfl, rfl⟩, ?_⟩, fun hge => ?_⟩
 ·intro a ha _
  refine ⟨fun hlt2 => ⟨⟨(0, a.2), ⟨Nat.zero_le _, by rw [rowB_zero]; exact ha.2⟩, rfl, rfl⟩, ?_⟩, fun hge => ⟨hk hlt, (i.1 + 1, a.2), ⟨by show i.1 + 1 <= _; omega, ?_⟩, by show _ - (i.1 + 1) < _; omega, by show (_ : Int) = ((i.1 + 1 : Nat) : Int); omega, rfl⟩⟩
  ·intro b hb _
   refine ⟨fun hlt3 => ⟨⟨h6 hlt2, h6 hlt3, fun _ => h6 hlt2, fun _ => h6 hlt, fun _ => h6 hlt, fun _ => h6 hlt3, h6 hlt2, h6 hlt3⟩, hk hlt3, (b.1 + 1, _), ⟨by show b.1 + 1 <= _; omega, ?_⟩, by show _ - (b.1 + 1) < _; omega, by show (_ : Int) = ((b.1 + 1 : Nat) : Int); omega, rfl⟩,
    fun hge => ⟨hk hlt2, (a.1 + 1, b.2), ⟨by show a.1 + 1 <= _; omega, ?_⟩, by show _ - (a.1 + 1) < _; omega, by show (_ : Int) = ((a.1 + 1 : Nat) : Int); omega, rfl⟩⟩
   ·rw [rowB_succ, <- hb.2]; exact stepB_eq _ _ _ _
   ·rw [rowA_succ, hb.2, show b.1 = 6 from by omega]
  ·rw [closeN_succ, ha.2, show a.1 = 6 from by omega]
 ·rw [hi.2, show i.1 = 6 from by omega]; rfl
theorem ok65 : FOk Try.prog 65 S65 := by
 refine FOk.intro (okA fns_nil) (stpQ_ok (okA fns_nil)) Try.call65 Try.func65 (by kernel_rfl) (by kernel_rfl) L65 (vc65.mpr ?_)
 simp only [zz, zy, aD]
 intro x hx
 refine ⟨⟨0, ⟨Nat.zero_le _, fun a h => by omega⟩, rfl⟩, ?_⟩
 intro i hi _
 refine ⟨fun hlt => ⟨⟨by omega, by omega⟩, fun h => ?_, fun h => ⟨inK_of (by omega) (by omega), i + 1, ⟨by omega, ?_⟩, by omega, by omega⟩⟩, fun hge => ?_⟩
 ·symm
  unfold Sp.Ax.round;rw [List.any_eq_true];exact ⟨i, List.mem_range.2 (by omega), h⟩
 ·intro a ha
  rcases Nat.lt_or_ge a i with h' | h'
  ·exact hi.2 a h'
  ·rw [show a = i from by omega]; exact h
 ·symm
  unfold Sp.Ax.round;rw [List.any_eq_false];intro a ha;rw [hi.2 a (by have := List.mem_range.1 ha; omega)]
  simp
theorem ok56 : FOk Try.prog 56 S56 := by
 have hC : aJ Try.prog C56 := okA (aG ok55 (aG ok87 (aG ok88 fns_nil)))
 refine FOk.intro hC (stpQ_ok hC) Try.call56 Try.func56 (by kernel_rfl) (by kernel_rfl) L56 (vc56.mpr ?_)
 simp only [zz, zy, aD]
 intro x hp hx
 refine ⟨hp, ?_⟩
 unfold Sp.Ax.valid
 have h1 : ∀ (e : List Sp.LEv), (!e.any fun x => !Sp.Ax.usual x.2.1) = e.all fun x => Sp.Ax.usual x.2.1 := by
  intro e; simp [List.all_eq_not_any_not]
 have h2 : ∀ (n m : Nat), decide ((n : Int) <= (m : Int)) = decide (n <= m) := fun n m => by simp
 rw [h1]
 simp only [decide_eq_decide.2 (show ((1 : Int) <= (x.1.1.length : Int)) ↔ 1 <= x.1.1.length from by omega), decide_eq_decide.2 (show ((x.1.1.length : Int) <= 4) ↔ x.1.1.length <= 4 from by omega),
  decide_eq_decide.2 (show ((1 : Int) <= ((Sp.Ax.evs 0 x.1.1).length : Int)) ↔ 1 <= (Sp.Ax.evs 0 x.1.1).length from by omega), decide_eq_decide.2 (show (((Sp.Ax.evs 0 x.1.1).length : Int) <= 6) ↔ (Sp.Ax.evs 0 x.1.1).length <= 6 from by omega)]
end Go.User.Ax
namespace Sp.Ax
open Relation
theorem oA_zero (e : List LEv) (a b : Nat) : false = oA e 0 a b := by simp [oA]
theorem oAB (e : List LEv) (i a b : Nat) : oA e i a b = oB e i (i + 1) a b := by
 rw [Bool.eq_iff_iff]
 simp only [oA, oB, ordF, List.length_nil, List.range_zero, List.any_nil, Bool.or_false, Bool.and_eq_true, Bool.or_eq_true, decide_eq_true_eq]
 constructor
 ·rintro ⟨h, h2⟩; exact ⟨.inl h, h2⟩
 ·rintro ⟨h | ⟨h, h'⟩, h2⟩
  ·exact ⟨h, h2⟩
  ·have := h2.1.1; omega
theorem oB_step {e : List LEv} {i k : Nat} (hk : i < k) (hk2 : k < e.length) (a b : Nat) : (if a = i /\ b = k then decide ((ev e i).1 = (ev e k).1) else oB e i k a b) = oB e i (k + 1) a b := by
 rw [Bool.eq_iff_iff]
 simp only [oB, ordF, List.length_nil, List.range_zero, List.any_nil, Bool.or_false]
 split
 ·rename_i h
  obtain ⟨rfl, rfl⟩ := h;simp only [Bool.and_eq_true, Bool.or_eq_true, decide_eq_true_eq];constructor
  ·intro h; exact ⟨.inr ⟨trivial, by omega⟩, ⟨hk, hk2⟩, h⟩
  ·rintro ⟨_, _, h⟩; exact h
 ·rename_i h
  simp only [Bool.and_eq_true, Bool.or_eq_true, decide_eq_true_eq];constructor
  ·rintro ⟨h1 | ⟨h1, h2⟩, h3⟩
   ·exact ⟨.inl h1, h3⟩
   ·exact ⟨.inr ⟨h1, by omega⟩, h3⟩
  ·rintro ⟨h1 | ⟨h1, h2⟩, h3⟩
   ·exact ⟨.inl h1, h3⟩
   ·refine ⟨.inr ⟨h1, ?_⟩, h3⟩
    rcases Nat.lt_or_ge b k with h4 | h4
    ·exact h4
    ·exact absurd ⟨h1, by omega⟩ h
theorem oB_end {e : List LEv} {i k : Nat} (hk : e.length <= k) (a b : Nat) : oB e i k a b = oA e (i + 1) a b := by
 rw [Bool.eq_iff_iff]
 simp only [oA, oB, ordF, List.length_nil, List.range_zero, List.any_nil, Bool.or_false, Bool.and_eq_true, Bool.or_eq_true, decide_eq_true_eq]
 constructor
 ·rintro ⟨h | ⟨h, _⟩, h2⟩
  ·exact ⟨by omega, h2⟩
  ·exact ⟨by omega, h2⟩
 ·rintro ⟨h, h2⟩
  rcases Nat.lt_or_ge a i with h3 | h3
  ·exact ⟨.inl h3, h2⟩
  ·exact ⟨.inr ⟨by omega, by have := h2.1.2; omega⟩, h2⟩
theorem oA_end {e : List LEv} {fo : List Int} {i : Nat} (hk : e.length <= i) (a b : Nat) : oA e i a b = oC e fo 0 a b := by
 rw [Bool.eq_iff_iff]
 simp only [oA, oC, ordF, List.length_nil, List.range_zero, List.any_nil, Bool.or_false, Bool.and_eq_true, Bool.or_eq_true, decide_eq_true_eq]
 constructor
 ·rintro ⟨h, h2⟩; exact h2
 ·intro h; exact ⟨by have := h.1.2; have := h.1.1; omega, h⟩
theorem oCD (e : List LEv) (fo : List Int) (i a b : Nat) : oC e fo i a b = oD e fo i 0 a b := by simp [oD]
theorem oD_step {e : List LEv} {fo : List Int} {i k : Nat} (ai bk : Nat) (h1 : fo.getD i 0 = (ai : Int)) (h2 : fo.getD (i + 1 + k) 0 = (bk : Int)) (a b : Nat) :
  (if a = ai /\ b = bk then true else oD e fo i k a b) = oD e fo i (k + 1) a b := by
 rw [Bool.eq_iff_iff]
 simp only [oD, fo2, h1]
 split
 ·rename_i h
  obtain ⟨rfl, rfl⟩ := h;simp only [Bool.or_eq_true, List.any_eq_true, List.mem_range, Bool.and_eq_true, decide_eq_true_eq, true_iff];exact .inr ⟨k, by omega, trivial, h2⟩
 ·rename_i h
  simp only [Bool.or_eq_true, List.any_eq_true, List.mem_range, Bool.and_eq_true, decide_eq_true_eq];constructor
  ·rintro (h3 | ⟨q, h3, h4⟩)
   ·exact .inl h3
   ·exact .inr ⟨q, by omega, h4⟩
  ·rintro (h3 | ⟨q, h3, h4, h5⟩)
   ·exact .inl h3
   ·refine .inr ⟨q, ?_, h4, h5⟩
    rcases Nat.lt_or_ge q k with h6 | h6
    ·exact h6
    ·have : q = k := by omega
     subst this;rw [h2] at h5;exact absurd ⟨by omega, by omega⟩ h
theorem oD_end {e : List LEv} {fo : List Int} {i k : Nat} (hk : fo.length = i + 1 + k) (a b : Nat) : oD e fo i k a b = oC e fo (i + 1) a b := by
 rw [Bool.eq_iff_iff]
 simp only [oD, oC, Bool.or_eq_true, List.any_eq_true, List.mem_range, Bool.and_eq_true, decide_eq_true_eq]
 constructor
 ·rintro ((h | ⟨p, h1, h2⟩) | ⟨q, h1, h2⟩)
  ·exact .inl h
  ·exact .inr ⟨p, by omega, h2⟩
  ·exact .inr ⟨i, by omega, i + 1 + q, by omega, by omega, h2⟩
 ·rintro (h | ⟨p, h1, q, h2, h3, h4⟩)
  ·exact .inl (.inl h)
  ·rcases Nat.lt_or_ge p i with h5 | h5
   ·exact .inl (.inr ⟨p, h5, q, h2, h3, h4⟩)
   ·have : p = i := by omega
    subst this;exact .inr ⟨q - (p + 1), by omega, by rw [show p + 1 + (q - (p + 1)) = q from by omega]; exact h4⟩
theorem oC_end {e : List LEv} {fo : List Int} {i : Nat} (hk : i = fo.length) (a b : Nat) : oC e fo i a b = ordF e fo a b := by
 subst hk
 rw [Bool.eq_iff_iff]
 simp only [oC, ordF, fo2, List.length_nil, List.range_zero, List.any_nil, Bool.or_false, Bool.or_eq_true, List.any_eq_true, List.mem_range, Bool.and_eq_true, decide_eq_true_eq]
 constructor
 ·rintro (h | ⟨p, h1, q, h2, h3, h4, h5⟩)
  ·exact .inl h
  ·exact .inr ⟨q, h2, p, h3, h4, h5⟩
 ·rintro (h | ⟨q, h1, p, h2, h3, h4⟩)
  ·exact .inl h
  ·exact .inr ⟨p, by omega, q, h1, h2, h3, h4⟩
theorem isList_false {l : List Int} {e : List LEv} {is : LOp -> Bool} (h : ¬ ((l.Nodup /\ ∀ n ∈ l, 0 <= n /\ n < e.length /\ is (ev e n).2.1 = true) /\ ∀ n < e.length, is (ev e n).2.1 = true -> (n : Int) ∈ l)) : false = isList l e is := by
 unfold isList
 cases h1 : decide (l.Nodup /\ ∀ n ∈ l, 0 <= n /\ n < e.length /\ is (ev e n).2.1 = true)
 ·rfl
 ·cases h2 : decide (∀ n < e.length, is (ev e n).2.1 = true -> (n : Int) ∈ l)
  ·rfl
  ·exact absurd ⟨of_decide_eq_true h1, of_decide_eq_true h2⟩ h
theorem isList_true {l : List Int} {e : List LEv} {is : LOp -> Bool} (h1 : l.Nodup) (h2 : ∀ n ∈ l, 0 <= n /\ n < e.length /\ is (ev e n).2.1 = true) (h3 : ∀ n < e.length, is (ev e n).2.1 = true -> (n : Int) ∈ l) : true = isList l e is := by
 unfold isList
 rw [decide_eq_true ⟨h1, h2⟩, decide_eq_true h3]; rfl
end Sp.Ax
namespace Go.User.Ax
open Go.Lf Go.Proofs
theorem ok63 : FOk Try.prog 63 S63 := by
 refine FOk.intro (okA fns_nil) (stpQ_ok (okA fns_nil)) Try.call63 Try.func63 (by kernel_rfl) (by kernel_rfl) L63 (vc63.mpr ?_)
 simp only [zz, zy, aD]
 intro x hp hx
 have h6 : ∀ {n : Nat}, (n : Int) < (x.1.1.length : Int) -> inN (n : Int) 6 := fun h => ⟨by omega, by have := hp.1; omega⟩
 refine ⟨⟨0, Nat.zero_le _, rfl, ?_⟩, ?_⟩
 ·rw [Sp.Ax.mat_const]; exact Sp.Ax.mat_ext fun a b _ _ => Sp.Ax.oA_zero _ _ _
 intro i hi _
 refine ⟨fun hlt => ⟨inK_succ hlt hx.1.1, ⟨i + 1, ⟨by omega, by omega⟩, rfl, Sp.Ax.mat_ext fun a b _ _ => Sp.Ax.oAB _ _ _ _⟩, ?_⟩, fun hge => ⟨⟨0, Nat.zero_le _, rfl, Sp.Ax.mat_ext fun a b _ _ => Sp.Ax.oA_end (by omega) _ _⟩, ?_⟩⟩
 ·intro k hk _
  refine ⟨fun hlt2 => ⟨⟨inN_of hlt, inN_of hlt2, h6 hlt, h6 hlt2⟩, inK_succ hlt2 hx.1.1, k + 1, ⟨by omega, by omega⟩, by omega, rfl, ?_⟩, fun hge2 => ⟨inK_succ hlt hx.1.1, i + 1, by omega, by omega, rfl, Sp.Ax.mat_ext fun a b _ _ => Sp.Ax.oB_end (by omega) _ _⟩⟩
  rw [Sp.Ax.mat_set (by have := (h6 hlt).2; omega) (by have := (h6 hlt2).2; omega)];exact Sp.Ax.mat_ext fun a b _ _ => Sp.Ax.oB_step hk.1 (by omega) a b
 ·intro j hj _
  refine ⟨fun hlt => ?_, fun hge => ?_⟩
  ·have hjl : j < x.1.2.2.2.1.length := by omega
   have hw : win ((j : Int) + 1) (x.1.2.2.2.1.length : Int) x.1.2.2.2.1 = x.1.2.2.2.1.drop (j + 1) := by
    unfold win;rw [List.take_of_length_le (by omega)]
    congr 1
   rw [hw];have hlen : (x.1.2.2.2.1.drop (j + 1)).length = x.1.2.2.2.1.length - (j + 1) := List.length_drop;refine ⟨inN_of hlt, ⟨inK_succ hlt hx.2.2.2.1, by omega, by omega, by omega⟩, ⟨0, by omega, rfl, Sp.Ax.mat_ext fun a b _ _ => Sp.Ax.oCD _ _ _ _ _⟩, ?_⟩
   intro k hk _;refine ⟨fun hlt2 => ?_, fun hge2 => ⟨inK_succ hlt hx.2.2.2.1, j + 1, by omega, by omega, rfl, Sp.Ax.mat_ext fun a b _ _ => Sp.Ax.oD_end (by omega) _ _⟩⟩
   have hjk : j + 1 + k < x.1.2.2.2.1.length := by omega
   have e1 : (x.1.2.2.2.1.drop (j + 1)).getD k 0 = x.1.2.2.2.1.getD (j + 1 + k) 0 := by
    rw [Sp.Ax.getD_lt (by omega), Sp.Ax.getD_lt hjk, List.getElem_drop]
   rw [e1];have n1 : inN (x.1.2.2.2.1.getD j 0) 6 := by rw [Sp.Ax.getD_lt hjl]; exact hp.2 _ (List.getElem_mem hjl)
   have n2 : inN (x.1.2.2.2.1.getD (j + 1 + k) 0) 6 := by rw [Sp.Ax.getD_lt hjk]; exact hp.2 _ (List.getElem_mem hjk)
   refine ⟨inN_of hlt2, ⟨n1, n2⟩, inK_succ hlt2 (by omega), k + 1, by omega, by omega, rfl, ?_⟩
   rw [Sp.Ax.mat_set (by have := n1.2; omega) (by have := n2.2; omega)];exact Sp.Ax.mat_ext fun a b _ _ => Sp.Ax.oD_step _ _ (by have := n1.1; omega) (by have := n2.1; omega) a b
  ·exact Sp.Ax.mat_ext fun a b _ _ => Sp.Ax.oC_end (by omega) a b
theorem ok60 : FOk Try.prog 60 S60 := by
 refine FOk.intro (okA fns_nil) (stpQ_ok (okA fns_nil)) Try.call60 Try.func60 (by kernel_rfl) (by kernel_rfl) L60 (vc60.mpr ?_)
 simp only [zz, zy, aD]
 intro x hp hx
 refine ⟨⟨by show (0 : Int) <= _; omega, by omega, by rw [maxNew_eq]; have := hp.1; omega⟩, ⟨(0, List.replicate x.2.1.length false), ⟨Nat.zero_le _, by simp, by simp, by simp, ?_⟩, rfl, rfl⟩, ?_⟩
 ·intro n hn
  show (List.replicate x.2.1.length false).getD n false = true ↔ (n : Int) ∈ List.take 0 x.1
  rw [Sp.Ax.getD_lt (by simp; exact hn)]; simp
 intro i hi _
 obtain ⟨h1, h2, h3, h4, h5⟩ := hi
 refine ⟨fun hlt => ?_, fun hge => ?_⟩
 ·have hil : i.1 < x.1.length := by omega
  have htk : List.take (i.1 + 1) x.1 = List.take i.1 x.1 ++ [x.1.getD i.1 0] := by rw [List.take_succ_eq_append_getElem hil, Sp.Ax.getD_lt hil]
  have hmem : x.1.getD i.1 0 ∈ x.1 := by rw [Sp.Ax.getD_lt hil]; exact List.getElem_mem hil
  have hev : ∀ (n : Int), x.2.1.getD n.toNat (0, (0, 0, 0, ()), 0, ()) = Sp.Ax.ev x.2.1 n := fun n => rfl
  have hnd : x.1.Nodup -> x.1.getD i.1 0 ∉ List.take i.1 x.1 := by
   intro hn hm;rw [Sp.Ax.getD_lt hil] at hm;obtain ⟨j, hj, he⟩ := List.mem_take_iff_getElem.1 hm;exact (List.pairwise_iff_getElem.1 hn) j i.1 (by omega) hil (by omega) he
  generalize hv : x.1.getD i.1 0 = v at *
  simp only [hev];have hin : ∀ {b : Bool}, (!(decide (v < 0) || decide ((x.2.1.length : Int) <= v) || b)) = true -> inN v x.2.1.length := by
   intro b h;simp only [Bool.not_eq_true', Bool.or_eq_false_iff, decide_eq_false_iff_not] at h;exact ⟨by omega, by omega⟩
  refine ⟨inN_of hlt, ⟨fun h => ?_, fun h => ?_, fun h => hp.2 _⟩, fun h => ?_, fun h => ?_⟩
  ·rw [h2]
   exact ⟨h.1, h.2⟩
  ·exact ⟨h.1.1, h.1.2⟩
  ·refine Sp.Ax.isList_false ?_
   rintro ⟨⟨g1, g2⟩, g3⟩
   obtain ⟨k1, k2, k3⟩ := g2 v hmem;simp only [Bool.or_eq_true, decide_eq_true_eq, Bool.not_eq_true'] at h;rcases h with ((h | h) | h) | h
   ·omega
   ·omega
   ·have := (h5 v.toNat (by omega)).1 h
    rw [show ((v.toNat : Nat) : Int) = v from by omega] at this
    exact hnd g1 this
   ·rw [k3] at h; cases h
  ·obtain ⟨⟨⟨g1, g2⟩, g3⟩, g4⟩ := h
   have hvin : inN v x.2.1.length := ⟨by omega, by omega⟩
   have hnv : v ∉ List.take i.1 x.1 := by
    intro hm;have := (h5 v.toNat (by omega)).2 (by rw [show ((v.toNat : Nat) : Int) = v from by omega]; exact hm)
    rw [g3] at this; cases this
   refine ⟨by rw [h2]; exact hvin, inK_succ hlt hx.1.1, (i.1 + 1, i.2.set v.toNat true), ⟨by show i.1 + 1 <= _; omega, by show (i.2.set _ _).length = _; simp [h2], ?_, ?_, ?_⟩, by show _ - (i.1 + 1) < _; omega, rfl, rfl⟩
   ·show (List.take (i.1 + 1) x.1).Nodup
    rw [htk, List.nodup_append];refine ⟨h3, by simp, ?_⟩
    intro a ha b hb;simp only [List.mem_singleton] at hb;subst hb;rintro rfl; exact hnv ha
   ·intro n hn
    have hn : n ∈ List.take (i.1 + 1) x.1 := hn
    rw [htk] at hn;rcases List.mem_append.1 hn with hn | hn
    ·exact h4 n hn
    ·simp only [List.mem_singleton] at hn
     subst hn;exact ⟨by omega, by omega, g4⟩
   ·intro n hn
    show (i.2.set v.toNat true).getD n false = true ↔ (n : Int) ∈ List.take (i.1 + 1) x.1
    rw [htk, List.mem_append, <- h5 n hn, Sp.Ax.getD_lt (by simp; omega), Sp.Ax.getD_lt (by omega), List.getElem_set];simp only [List.mem_singleton];by_cases hc : v.toNat = n
    ·rw [if_pos hc]
     constructor
     ·intro _; right; omega
     ·intro _; rfl
    ·rw [if_neg hc]
     constructor
     ·exact .inl
     ·rintro (h | h)
      ·exact h
      ·omega
 ·have htk := Sp.Ax.take_all h1 hge
  rw [htk] at h3 h4 h5;refine ⟨⟨0, ⟨Nat.zero_le _, fun n h => by omega⟩, rfl⟩, ?_⟩
  intro k hk _;refine ⟨fun hlt => ⟨⟨inN_of hlt, hp.2 _, fun _ => by rw [h2]; exact inN_of hlt⟩, fun h => ?_, fun h => ⟨inK_succ hlt hx.2.1, k + 1, ⟨by omega, ?_⟩, by omega, rfl⟩⟩, fun hge => ?_⟩
  ·refine Sp.Ax.isList_false ?_
   rintro ⟨_, g3⟩
   have := (h5 k (by omega)).2 (g3 k (by omega) h.1)
   rw [h.2] at this; cases this
  ·intro n hn hf
   rcases Nat.lt_or_ge n k with hc | hc
   ·exact hk.2 n hc hf
   ·have : n = k := by omega
    subst this;refine (h5 n (by omega)).1 ?_;have hf' : x.2.2.1.fn ((x.2.1.getD n (0, (0, 0, 0, ()), 0, ())).2.1, ()) = true := hf;rw [hf'] at h
    simpa using h
  ·exact Sp.Ax.isList_true h3 h4 (fun n hn hf => hk.2 n (by omega) hf)
end Go.User.Ax
namespace Sp.Ax
open Relation
theorem idx_range (l : List Int) (n : Int) : -1 <= idx l n /\ idx l n < l.length := by
 unfold idx
 split
 ·rename_i h
  have := List.idxOf_lt_length_iff.2 h
  omega
 ·omega
theorem usual_X {o : LOp} (h : usual o = true) : 0 <= o.2.1 /\ o.2.1 < 3 := by
 unfold usual at h
 split at h
 ·simp only [Bool.and_eq_true, decide_eq_true_eq] at h; omega
 ·split at h
  ·simp only [Bool.and_eq_true, decide_eq_true_eq] at h; omega
  ·split at h
   ·simp only [Bool.and_eq_true, decide_eq_true_eq] at h; omega
   ·cases h
structure RightP (t : Lit) (g : Gr) : Prop where
 valid : valid t = true
 lenE : g.1.length = (evs 0 t.1).length
 lenF : g.2.1.length = (evs 0 t.1).length
 lenM : g.2.2.1.length = 3
 src : ∀ n < (evs 0 t.1).length, src (evs 0 t.1) g n
 got : ∀ n < g.1.length, got g n
 mo : ∀ p < 3, isList (g.2.2.1.getD p []) (evs 0 t.1) (fun o => bQ o && decide (o.2.1 = (p : Int))) = true
 fo : isList g.2.2.2.1 (evs 0 t.1) (fun o => decide (o.1 = 4)) = true
theorem right_iff (t : Lit) (g : Gr) : right t g = true ↔ RightP t g := by
 unfold right
 simp only [Bool.and_eq_true, decide_eq_true_eq, List.all_eq_true, List.mem_range]
 exact ⟨fun ⟨⟨⟨⟨⟨⟨⟨h1, h2⟩, h3⟩, h4⟩, h5⟩, h6⟩, h7⟩, h8⟩ => ⟨h1, h2, h3, h4, h5, h6, h7, h8⟩, fun ⟨h1, h2, h3, h4, h5, h6, h7, h8⟩ => ⟨⟨⟨⟨⟨⟨⟨h1, h2⟩, h3⟩, h4⟩, h5⟩, h6⟩, h7⟩, h8⟩⟩
theorem right_false {t : Lit} {g : Gr} (h : ¬ RightP t g) : false = right t g := by
 cases hr : right t g
 ·rfl
 ·exact absurd ((right_iff t g).1 hr) h
theorem valid_ev {t : Lit} (h : valid t = true) : (evs 0 t.1).length <= 6 /\ ∀ x ∈ evs 0 t.1, usual x.2.1 = true := by
 unfold valid at h
 simp only [Bool.and_eq_true, decide_eq_true_eq, List.all_eq_true] at h
 exact ⟨h.1.2, h.2⟩
theorem ev_mem {e : List LEv} {n : Nat} (h : n < e.length) : ev e (n : Int) ∈ e := by
 unfold ev
 rw [Int.toNat_natCast, getD_lt h]
 exact List.getElem_mem h
theorem RightP.ok {t : Lit} {g : Gr} (h : RightP t g) {n : Nat} (hn : n < g.1.length) : Go.User.Ax.okAt g n := by
 have hn' : n < (evs 0 t.1).length := h.lenE ▸ hn
 have hu := (valid_ev h.valid).2 _ (ev_mem hn')
 have hs := (h.src n hn').2.1
 rw [<- hs] at hu
 have := usual_X hu
 refine ⟨⟨by omega, by omega⟩, ⟨by omega, by have := h.lenF; omega⟩, by omega, by rw [h.lenM]; omega⟩
theorem isList_in {l : List Int} {e : List LEv} {is : LOp -> Bool} (h : isList l e is = true) {n : Int} (hn : n ∈ l) : 0 <= n /\ n < e.length /\ is (ev e n).2.1 = true := by
 unfold isList at h
 simp only [Bool.and_eq_true, decide_eq_true_eq] at h
 exact h.1.2 n hn
theorem flowN_zero (g : Gr) (a b : Nat) : ordF g.1 g.2.2.2.1 a b = flowN g 0 a b := by simp [flowN]
theorem flowN_step {g : Gr} {i ai : Nat} (h : g.2.1.getD i 0 = (ai : Int)) (a b : Nat) : (if a = ai /\ b = i then true else flowN g i a b) = flowN g (i + 1) a b := by
 rw [Bool.eq_iff_iff]
 simp only [flowN]
 split
 ·rename_i hab
  obtain ⟨rfl, rfl⟩ := hab;simp only [Bool.or_eq_true, Bool.and_eq_true, decide_eq_true_eq, true_iff];exact .inr ⟨by omega, h⟩
 ·rename_i hab
  simp only [Bool.or_eq_true, Bool.and_eq_true, decide_eq_true_eq];constructor
  ·rintro (h1 | ⟨h1, h2⟩)
   ·exact .inl h1
   ·exact .inr ⟨by omega, h2⟩
  ·rintro (h1 | ⟨h1, h2⟩)
   ·exact .inl h1
   ·refine .inr ⟨?_, h2⟩
    rcases Nat.lt_or_ge b i with h3 | h3
    ·exact h3
    ·have : b = i := by omega
     subst this;rw [h] at h2;exact absurd ⟨by omega, rfl⟩ hab
theorem flowN_skip {g : Gr} {i : Nat} (h : g.2.1.getD i 0 < 0) (a b : Nat) : flowN g i a b = flowN g (i + 1) a b := by
 rw [Bool.eq_iff_iff]
 simp only [flowN, Bool.or_eq_true, Bool.and_eq_true, decide_eq_true_eq]
 constructor
 ·rintro (h1 | ⟨h1, h2⟩)
  ·exact .inl h1
  ·exact .inr ⟨by omega, h2⟩
 ·rintro (h1 | ⟨h1, h2⟩)
  ·exact .inl h1
  ·refine .inr ⟨?_, h2⟩
   rcases Nat.lt_or_ge b i with h3 | h3
   ·exact h3
   ·have : b = i := by omega
    subst this;omega
theorem allowed_false {t : Lit} {g : Gr} (h : right t g = true -> round (flow g) = false -> ¬ ∀ a < g.1.length, okEv g a) : false = allowed t g := by
 unfold allowed
 cases h1 : right t g
 ·rfl
 ·cases h2 : round (flow g)
  ·cases h3 : decide (∀ a < g.1.length, okEv g a)
   ·rfl
   ·exact absurd (of_decide_eq_true h3) (h h1 h2)
  ·rfl
end Sp.Ax
namespace Go.User.Ax
open Go.Lf Go.Proofs
theorem ok67 : FOk Try.prog 67 S67 := by
 have hC : aJ Try.prog C67 := okA (aG ok66 (aG ok57 (aG ok58 fns_nil)))
 refine FOk.intro hC (stpQ_ok hC) Try.call67 Try.func67 (by kernel_rfl) (by kernel_rfl) L67 (vc67.mpr ?_)
 simp only [zz, zy, aD]
 intro x hp hx
 have key : ∀ low : Int, (low = if Sp.Ax.bQ (Sp.Ax.ev x.1.1 x.2.1).2.1 = true then (Sp.Ax.plc x.1 x.2.1).1 else (Sp.Ax.plc x.1 x.2.1).2.1) ->
   Sp.Ax.coh x.1 x.2.1 x.2.2.1 = (!(Sp.Ax.reads (Sp.Ax.ev x.1.1 x.2.2.1).2.1 && decide ((Sp.Ax.plc x.1 x.2.2.1).2.1 < low)) && !(Sp.Ax.bQ (Sp.Ax.ev x.1.1 x.2.2.1).2.1 && decide ((Sp.Ax.plc x.1 x.2.2.1).1 <= low))) := by
  intro low h; rw [h]; rfl
 refine ⟨hp, ⟨hp.1.1, hp.2.1⟩, fun h => ?_, fun h => ?_⟩
 ·have hl := key (Sp.Ax.plc x.1 x.2.1).1 (by rw [if_pos (show Sp.Ax.bQ (Sp.Ax.ev x.1.1 x.2.1).2.1 = true from h)])
  refine ⟨fun h1 => ?_, fun h1 => ⟨fun h2 => ?_, fun h2 => ?_⟩⟩
  ·rw [hl, show Sp.Ax.reads (Sp.Ax.ev x.1.1 x.2.2.1).2.1 = true from h1.1, decide_eq_true (show (Sp.Ax.plc x.1 x.2.2.1).2.1 < (Sp.Ax.plc x.1 x.2.1).1 from h1.2)]; rfl
  ·rw [hl, show Sp.Ax.bQ (Sp.Ax.ev x.1.1 x.2.2.1).2.1 = true from h2.1, decide_eq_true (show (Sp.Ax.plc x.1 x.2.2.1).1 <= (Sp.Ax.plc x.1 x.2.1).1 from h2.2)]; simp
  ·rw [hl, show (Sp.Ax.reads (Sp.Ax.ev x.1.1 x.2.2.1).2.1 && decide ((Sp.Ax.plc x.1 x.2.2.1).2.1 < (Sp.Ax.plc x.1 x.2.1).1)) = false from h1, show (Sp.Ax.bQ (Sp.Ax.ev x.1.1 x.2.2.1).2.1 && decide ((Sp.Ax.plc x.1 x.2.2.1).1 <= (Sp.Ax.plc x.1 x.2.1).1)) = false from h2]; rfl
 ·have hl := key (Sp.Ax.plc x.1 x.2.1).2.1 (by rw [if_neg (by rw [show Sp.Ax.bQ (Sp.Ax.ev x.1.1 x.2.1).2.1 = false from h]; simp)])
  refine ⟨fun h1 => ?_, fun h1 => ⟨fun h2 => ?_, fun h2 => ?_⟩⟩
  ·rw [hl, show Sp.Ax.reads (Sp.Ax.ev x.1.1 x.2.2.1).2.1 = true from h1.1, decide_eq_true (show (Sp.Ax.plc x.1 x.2.2.1).2.1 < (Sp.Ax.plc x.1 x.2.1).2.1 from h1.2)]; rfl
  ·rw [hl, show Sp.Ax.bQ (Sp.Ax.ev x.1.1 x.2.2.1).2.1 = true from h2.1, decide_eq_true (show (Sp.Ax.plc x.1 x.2.2.1).1 <= (Sp.Ax.plc x.1 x.2.1).2.1 from h2.2)]; simp
  ·rw [hl, show (Sp.Ax.reads (Sp.Ax.ev x.1.1 x.2.2.1).2.1 && decide ((Sp.Ax.plc x.1 x.2.2.1).2.1 < (Sp.Ax.plc x.1 x.2.1).2.1)) = false from h1, show (Sp.Ax.bQ (Sp.Ax.ev x.1.1 x.2.2.1).2.1 && decide ((Sp.Ax.plc x.1 x.2.2.1).1 <= (Sp.Ax.plc x.1 x.2.1).2.1)) = false from h2]; rfl
theorem ok32 : FOk Try.prog 32 S32 := by
 have hC : aJ Try.prog C32 := okA (aG ok55 (aG ok56 (aG ok57 (aG ok58 (aG ok59 (aG ok60 (aG ok61 (aG ok62 fns_nil))))))))
 refine FOk.intro hC (stpQ_ok hC) Try.call32 Try.func32 (by kernel_rfl) (by kernel_rfl) L32 (vc32.mpr ?_)
 simp only [zz, zy, aD]
 intro x hp hx
 refine ⟨hp, hp, fun h => ?_, fun h => ?_⟩
 ·refine Sp.Ax.right_false fun hr => ?_
  simp only [hr.valid, hr.lenE, hr.lenF, hr.lenM] at h;simp at h
 obtain ⟨⟨⟨hv, hE⟩, hF⟩, hM⟩ := h
 have hE : x.2.1.1.length = (Sp.Ax.evs 0 x.1.1).length := by omega
 have hF : x.2.1.2.1.length = (Sp.Ax.evs 0 x.1.1).length := by omega
 have hM : x.2.1.2.2.1.length = 3 := by omega
 have he6 := (Sp.Ax.valid_ev hv).1
 refine ⟨⟨0, ⟨Nat.zero_le _, fun n hn => by omega⟩, rfl⟩, ?_⟩
 intro i hi _
 refine ⟨fun hlt => ?_, fun hge => ?_⟩
 ·have hkk : inK .i64 ((i : Int) + 1) := inK_succ hlt (by rw [lim_eq]; omega)
  have h1 : inN (i : Int) (Sp.Ax.evs 0 x.1.1).length := inN_of hlt
  refine ⟨h1, by rw [hE]; exact h1, by rw [hF]; exact h1, fun h => ?_, fun h => ?_⟩
  ·refine Sp.Ax.right_false fun hr => ?_
   have hs := hr.src i (by omega)
   obtain ⟨s1, s2, s3, s4, s5⟩ := hs;have s1 : (x.2.1.1.getD i (0, (0, 0, 0, ()), 0, ())).1 = ((Sp.Ax.evs 0 x.1.1).getD i (0, (0, 0, 0, ()), 0, ())).1 := s1;have s2 : (x.2.1.1.getD i (0, (0, 0, 0, ()), 0, ())).2.1 = ((Sp.Ax.evs 0 x.1.1).getD i (0, (0, 0, 0, ()), 0, ())).2.1 := s2;rw [s1, s2] at h;simp only [decide_true, Bool.and_true, Bool.not_true, Bool.false_or, Bool.or_eq_true, decide_eq_true_eq] at h;omega
  ·obtain ⟨⟨⟨a1, a2, a3, a4⟩, b1⟩, b2⟩ := h
   refine ⟨⟨fun h => ⟨h.1, b2⟩, fun h => ⟨h.1, b2⟩⟩, fun h => ?_, fun h => ⟨hkk, i + 1, ⟨by omega, fun n hn => ?_⟩, by omega, rfl⟩⟩
   ·refine Sp.Ax.right_false fun hr => ?_
    obtain ⟨s1, s2, s3, s4, s5⟩ := hr.src i (by omega);obtain ⟨c1, c2, c3⟩ := s5 h.1;have h2 := h.2;have c1 : Sp.Ax.reads ((Sp.Ax.evs 0 x.1.1).getD i (0, (0, 0, 0, ()), 0, ())).2.1 = true := c1;have c2 : Sp.Ax.bQ ((Sp.Ax.evs 0 x.1.1).getD (x.2.1.2.1.getD i 0).toNat (0, (0, 0, 0, ()), 0, ())).2.1 = true := c2;have c3 : ((Sp.Ax.evs 0 x.1.1).getD (x.2.1.2.1.getD i 0).toNat (0, (0, 0, 0, ()), 0, ())).2.1.2.1 = ((Sp.Ax.evs 0 x.1.1).getD i (0, (0, 0, 0, ()), 0, ())).2.1.2.1 := c3;rw [c1, c2, c3] at h2;simp at h2
   ·rcases Nat.lt_or_ge n i with hc | hc
    ·exact hi.2 n hc
    ·have : n = i := by omega
     subst this;refine ⟨a1, ?_, b1, b2, fun h0 => ?_⟩
     ·show (x.2.1.1.getD n (0, (0, 0, 0, ()), 0, ())).2.1 = ((Sp.Ax.evs 0 x.1.1).getD n (0, (0, 0, 0, ()), 0, ())).2.1
      exact Prod.ext a2 (Prod.ext a3 (Prod.ext a4 rfl))
     ·rw [decide_eq_true h0] at h
      simp only [Bool.true_and, Bool.or_eq_false_iff, Bool.not_eq_false'] at h;refine ⟨h.1.1, h.1.2, ?_⟩;have := h.2;simp only [bne_eq_false_iff_eq] at this;exact this
 ·have hsrc : ∀ n < (Sp.Ax.evs 0 x.1.1).length, Sp.Ax.src (Sp.Ax.evs 0 x.1.1) x.2.1 n := fun n hn => hi.2 n (by omega)
  refine ⟨⟨0, ⟨Nat.zero_le _, fun n hn => by omega⟩, rfl⟩, ?_⟩
  intro k hk _;refine ⟨fun hlt => ?_, fun hge2 => ?_⟩
  ·have hkk : inK .i64 ((k : Int) + 1) := inK_succ hlt (by rw [lim_eq]; omega)
   have hkl : k < x.2.1.1.length := by omega
   have hstep : Sp.Ax.got x.2.1 k -> ∃ (y : Nat), (y <= x.2.1.1.length /\ ∀ (n : Nat), n < y -> Sp.Ax.got x.2.1 n) /\ x.2.1.1.length - y < x.2.1.1.length - k /\ (k : Int) + 1 = (y : Int) := by
    intro hg;refine ⟨k + 1, ⟨by omega, fun n hn => ?_⟩, by omega, rfl⟩
    rcases Nat.lt_or_ge n k with hc | hc
    ·exact hk.2 n hc
    ·rw [show n = k from by omega]; exact hg
   refine ⟨inN_of hlt, fun hr => ⟨⟨⟨by omega, by omega⟩, ?_⟩, fun h => ?_, fun h => ⟨hkk, hstep ?_⟩⟩, fun hr => ⟨fun h => ?_, fun h => ⟨hkk, hstep ?_⟩⟩⟩
   ·have := (hsrc k (by omega)).2.2.2.1
    show x.2.1.2.1.getD k 0 < (x.2.1.1.length : Int)
    omega
   ·refine Sp.Ax.right_false fun hr' => ?_
    have hg := hr'.got k hkl
    unfold Sp.Ax.got at hg;rw [if_pos (show Sp.Ax.reads (Sp.Ax.ev x.2.1.1 k).2.1 = true from hr)] at hg;exact h hg
   ·unfold Sp.Ax.got
    rw [if_pos (show Sp.Ax.reads (Sp.Ax.ev x.2.1.1 k).2.1 = true from hr)];exact h
   ·refine Sp.Ax.right_false fun hr' => ?_
    have hg := hr'.got k hkl
    unfold Sp.Ax.got at hg;rw [if_neg (by rw [show Sp.Ax.reads (Sp.Ax.ev x.2.1.1 k).2.1 = false from hr]; simp)] at hg;exact h hg
   ·unfold Sp.Ax.got
    rw [if_neg (by rw [show Sp.Ax.reads (Sp.Ax.ev x.2.1.1 k).2.1 = false from hr]; simp)];exact h
  ·have hgot : ∀ n < x.2.1.1.length, Sp.Ax.got x.2.1 n := fun n hn => hk.2 n (by omega)
   refine ⟨⟨0, ⟨Nat.zero_le _, fun n hn => by omega⟩, rfl⟩, ?_⟩
   intro p hpp _;refine ⟨fun hlt => ⟨⟨⟨by omega, by rw [hM]; omega⟩, hp⟩, fun h => ?_, fun h => ⟨inK_of (by omega) (by omega), p + 1, ⟨by omega, fun q hq => ?_⟩, by omega, rfl⟩⟩, fun hge3 => ⟨hp, ?_⟩⟩
   ·refine Sp.Ax.right_false fun hr => ?_
    have := hr.mo p (by omega)
    rw [h] at this; cases this
   ·rcases Nat.lt_or_ge q p with hc | hc
    ·exact hpp.2 q hc
    ·rw [show q = p from by omega]; exact h
   ·have hall : (Sp.Ax.isList x.2.1.2.2.2.1 (Sp.Ax.evs 0 x.1.1) (fun o => decide (o.1 = 4)) = true) ↔ Sp.Ax.right x.1 x.2.1 = true := by
     rw [Sp.Ax.right_iff];exact ⟨fun h => ⟨hv, hE, hF, hM, hsrc, hgot, fun q hq => hpp.2 q (by omega), h⟩, fun h => h.fo⟩
    exact Bool.eq_iff_iff.2 hall
theorem ok33 : FOk Try.prog 33 S33 := by
 have hC : aJ Try.prog C33 := ctx_okQ 0 rfl rfl (aG ok32 (aG ok63 (aG ok65 (aG ok66 (aG ok67 fns_nil))))) (ptr_cons pk64 ptrs_nil) (fun _ h => by cases h) (fun _ h => by cases h) ins_nil (fun _ h => by cases h)
 refine FOk.intro hC (stpQ_ok hC) Try.call33 Try.func33 (by kernel_rfl) (by kernel_rfl) L33 (vc33.mpr ?_)
 simp only [zz, zy, aD]
 intro x hp hx
 refine ⟨hp, fun h => ?_, fun hr => ?_⟩
 ·exact Sp.Ax.allowed_false fun h1 => by rw [h] at h1; cases h1
 have hR := (Sp.Ax.right_iff _ _).1 hr
 have he6 := (Sp.Ax.valid_ev hR.valid).1
 have hE := hR.lenE
 have hF := hR.lenF
 have hM := hR.lenM
 have hok : ∀ {n : Nat}, (n : Int) < (x.2.1.1.length : Int) -> okAt x.2.1 n := fun h => hR.ok (by omega)
 have h6 : ∀ {n : Nat}, (n : Int) < (x.2.1.1.length : Int) -> inN (n : Int) 6 := fun h => ⟨by omega, by omega⟩
 have hKs : ∀ {n : Nat}, (n : Int) < (x.2.1.1.length : Int) -> inK .i64 ((n : Int) + 1) := fun h => inK_succ h (by rw [lim_eq]; omega)
 refine ⟨⟨by omega, fun n hn => ?_⟩, ⟨0, Nat.zero_le _, rfl, Sp.Ax.mat_ext fun a b _ _ => Sp.Ax.flowN_zero _ _ _⟩, ?_⟩
 ·have := Sp.Ax.isList_in hR.fo hn
  exact ⟨this.1, by omega⟩
 intro i hi _
 refine ⟨fun hlt => ?_, fun hge => ?_⟩
 ·have hil : i < (Sp.Ax.evs 0 x.1.1).length := by omega
  have hs := hR.src i hil
  refine ⟨inN_of hlt, fun h0 => ⟨⟨⟨h0, by have := hs.2.2.2.1; show x.2.1.2.1.getD i 0 < 6; omega⟩, ⟨by omega, by omega⟩⟩, inK_succ hlt hx.2.2.1.1, i + 1, by omega, by omega, rfl, ?_⟩, fun h0 => ⟨inK_succ hlt hx.2.2.1.1, i + 1, by omega, by omega, rfl, Sp.Ax.mat_ext fun a b _ _ => Sp.Ax.flowN_skip h0 a b⟩⟩
  have h7 := hs.2.2.2.1
  rw [Sp.Ax.mat_set (by omega) (by omega)];exact Sp.Ax.mat_ext fun a b _ _ => Sp.Ax.flowN_step (by omega) a b
 have hflow : Sp.Ax.close (Sp.Ax.mat (Sp.Ax.flowN x.2.1 i)) = Sp.Ax.flow x.2.1 := by unfold Sp.Ax.flow; rw [show i = x.2.1.2.1.length from by omega]
 rw [hflow]
 refine ⟨fun h => ?_, fun hround => ⟨⟨0, ⟨Nat.zero_le _, fun a ha => by omega⟩, rfl⟩, ?_⟩⟩
 ·exact Sp.Ax.allowed_false fun _ h1 => by rw [h] at h1; cases h1
 intro a ha _
 refine ⟨fun hlt => ?_, fun hge2 => ?_⟩
 ·have hal : a < x.2.1.1.length := by omega
  have hstep : Sp.Ax.okEv x.2.1 a -> ∃ (y : Nat), (y <= x.2.1.1.length /\ ∀ (n : Nat), n < y -> Sp.Ax.okEv x.2.1 n) /\ x.2.1.1.length - y < x.2.1.1.length - a /\ (a : Int) + 1 = (y : Int) := by
   intro hg;refine ⟨a + 1, ⟨by omega, fun n hn => ?_⟩, by omega, rfl⟩
   rcases Nat.lt_or_ge n a with hc | hc
   ·exact ha.2 n hc
   ·rw [show n = a from by omega]; exact hg
  refine ⟨inN_of hlt, fun h4 => ⟨hKs hlt, hstep (.inl h4)⟩, fun h4 => ⟨hok hlt, fun _ => ?_, fun h => ?_, fun hadd => ?_⟩⟩
  ·have := Sp.Ax.idx_range (x.2.1.2.2.1.getD (Sp.Ax.ev x.2.1.1 a).2.1.2.1.toNat []) a
   have hX := (hok hlt).2.2
   have hl : (x.2.1.2.2.1.getD (Sp.Ax.ev x.2.1.1 a).2.1.2.1.toNat []).length <= lim := by
    rw [Sp.Ax.getD_lt (by have := hX.1; have := hX.2; omega)];exact (hx.2.2.2.1.2 _ (List.getElem_mem _)).1
   rw [lim_eq] at hl;exact inK_of (by omega) (by omega)
  ·refine Sp.Ax.allowed_false fun _ _ hall => ?_
   rcases hall a hal with h1 | ⟨h1, _⟩
   ·exact h4 h1
   ·unfold Sp.Ax.badAdd at h1
    rw [decide_eq_true (show (Sp.Ax.ev x.2.1.1 a).2.1.1 = 3 from h.1), decide_eq_false (show ¬ (Sp.Ax.plc x.2.1 a).2.1 = (Sp.Ax.plc x.2.1 a).1 - 1 from h.2)] at h1;cases h1
  ·have hbad : Sp.Ax.badAdd x.2.1 a = false := by
    unfold Sp.Ax.badAdd;rw [<- hadd]
    rfl
   refine ⟨⟨0, ⟨Nat.zero_le _, fun b hb => by omega⟩, rfl⟩, ?_⟩
   intro b hb _;refine ⟨fun hlt2 => ⟨inN_of hlt2, ⟨h6 hlt, h6 hlt2, fun _ => ⟨hok hlt, hok hlt2⟩⟩, fun h => ?_, fun h => ⟨hKs hlt2, b + 1, ⟨by omega, fun n hn => ?_⟩, by omega, rfl⟩⟩, fun hge3 => ⟨hKs hlt, hstep (.inr ⟨hbad, fun b' hb' => hb.2 b' (by omega)⟩)⟩⟩
   ·refine Sp.Ax.allowed_false fun _ _ hall => ?_
    rcases hall a hal with h1 | ⟨_, h1⟩
    ·exact h4 h1
    ·have := h1 b (by omega)
     unfold Sp.Ax.badPair at this;rw [show Sp.Ax.cE (Sp.Ax.before x.2.1) a b = true from h.1.1.1, decide_eq_false (show ¬ (Sp.Ax.ev x.2.1.1 b).2.1.1 = 4 from h.1.1.2), decide_eq_true (show (Sp.Ax.ev x.2.1.1 a).2.1.2.1 = (Sp.Ax.ev x.2.1.1 b).2.1.2.1 from h.1.2), h.2] at this;cases this
   ·rcases Nat.lt_or_ge n b with hc | hc
    ·exact hb.2 n hc
    ·rw [show n = b from by omega]
     unfold Sp.Ax.badPair;rw [<- h]
     rfl
 ·unfold Sp.Ax.allowed
  rw [hr, hround, decide_eq_true (fun a' ha' => ha.2 a' (by omega))]; rfl
end Go.User.Ax
namespace Sp.Ax
open Relation
theorem getD_set_true {l : List Bool} {b y : Nat} {v : Bool} (h : l.getD y false = true) (hv : y = b -> v = true) : (l.set b v).getD y false = true := by
 rw [List.getD_eq_getElem?_getD, List.getElem?_set]
 by_cases hyb : b = y
 ·subst hyb
  rw [if_pos rfl];split
  ·exact hv rfl
  ·rename_i h2
   rw [List.getD_eq_getElem?_getD, List.getElem?_eq_none (by omega)] at h; cases h
 ·rw [if_neg hyb, <- List.getD_eq_getElem?_getD]; exact h
theorem get2_upd2 {r : Rel} {a b x y : Nat} {v : Bool} (h : cE r x y = true) (hv : x = a -> y = b -> v = true) : cE (upd2 r a b v) x y = true := by
 unfold cE upd2 at *
 by_cases hxa : x = a
 ·subst hxa
  have e : (r.set x ((r.getD x (List.replicate 6 false)).set b v)).getD x (List.replicate 6 false) = if x < r.length then (r.getD x (List.replicate 6 false)).set b v else List.replicate 6 false := by
   rw [List.getD_eq_getElem?_getD, List.getElem?_set, if_pos rfl];split <;> rfl
  rw [e];split
  ·exact getD_set_true h (hv rfl)
  ·rename_i h2
   rw [List.getD_eq_getElem?_getD (l := r), List.getElem?_eq_none (by omega)] at h; exact h
 ·have e : (r.set a ((r.getD a (List.replicate 6 false)).set b v)).getD x (List.replicate 6 false) = r.getD x (List.replicate 6 false) := by
   rw [List.getD_eq_getElem?_getD, List.getElem?_set, if_neg (fun e => hxa e.symm), <- List.getD_eq_getElem?_getD]
  rw [e]; exact h
theorem get2_stepB {k a b : Nat} {r : Rel} {x y : Nat} (h : cE r x y = true) : cE (stepB k a r b) x y = true := by
 unfold stepB
 refine get2_upd2 h (fun e1 e2 => ?_)
 subst e1; subst e2
 rw [h]; rfl
theorem get2_rowB {k a : Nat} {r : Rel} {x y : Nat} (h : cE r x y = true) : ∀ n, cE (rowB k a r n) x y = true
 | 0 => h
 | n + 1 => by rw [Go.User.Ax.rowB_succ]; exact get2_stepB (get2_rowB h n)
theorem get2_rowA {k : Nat} {r : Rel} {x y : Nat} (h : cE r x y = true) : ∀ n, cE (rowA k r n) x y = true
 | 0 => h
 | n + 1 => by rw [Go.User.Ax.rowA_succ]; exact get2_rowB (get2_rowA h n) 6
def pre (X : List Int) (e : Int) : List Int := X.take (X.idxOf e)
theorem get2_upd2_or {r : Rel} {a b x y : Nat} {v : Bool} (h : cE (upd2 r a b v) x y = true) : cE r x y = true ∨ (x = a /\ y = b /\ v = true) := by
 unfold cE upd2 at *
 by_cases hxa : x = a
 ·subst hxa
  have e : (r.set x ((r.getD x (List.replicate 6 false)).set b v)).getD x (List.replicate 6 false) = if x < r.length then (r.getD x (List.replicate 6 false)).set b v else List.replicate 6 false := by
   rw [List.getD_eq_getElem?_getD, List.getElem?_set, if_pos rfl];split <;> rfl
  rw [e] at h;split at h
  ·rw [List.getD_eq_getElem?_getD, List.getElem?_set] at h
   by_cases hyb : b = y
   ·subst hyb
    rw [if_pos rfl] at h;split at h
    ·exact .inr ⟨rfl, rfl, h⟩
    ·cases h
   ·rw [if_neg hyb, <- List.getD_eq_getElem?_getD] at h
    exact .inl h
  ·rename_i h2
   left
   rw [List.getD_eq_getElem?_getD (l := r), List.getElem?_eq_none (by omega)]; exact h
 ·left
  have e : (r.set a ((r.getD a (List.replicate 6 false)).set b v)).getD x (List.replicate 6 false) = r.getD x (List.replicate 6 false) := by
   rw [List.getD_eq_getElem?_getD, List.getElem?_set, if_neg (fun e => hxa e.symm), <- List.getD_eq_getElem?_getD]
  rw [e] at h; exact h
section
variable {R : Nat -> Nat -> Prop} (ht : ∀ a b c, R a b -> R b c -> R a c)
include ht
theorem stepB_in {k a b : Nat} {r : Rel} (h : ∀ x y, cE r x y = true -> R x y) : ∀ x y, cE (stepB k a r b) x y = true -> R x y := by
 intro x y hxy
 unfold stepB at hxy
 rcases get2_upd2_or hxy with h1 | ⟨rfl, rfl, h1⟩
 ·exact h _ _ h1
 ·simp only [Bool.or_eq_true, Bool.and_eq_true] at h1
  rcases h1 with h1 | ⟨h1, h2⟩
  ·exact h _ _ h1
  ·exact ht _ _ _ (h _ _ h1) (h _ _ h2)
theorem rowB_in {k a : Nat} {r : Rel} (h : ∀ x y, cE r x y = true -> R x y) : ∀ n, ∀ x y, cE (rowB k a r n) x y = true -> R x y
 | 0 => h
 | n + 1 => by rw [Go.User.Ax.rowB_succ]; exact stepB_in ht (rowB_in h n)
theorem rowA_in {k : Nat} {r : Rel} (h : ∀ x y, cE r x y = true -> R x y) : ∀ n, ∀ x y, cE (rowA k r n) x y = true -> R x y
 | 0 => h
 | n + 1 => by rw [Go.User.Ax.rowA_succ]; exact rowB_in ht (rowA_in h n) 6
theorem closeN_in {r : Rel} (h : ∀ x y, cE r x y = true -> R x y) : ∀ n, ∀ x y, cE (closeN r n) x y = true -> R x y
 | 0 => h
 | n + 1 => by rw [Go.User.Ax.closeN_succ]; exact rowA_in ht (closeN_in h n) 6
theorem close_in {r : Rel} (h : ∀ x y, cE r x y = true -> R x y) : ∀ x y, cE (close r) x y = true -> R x y := closeN_in ht h 6
end
theorem get2_mat_in {f : Nat -> Nat -> Bool} {a b : Nat} (h : cE (mat f) a b = true) : a < 6 /\ b < 6 /\ f a b = true := by
 rcases Nat.lt_or_ge a 6 with ha | ha
 ·rcases Nat.lt_or_ge b 6 with hb | hb
  ·exact ⟨ha, hb, by rw [get2_mat ha hb] at h; exact h⟩
  ·unfold cE at h
   rw [mat_row ha, List.getD_eq_getElem?_getD, List.getElem?_eq_none (by simp; exact hb)] at h;cases h
 ·unfold cE at h
  rw [List.getD_eq_getElem?_getD (l := mat f), List.getElem?_eq_none (by simp [mat]; exact ha)] at h;simp only [Option.getD_none] at h;rcases Nat.lt_or_ge b 6 with hb | hb
  ·rw [getD_lt (by simpa using hb), List.getElem_replicate] at h; cases h
  ·rw [List.getD_eq_getElem?_getD, List.getElem?_eq_none (by simpa using hb)] at h; cases h
def W (R : Nat -> Nat -> Prop) : Nat -> Nat -> Nat -> Prop
 | 0, a, b => R a b
 | n + 1, a, b => W R n a b ∨ (W R n a n /\ W R n n b)
theorem W_trans {R : Nat -> Nat -> Prop} : ∀ n a b c, b < n -> W R n a b -> W R n b c -> W R n a c
 | 0, a, b, c, h, _, _ => by omega
 | n + 1, a, b, c, h, h1, h2 => by
  have ih := W_trans (R := R) n
  by_cases hb : b = n
  ·subst hb
   right
   refine ⟨?_, ?_⟩
   ·rcases h1 with h1 | h1
    ·exact h1
    ·exact h1.1
   ·rcases h2 with h2 | h2
    ·exact h2
    ·exact h2.2
  ·have hb : b < n := by omega
   rcases h1 with h1 | h1
   ·rcases h2 with h2 | h2
    ·exact .inl (ih a b c hb h1 h2)
    ·exact .inr ⟨ih a b n hb h1 h2.1, h2.2⟩
   ·rcases h2 with h2 | h2
    ·exact .inr ⟨h1.1, ih n b c hb h1.2 h2⟩
    ·exact .inr ⟨h1.1, h2.2⟩
theorem W_sub {R : Nat -> Nat -> Prop} {a b : Nat} (h : R a b) : ∀ n, W R n a b
 | 0 => h
 | n + 1 => .inl (W_sub h n)
theorem gen_W {R : Nat -> Nat -> Prop} {n : Nat} (hR : ∀ a b, R a b -> a < n /\ b < n) {a b : Nat} (h : TransGen R a b) : W R n a b := by
 induction h with
 | single h => exact W_sub h n
 | tail h1 h2 ih => exact W_trans n _ _ _ (hR _ _ h2).1 ih (W_sub h2 n)
theorem upd_get {r : Rel} {a b : Nat} {v : Bool} (ha : a < r.length) (hb : b < (r.getD a (List.replicate 6 false)).length) : cE (upd2 r a b v) a b = v := by
 unfold cE upd2
 generalize r.getD a (List.replicate 6 false) = row at *
 have e : (r.set a (row.set b v)).getD a (List.replicate 6 false) = row.set b v := by
  rw [getD_lt (by simpa using ha), List.getElem_set_self]
 rw [e, getD_lt (by simpa using hb), List.getElem_set_self]
def sq (r : Rel) : Prop := r.length = 6 /\ ∀ a < 6, (r.getD a (List.replicate 6 false)).length = 6
theorem sq_upd {r : Rel} (h : sq r) (a b : Nat) (v : Bool) : sq (upd2 r a b v) := by
 refine ⟨by simp [upd2, h.1], fun c hc => ?_⟩
 unfold upd2
 rw [List.getD_eq_getElem?_getD, List.getElem?_set]
 by_cases e : a = c
 ·subst e
  rw [if_pos rfl];split
  ·simp only [Option.getD_some, List.length_set]; exact h.2 a hc
  ·rfl
 ·rw [if_neg e, <- List.getD_eq_getElem?_getD]; exact h.2 c hc
theorem sq_rowB {r : Rel} (h : sq r) (k a : Nat) : ∀ n, sq (rowB k a r n)
 | 0 => h
 | n + 1 => by rw [Go.User.Ax.rowB_succ]; exact sq_upd (sq_rowB h k a n) _ _ _
theorem sq_rowA {r : Rel} (h : sq r) (k : Nat) : ∀ n, sq (rowA k r n)
 | 0 => h
 | n + 1 => by rw [Go.User.Ax.rowA_succ]; exact sq_rowB (sq_rowA h k n) _ _ _
theorem sq_closeN {r : Rel} (h : sq r) : ∀ n, sq (closeN r n)
 | 0 => h
 | n + 1 => by rw [Go.User.Ax.closeN_succ]; exact sq_rowA (sq_closeN h n) _ _
theorem stepB_new {r : Rel} (hs : sq r) {k a b : Nat} (ha : a < 6) (hb : b < 6) (h : cE r a b = true ∨ (cE r a k = true /\ cE r k b = true)) : cE (stepB k a r b) a b = true := by
 unfold stepB
 rw [upd_get (by rw [hs.1]; exact ha) (by rw [hs.2 a ha]; exact hb)]
 rcases h with h | ⟨h1, h2⟩
 ·rw [h]; rfl
 ·rw [h1, h2]; simp
theorem rowB_new {r : Rel} (hs : sq r) {k a : Nat} (ha : a < 6) {b : Nat} (h : cE r a b = true ∨ (cE r a k = true /\ cE r k b = true)) : ∀ n, n <= 6 -> b < n -> cE (rowB k a r n) a b = true
 | 0, _, hb => by omega
 | n + 1, hn, hb => by
  rw [Go.User.Ax.rowB_succ];by_cases e : b = n
  ·subst e
   refine stepB_new (sq_rowB hs k a b) ha (by omega) ?_
   rcases h with h | ⟨h1, h2⟩
   ·exact .inl (get2_rowB h b)
   ·exact .inr ⟨get2_rowB h1 b, get2_rowB h2 b⟩
  ·exact get2_stepB (rowB_new hs ha h n (by omega) (by omega))
theorem rowA_new {r : Rel} (hs : sq r) {k : Nat} {a b : Nat} (hb : b < 6) (h : cE r a b = true ∨ (cE r a k = true /\ cE r k b = true)) : ∀ n, n <= 6 -> a < n -> cE (rowA k r n) a b = true
 | 0, _, ha => by omega
 | n + 1, hn, ha => by
  rw [Go.User.Ax.rowA_succ];by_cases e : a = n
  ·subst e
   refine rowB_new (sq_rowA hs k a) (by omega) ?_ 6 (Nat.le_refl _) hb
   rcases h with h | ⟨h1, h2⟩
   ·exact .inl (get2_rowA h a)
   ·exact .inr ⟨get2_rowA h1 a, get2_rowA h2 a⟩
  ·exact get2_rowB (rowA_new hs hb h n (by omega) (by omega)) 6
theorem closeN_W {r : Rel} (hs : sq r) : ∀ n, n <= 6 -> ∀ a b, a < 6 -> b < 6 -> W (fun a b => cE r a b = true) n a b -> cE (closeN r n) a b = true
 | 0, _, a, b, _, _, h => h
 | n + 1, hn, a, b, ha, hb, h => by
  have ih := closeN_W hs n (by omega)
  rw [Go.User.Ax.closeN_succ];refine rowA_new (sq_closeN hs n) hb ?_ 6 (Nat.le_refl _) ha;rcases h with h | ⟨h1, h2⟩
  ·exact .inl (ih a b ha hb h)
  ·exact .inr ⟨ih a n ha (by omega) h1, ih n b (by omega) hb h2⟩
theorem sq_mat (f : Nat -> Nat -> Bool) : sq (mat f) := ⟨by simp [mat], fun a ha => by rw [mat_row ha]; simp⟩
theorem close_iff {f : Nat -> Nat -> Bool} (hf : ∀ a b, f a b = true -> a < 6 /\ b < 6) {a b : Nat} : cE (close (mat f)) a b = true ↔ TransGen (fun a b => f a b = true) a b := by
 have hm : ∀ a b, cE (mat f) a b = true ↔ f a b = true := by
  intro a b;constructor
  ·intro h; exact (get2_mat_in h).2.2
  ·intro h; rw [get2_mat (hf a b h).1 (hf a b h).2]; exact h
 constructor
 ·exact close_in (R := TransGen fun a b => f a b = true) (fun a b c h1 h2 => TransGen.trans h1 h2) (fun x y h => .single ((hm x y).1 h)) a b
 ·intro h
  have e : (fun a b => cE (mat f) a b = true) = (fun a b => f a b = true) := by
   funext a b; exact propext (hm a b)
  have hW := gen_W (n := 6) hf h
  have hab : a < 6 /\ b < 6 := by
   clear hW
   induction h with
   | single h => exact hf _ _ h
   | tail h1 h2 ih => exact ⟨ih.1, (hf _ _ h2).2⟩
  rw [<- e] at hW;exact closeN_W (sq_mat f) 6 (Nat.le_refl _) a b hab.1 hab.2 hW
theorem pair_iff {fo : List Int} {a b : Int} : ((List.range fo.length).any fun j => (List.range j).any fun i => decide (fo.getD i 0 = a) && decide (fo.getD j 0 = b)) = true ↔ [a, b].Sublist fo := by
 rw [List.any_eq_true]
 have : (∃ x, x ∈ List.range fo.length /\ ((List.range x).any fun i => decide (fo.getD i 0 = a) && decide (fo.getD x 0 = b)) = true) ↔ ∃ j, j < fo.length /\ ∃ i, i < j /\ fo.getD i 0 = a /\ fo.getD j 0 = b := by
  simp only [List.mem_range, List.any_eq_true, Bool.and_eq_true, decide_eq_true_eq]
 rw [this]
 clear this
 induction fo with
 | nil => simp
 | cons x l ih =>
  have hs : [a, b].Sublist (x :: l) ↔ [a, b].Sublist l ∨ (x = a /\ b ∈ l) := by
   rw [List.sublist_cons_iff];constructor
   ·rintro (h | ⟨r, h1, h2⟩)
    ·exact .inl h
    ·simp only [List.cons.injEq] at h1
     obtain ⟨e1, e2⟩ := h1;subst e2;exact .inr ⟨e1.symm, List.singleton_sublist.1 h2⟩
   ·rintro (h | ⟨h1, h2⟩)
    ·exact .inl h
    ·exact .inr ⟨[b], by rw [h1], List.singleton_sublist.2 h2⟩
  rw [hs];refine Iff.trans ?_ (or_congr ih Iff.rfl);constructor
  ·rintro ⟨j, hj, i, hi, h1, h2⟩
   match i, j, hi with
   | 0, j + 1, _ =>
    right
    refine ⟨h1, ?_⟩
    have h2 : l.getD j 0 = b := h2
    simp only [List.length_cons] at hj;rw [getD_lt (by omega)] at h2;rw [<- h2]; exact List.getElem_mem _
   | i + 1, j + 1, hi =>
    left
    simp only [List.length_cons] at hj;exact ⟨j, by omega, i, by omega, h1, h2⟩
  ·rintro (⟨j, hj, i, hi, h1, h2⟩ | ⟨h1, h2⟩)
   ·exact ⟨j + 1, by simp only [List.length_cons]; omega, i + 1, by omega, h1, h2⟩
   ·obtain ⟨j, hj, e⟩ := List.getElem_of_mem h2
    exact ⟨j + 1, by simp only [List.length_cons]; omega, 0, by omega, h1, by show l.getD j 0 = b; rw [getD_lt hj]; exact e⟩
def Ord (g : Gr) (a b : Nat) : Prop := (a < b /\ b < g.1.length /\ (ev g.1 a).1 = (ev g.1 b).1) ∨ [(a : Int), (b : Int)].Sublist g.2.2.2.1
def Flow (g : Gr) (a b : Nat) : Prop := Ord g a b ∨ (b < g.2.1.length /\ g.2.1.getD b 0 = (a : Int))
theorem ordF_iff (g : Gr) (a b : Nat) : ordF g.1 g.2.2.2.1 a b = true ↔ Ord g a b := by
 unfold ordF Ord
 rw [Bool.or_eq_true, pair_iff]
 simp only [Bool.and_eq_true, decide_eq_true_eq, and_assoc]
theorem flowN_iff (g : Gr) (a b : Nat) : flowN g g.2.1.length a b = true ↔ Flow g a b := by
 unfold flowN Flow
 rw [Bool.or_eq_true, ordF_iff]
 simp only [Bool.and_eq_true, decide_eq_true_eq]
theorem RightP.six {t : Lit} {g : Gr} (h : RightP t g) : g.1.length <= 6 := by rw [h.lenE]; exact (valid_ev h.valid).1
theorem RightP.ord_lt {t : Lit} {g : Gr} (h : RightP t g) {a b : Nat} (ho : Ord g a b) : a < g.1.length /\ b < g.1.length := by
 rcases ho with ho | ho
 ·exact ⟨by omega, ho.2.1⟩
 ·have hfo := h.fo
  have h1 := isList_in hfo (ho.subset (by simp) : (a : Int) ∈ _)
  have h2 := isList_in hfo (ho.subset (by simp) : (b : Int) ∈ _)
  have := h.lenE
  omega
theorem RightP.flow_lt {t : Lit} {g : Gr} (h : RightP t g) {a b : Nat} (ho : Flow g a b) : a < g.1.length /\ b < g.1.length := by
 rcases ho with ho | ⟨h1, h2⟩
 ·exact h.ord_lt ho
 ·have hF := h.lenF
  have hE := h.lenE
  obtain ⟨_, _, _, h3, _⟩ := h.src b (by omega);rw [h2] at h3;omega
theorem RightP.before_iff {t : Lit} {g : Gr} (h : RightP t g) {a b : Nat} : cE (before g) a b = true ↔ TransGen (Ord g) a b := by
 have h6 := h.six
 have e : (fun a b => ordF g.1 g.2.2.2.1 a b = true) = Ord g := by funext a b; exact propext (ordF_iff g a b)
 unfold before order
 rw [close_iff (fun a b hab => by have := h.ord_lt ((ordF_iff g a b).1 hab); omega), e]
theorem RightP.flow_iff {t : Lit} {g : Gr} (h : RightP t g) {a b : Nat} : cE (flow g) a b = true ↔ TransGen (Flow g) a b := by
 have h6 := h.six
 have e : (fun a b => flowN g g.2.1.length a b = true) = Flow g := by funext a b; exact propext (flowN_iff g a b)
 unfold flow
 rw [close_iff (fun a b hab => by have := h.flow_lt ((flowN_iff g a b).1 hab); omega), e]
theorem gen_lt {R : Nat -> Nat -> Prop} {n : Nat} (hR : ∀ a b, R a b -> a < n /\ b < n) {a b : Nat} (h : TransGen R a b) : a < n /\ b < n := by
 induction h with
 | single h => exact hR _ _ h
 | tail h1 h2 ih => exact ⟨ih.1, (hR _ _ h2).2⟩
structure AllowP (t : Lit) (g : Gr) : Prop where
 right : RightP t g
 acyc : ∀ a, ¬ TransGen (Flow g) a a
 add : ∀ a < g.1.length, (ev g.1 a).2.1.1 = 3 -> (plc g a).2.1 = (plc g a).1 - 1
 coh : ∀ a < g.1.length, ∀ b < g.1.length, (ev g.1 a).2.1.1 ≠ 4 -> (ev g.1 b).2.1.1 ≠ 4 -> TransGen (Ord g) a b -> (ev g.1 a).2.1.2.1 = (ev g.1 b).2.1.2.1 -> coh g a b = true
theorem allowed_iff (t : Lit) (g : Gr) : allowed t g = true ↔ AllowP t g := by
 unfold allowed
 simp only [Bool.and_eq_true, decide_eq_true_eq, Bool.not_eq_true']
 constructor
 ·rintro ⟨⟨h1, h2⟩, h3⟩
  have hR := (right_iff t g).1 h1
  refine ⟨hR, fun a ha => ?_, fun a ha h => ?_, fun a ha b hb h4 h5 hab hx => ?_⟩
  ·have hf := hR.flow_iff.2 ha
   have h6 := hR.six
   have hl := (gen_lt (fun a b h => hR.flow_lt h) ha).1
   unfold round at h2;rw [List.any_eq_false] at h2;exact h2 a (by simp; omega) hf
  ·rcases h3 a ha with h4 | ⟨h4, _⟩
   ·omega
   ·unfold badAdd at h4
    rw [decide_eq_true h] at h4
    simpa using h4
  ·rcases h3 a ha with h6 | ⟨_, h6⟩
   ·exact absurd h6 h4
   ·have := h6 b hb
    unfold badPair at this;rw [hR.before_iff.2 hab, decide_eq_false h5, decide_eq_true hx] at this
    simpa using this
 ·intro h
  refine ⟨⟨(right_iff t g).2 h.right, ?_⟩, fun a ha => ?_⟩
  ·unfold round
   rw [List.any_eq_false];intro a _ hh;exact h.acyc a (h.right.flow_iff.1 hh)
  ·by_cases h4 : (ev g.1 (a : Int)).2.1.1 = 4
   ·exact .inl h4
   ·right
    refine ⟨?_, fun b hb => ?_⟩
    ·unfold badAdd
     by_cases h3 : (ev g.1 (a : Int)).2.1.1 = 3
     ·rw [h.add a ha h3]; simp
     ·rw [decide_eq_false h3]; rfl
    ·unfold badPair
     cases hb2 : cE (before g) a b
     ·rfl
     by_cases h5 : (ev g.1 (b : Int)).2.1.1 = 4
     ·rw [decide_eq_true h5]; simp
     by_cases hx : (ev g.1 (a : Int)).2.1.2.1 = (ev g.1 (b : Int)).2.1.2.1
     ·rw [h.coh a ha b hb h4 h5 (h.right.before_iff.1 hb2) hx]; simp
     ·rw [decide_eq_false hx]; simp
end Sp.Ax
namespace Sp
open Relation Cx
theorem map_range {α β : Type} (l : List α) (d : α) (g : α -> β) : l.map g = (List.range l.length).map fun j => g (l.getD j d) := by
 apply List.ext_getElem (by simp)
 intro i h1 h2
 simp only [List.getElem_map, List.getElem_range]
 rw [Pl.b8 (by simpa using h1)]
theorem evs_evN (t : Lit) : ∀ n, n <= t.1.length -> Ax.evs 0 (t.1.take n) = evN t [] n
 | 0, _ => rfl
 | n + 1, h => by
  rw [Ax.evs_succ (by omega), evs_evN t n (by omega), evN_succ, map_range _ op0]; rfl
theorem evs_evL (t : Lit) : Ax.evs 0 t.1 = evL t := by
 have := evs_evN t t.1.length (Nat.le_refl _)
 rw [List.take_length] at this; exact this
theorem evL_len (t : Lit) : (evL t).length = aB t.1 := by
 unfold evL; rw [evN_len _ _ _ (Nat.le_refl _), List.take_length]
theorem evL_get {t : Lit} {e : Nat} (h : e < aB t.1) : Ax.ev (evL t) (e : Int) = ((coE t e : Int), opE t e, 0, ()) := by
 obtain ⟨c, j, h1, h2, h3⟩ := ev_ex h
 have he : e = aB (t.1.take c) + j := by unfold bas at h3; omega
 have hg := evN_get t [] t.1.length (Nat.le_refl _) c j h1 h2
 show (evN t [] t.1.length).getD (e : Int).toNat ev0 = _
 rw [Int.toNat_natCast, he, hg, <- he, h3, coE_at h1 h2, opE_at h1 h2]; rfl
theorem ax_usual {o : LOp} (h : usual o = true) : Ax.usual o = true := by
 unfold usual at h
 unfold Ax.usual
 by_cases h1 : o.1 = 1
 ·rw [if_pos h1] at h
  rw [if_neg (by omega), if_pos h1]; exact h
 ·rw [if_neg h1] at h
  by_cases h2 : o.1 = 2 ∨ o.1 = 3
  ·rw [if_pos h2] at h
   rw [if_neg (by omega), if_neg h1, if_pos h2]; exact h
  ·rw [if_neg h2] at h
   simp only [Bool.and_eq_true, decide_eq_true_eq] at h;rw [if_pos h.1.1, decide_eq_true h.1.2, decide_eq_true h.2]; rfl
theorem ax_rd (o : LOp) : Ax.reads o = decide (rdP o) := by
 unfold Ax.reads rdP
 by_cases h1 : o.1 = 1 <;> by_cases h3 : o.1 = 3 <;> simp [h1, h3]
theorem ax_wr (o : LOp) : Ax.bQ o = decide (wrP o) := by
 unfold Ax.bQ wrP
 by_cases h1 : o.1 = 2 <;> by_cases h3 : o.1 = 3 <;> simp [h1, h3]
section
variable {s : VSt} {X : List Int} (D : End s X)
include D
theorem End.vl {k : Nat} (kl : k < aB s.1.1) (kw : wrP (opE s.1 k)) : vlO s k = if (opE s.1 k).1 = 3 then rOf s k + (opE s.1 k).2.2.1 else (opE s.1 k).2.2.1 := by
 have hp := D.wpos kl kw
 have hx := (D.kind kl).2.1
 have hlt := D.pos_lt (xE s.1 k) k
 obtain ⟨i, hi⟩ : ∃ i : Nat, pos s (xE s.1 k) k = (i : Int) + 1 := ⟨(pos s (xE s.1 k) k).toNat - 1, by omega⟩
 have hm := (D.run.mv _ hx i (by omega)).2
 have hg := D.pos_get (p := xE s.1 k) (e := (k : Int)) (by omega)
 rw [hi, show ((i : Int) + 1).toNat = i + 1 from by omega] at hg
 rw [hg] at hm
 unfold vlO
 rw [hi, show ((i : Int) + 1).toNat = i + 1 from by omega, hm]
 by_cases h3 : (opE s.1 k).1 = 3
 ·rw [if_pos h3, if_pos h3]
  have ha := D.run.add k (D.all k kl) h3
  have hv := D.run.val k (D.all k kl) (.inr h3)
  rw [show pos s (xE s.1 k) (frO s k) = (i : Int) from by omega, Int.toNat_natCast] at hv
  rw [hv]
 ·rw [if_neg h3, if_neg h3]
theorem End.vl_in {k : Nat} (kl : k < aB s.1.1) (kw : wrP (opE s.1 k)) : -800 <= vlO s k /\ vlO s k <= 800 := by
 have hp := D.wpos kl kw
 have hx := (D.kind kl).2.1
 have hlt := D.pos_lt (xE s.1 k) k
 have := D.fin.bd _ hx _ (Pl.bK (l := aC s (xE s.1 k)) (i := (pos s (xE s.1 k) k).toNat) (by omega) msg0)
 have h8 := D.fin.good.tot
 unfold vlO; omega
theorem End.gX {e : Nat} (h : e < aB s.1.1) : Ax.ev (bF s).1 (e : Int) = ((coE s.1 e : Int), opE s.1 e, rOf s e, ()) := by
 have := D.gE h
 show (bF s).1.getD (e : Int).toNat ev0 = _
 rw [Int.toNat_natCast]; exact this
theorem End.moX {p : Nat} (hp : p < 3) : (bF s).2.2.1.getD p [] = (evs (aC s p)).drop 1 := by
 rw [D.gM hp]
 unfold moK evs
 rw [List.take_of_length_le (by rw [List.length_drop]; omega), List.map_drop]
theorem End.mo_nd {p : Nat} (hp : p < 3) : ((bF s).2.2.1.getD p []).Nodup := by
 rw [D.moX hp]; exact (D.fin.nd p hp).sublist (List.drop_sublist _ _)
theorem End.mo_in {p : Nat} (hp : p < 3) {n : Int} (h : n ∈ (bF s).2.2.1.getD p []) : ∃ k : Nat, k < aB s.1.1 /\ n = (k : Int) /\ wrP (opE s.1 k) /\ xE s.1 k = p := by
 rw [D.gM hp] at h
 obtain ⟨i, hi, he⟩ := List.mem_iff_getElem.1 h
 have hl := moK_full (aC s p)
 have hi1 : i + 1 < (aC s p).length := by omega
 have := moK_get hi1
 rw [Pl.b8 hi, he] at this
 obtain ⟨k, k1, k2, k3, k4, _⟩ := D.msg hp hi1
 exact ⟨k, k1, by rw [this, k2], k3, k4⟩
theorem End.mo_at {p : Nat} (hp : p < 3) {e : Int} (h : 1 <= pos s p e) : e ∈ (bF s).2.2.1.getD p [] /\ Ax.idx ((bF s).2.2.1.getD p []) e = pos s p e - 1 := by
 have hlt := D.pos_lt p e
 have hg := D.pos_get (p := p) (e := e) (by omega)
 have hl := moK_full (aC s p)
 have hnd := D.mo_nd hp
 rw [D.gM hp] at hnd ⊢
 have hi1 : ((pos s p e).toNat - 1) + 1 < (aC s p).length := by omega
 have h2 := moK_get hi1
 rw [show ((pos s p e).toNat - 1) + 1 = (pos s p e).toNat from by omega, hg] at h2
 have hi : (pos s p e).toNat - 1 < (moK (aC s p) ((aC s p).length - 1)).length := by omega
 rw [Pl.b8 hi] at h2
 have hm : e ∈ moK (aC s p) ((aC s p).length - 1) := by rw [<- h2]; exact List.getElem_mem _
 refine ⟨hm, ?_⟩
 unfold Ax.idx
 rw [if_pos hm]
 have : List.idxOf e (moK (aC s p) ((aC s p).length - 1)) = (pos s p e).toNat - 1 := by
  have h3 := hnd.idxOf_getElem _ hi
  rw [h2] at h3; exact h3
 rw [this]; omega
theorem End.idx_m1 {p : Nat} (hp : p < 3) : Ax.idx ((bF s).2.2.1.getD p []) (-1) = pos s p (-1) - 1 := by
 rw [D.pos_m1 hp]
 unfold Ax.idx
 rw [if_neg]
 ·rfl
 ·intro h
  obtain ⟨k, k1, k2, _⟩ := D.mo_in hp h;omega
theorem End.idx_w {e : Nat} (h : e < aB s.1.1) (hw : wrP (opE s.1 e)) : Ax.idx ((bF s).2.2.1.getD (xE s.1 e) []) e = pos s (xE s.1 e) e - 1 :=
 (D.mo_at (D.kind h).2.1 (D.wpos h hw)).2
theorem End.idx_r {e : Nat} (h : e < aB s.1.1) (hr : rdP (opE s.1 e)) : Ax.idx ((bF s).2.2.1.getD (xE s.1 e) []) (frO s e) = pos s (xE s.1 e) (frO s e) - 1 := by
 have hx := (D.kind h).2.1
 rcases D.from h hr with ⟨f1, _⟩ | ⟨k, f1, f2, f3, f4, f5, f6, _⟩
 ·rw [f1]; exact D.idx_m1 hx
 ·rw [f2]; exact (D.mo_at hx f6).2
theorem End.plcX {e : Nat} (h : e < aB s.1.1) : Ax.plc (bF s) (e : Int) = (Ax.idx ((bF s).2.2.1.getD (xE s.1 e) []) e, Ax.idx ((bF s).2.2.1.getD (xE s.1 e) []) (frO s e), ()) := by
 unfold Ax.plc
 rw [D.gX h, Int.toNat_natCast, D.gF h]; rfl
theorem End.right (hv : valid s.1 = true) : Ax.RightP s.1 (bF s) := by
 have hlen : (Ax.evs 0 s.1.1).length = aB s.1.1 := by rw [evs_evL, evL_len]
 have hget : ∀ e : Nat, e < aB s.1.1 -> Ax.ev (Ax.evs 0 s.1.1) (e : Int) = ((coE s.1 e : Int), opE s.1 e, 0, ()) := fun e he => by rw [evs_evL]; exact evL_get he
 refine ⟨?_, by rw [hlen]; exact D.gEl, by rw [hlen]; exact D.gFl, D.gMl, ?_, ?_, ?_, ?_⟩
 ·obtain ⟨v1, v2, v3, v4, v5⟩ := valid_iff.1 hv
  unfold Ax.valid;rw [hlen, decide_eq_true v1, decide_eq_true v2, decide_eq_true v3, decide_eq_true v4];simp only [Bool.true_and];rw [List.all_eq_true];intro x hx;obtain ⟨i, hi, he⟩ := List.mem_iff_getElem.1 hx;have hil : i < aB s.1.1 := by omega
  have h1 := hget i hil
  have h2 : Ax.ev (Ax.evs 0 s.1.1) (i : Int) = x := by
   unfold Ax.ev;rw [Int.toNat_natCast, Pl.b8 hi, he]
  rw [<- h2, h1];exact ax_usual (D.kind hil).1
 ·intro n hn
  rw [hlen] at hn;unfold Ax.src;rw [hget n hn, D.gX hn, D.gF hn, hlen];refine ⟨rfl, rfl, ?_⟩;by_cases hr : rdP (opE s.1 n)
  ·rcases D.from hn hr with ⟨f1, _⟩ | ⟨k, f1, f2, f3, f4, f5, f6, f7⟩
   ·rw [f1]; exact ⟨by omega, by omega, fun h => by omega⟩
   ·rw [f2]
    refine ⟨by omega, by omega, fun _ => ?_⟩
    rw [hget k f1];refine ⟨by rw [ax_rd]; exact decide_eq_true hr, by rw [ax_wr]; exact decide_eq_true f4, ?_⟩
    show (opE s.1 k).2.1 = (opE s.1 n).2.1
    rw [(D.kind f1).2.2, (D.kind hn).2.2, f5]
  ·rw [(D.none hn hr).1]; exact ⟨by omega, by omega, fun h => by omega⟩
 ·intro n hn
  have hn : n < aB s.1.1 := by have := D.gEl; omega
  unfold Ax.got;rw [D.gX hn, D.gF hn, ax_rd];show rOf s n = if decide (rdP (opE s.1 n)) = true then _ else 0;by_cases hr : rdP (opE s.1 n)
  ·rw [if_pos (decide_eq_true hr)]
   unfold Ax.value;rcases D.from hn hr with ⟨f1, f2, _⟩ | ⟨k, f1, f2, f3, f4, f5, f6, f7⟩
   ·rw [f1, if_pos (by omega)]; exact f2
   ·rw [f2, if_neg (by omega), D.gX f1, f7, D.vl f1 f4]
    have hin := D.vl_in f1 f4
    rw [D.vl f1 f4] at hin;show _ = if (opE s.1 k).1 = 3 then Go.IntKind.wrap .i64 (rOf s k + (opE s.1 k).2.2.1) else (opE s.1 k).2.2.1;by_cases h3 : (opE s.1 k).1 = 3
    ·rw [if_pos h3] at hin ⊢
     rw [if_pos h3, Pl.wrap_in (by omega) (by omega)]
    ·rw [if_neg h3, if_neg h3]
  ·rw [if_neg (by simpa using hr)]; exact (D.none hn hr).2
 ·intro p hp
  unfold Ax.isList;simp only [Bool.and_eq_true, decide_eq_true_eq];refine ⟨⟨D.mo_nd hp, fun n hn => ?_⟩, fun n hn hw => ?_⟩
  ·obtain ⟨k, k1, k2, k3, k4⟩ := D.mo_in hp hn
   rw [k2, hget k k1, hlen];refine ⟨by omega, by omega, by rw [ax_wr]; exact decide_eq_true k3, ?_⟩
   show (opE s.1 k).2.1 = _
   rw [(D.kind k1).2.2, k4]
  ·rw [hlen] at hn
   rw [hget n hn, ax_wr] at hw;obtain ⟨w1, w2⟩ := hw;have w1 : wrP (opE s.1 n) := of_decide_eq_true w1;have w2 : (opE s.1 n).2.1 = (p : Int) := w2;rw [(D.kind hn).2.2] at w2;have hx : xE s.1 n = p := by omega
   have := D.wpos hn w1
   rw [hx] at this;exact (D.mo_at hp this).1
 ·unfold Ax.isList
  have hfo : (bF s).2.2.2.1 = X.filter fun e => decide ((opE s.1 e).1 = 4) := D.run.fo
  rw [hfo];simp only [Bool.and_eq_true, decide_eq_true_eq];refine ⟨⟨D.run.nod.filter _, fun n hn => ?_⟩, fun n hn hw => ?_⟩
  ·obtain ⟨h1, h2⟩ := List.mem_filter.1 hn
   obtain ⟨k, k1, k2⟩ := D.in' h1;rw [k2, hget k k1, hlen];rw [k2] at h2;exact ⟨by omega, by omega, of_decide_eq_true h2⟩
  ·rw [hlen] at hn
   rw [hget n hn] at hw;exact List.mem_filter.2 ⟨D.all n hn, decide_eq_true hw⟩
theorem End.ordX {a b : Nat} (h : Ax.Ord (bF s) a b) : R (opE s.1) (coE s.1) X a b := by
 have hfo : (bF s).2.2.2.1 = X.filter fun e => decide ((opE s.1 e).1 = 4) := D.run.fo
 rcases h with ⟨h1, h2, h3⟩ | h1
 ·have h2 : b < aB s.1.1 := by have := D.gEl; omega
  rw [D.gX (e := a) (by omega), D.gX h2] at h3;have h3 : (coE s.1 a : Int) = (coE s.1 b : Int) := h3;have h4 : coE s.1 (a : Int) = coE s.1 (b : Int) := by omega
  exact ⟨D.run.po a b (D.all a (by omega)) (D.all b h2) h4 (by omega), .inl h4⟩
 ·rw [hfo] at h1
  have ha := List.mem_filter.1 (h1.subset (by simp) : (a : Int) ∈ _)
  have hb := List.mem_filter.1 (h1.subset (by simp) : (b : Int) ∈ _)
  exact ⟨h1.trans List.filter_sublist, .inr ⟨of_decide_eq_true (p := (opE s.1 a).1 = 4) ha.2, of_decide_eq_true (p := (opE s.1 b).1 = 4) hb.2⟩⟩
theorem End.flowX {a b : Nat} (h : Ax.Flow (bF s) a b) : X.idxOf (a : Int) < X.idxOf (b : Int) := by
 rcases h with h1 | ⟨h1, h2⟩
 ·exact sub_idx D.run.nod (D.ordX h1).1
 ·have h1 : b < aB s.1.1 := by have := D.gFl; omega
  rw [D.gF h1] at h2;by_cases hr : rdP (opE s.1 b)
  ·rcases (D.run.fr b (D.all b h1) hr).2 with h3 | h3
   ·omega
   ·rw [h2] at h3; exact sub_idx D.run.nod h3
  ·have := (D.none h1 hr).1; omega
theorem End.allowed (hv : valid s.1 = true) : Ax.allowed s.1 (bF s) = true := by
 rw [Ax.allowed_iff]
 have hR := D.right hv
 refine ⟨hR, fun a ha => ?_, fun a ha h3 => ?_, fun a ha b hb h4 h5 hab hx => ?_⟩
 ·have hlt : ∀ {x y : Nat}, TransGen (Ax.Flow (bF s)) x y -> X.idxOf (x : Int) < X.idxOf (y : Int) := by
   intro x y h
   induction h with
   | single h => exact D.flowX h
   | tail h1 h2 ih => have := D.flowX h2; omega
  have := hlt ha
  omega
 ·have ha : a < aB s.1.1 := by have := D.gEl; omega
  rw [D.gX ha] at h3;have h3 : (opE s.1 a).1 = 3 := h3;rw [D.plcX ha];show Ax.idx _ (frO s a) = Ax.idx _ (a : Int) - 1;rw [D.idx_r ha (.inr h3), D.idx_w ha (.inr h3)];have := D.run.add a (D.all a ha) h3;omega
 ·have ha : a < aB s.1.1 := by have := D.gEl; omega
  have hb : b < aB s.1.1 := by have := D.gEl; omega
  rw [D.gX ha] at h4 hx;rw [D.gX hb] at h5 hx;have h4 : ¬ (opE s.1 a).1 = 4 := h4;have h5 : ¬ (opE s.1 b).1 = 4 := h5;have hx : (opE s.1 a).2.1 = (opE s.1 b).2.1 := hx;rw [(D.kind ha).2.2, (D.kind hb).2.2] at hx;have hxe : xE s.1 (a : Int) = xE s.1 (b : Int) := by omega
  have hHB : ∀ {x y : Nat}, TransGen (Ax.Ord (bF s)) x y -> HB (opE s.1) (coE s.1) X x y := by
   intro x y h;unfold HB
   induction h with
   | single h => exact .single (D.ordX h)
   | tail h1 h2 ih => exact .tail ih (D.ordX h2)
  obtain ⟨c1, c2⟩ := D.run.coh a b (hHB hab) h4 h5 hxe;have hka := usual_kind (D.kind ha).1;have hlow : (if Ax.bQ (opE s.1 a) = true then Ax.idx ((bF s).2.2.1.getD (xE s.1 a) []) a else Ax.idx ((bF s).2.2.1.getD (xE s.1 a) []) (frO s a)) = pl s a - 1 := by
   rw [ax_wr];unfold pl lowO;by_cases hw : wrP (opE s.1 a)
   ·rw [if_pos (decide_eq_true hw), if_pos hw]; exact D.idx_w ha hw
   ·rw [if_neg (by simpa using hw), if_neg hw]
    exact D.idx_r ha (.inl (by unfold wrP at hw; omega))
  unfold Ax.coh;rw [D.plcX ha, D.plcX hb, D.gX ha, D.gX hb];show (!(Ax.reads (opE s.1 b) && decide (Ax.idx _ (frO s b) < (if Ax.bQ (opE s.1 a) = true then _ else _))) && !(Ax.bQ (opE s.1 b) && decide (Ax.idx _ (b : Int) <= (if Ax.bQ (opE s.1 a) = true then _ else _)))) = true;rw [hlow, ax_rd, ax_wr];rw [Bool.and_eq_true];constructor
  ·by_cases hr : rdP (opE s.1 b)
   ·have := c1 hr
    rw [D.idx_r hb hr, decide_eq_false (show ¬ pos s (xE s.1 b) (frO s b) - 1 < pl s a - 1 by omega)]; simp
   ·rw [decide_eq_false hr]; rfl
  ·by_cases hw : wrP (opE s.1 b)
   ·have := c2 hw
    rw [D.idx_w hb hw, decide_eq_false (show ¬ pos s (xE s.1 b) b - 1 <= pl s a - 1 by omega)]; simp
   ·rw [decide_eq_false hw]; rfl
end
end Sp
namespace Go.User
open Go.Lf
def S10 : aU := { args := [.val tRaw, .val (.slice (.int .u8))], multi := false, res := .bool, mode := .shr, pre := fun _ => True, fn := fun _ => true }
def C10 : Ctx := { mkS 42 [(11, S11), (12, S12), (23, S23), (27, S27), (32, Go.User.Ax.S32), (33, Go.User.Ax.S33)] with mds := [(6, .pair .shr .shr), (7, mRn), (8, mG0)] }
def L10 (x : aO S10.args) : List aS := []
end Go.User
namespace Go.User
open Go.Proofs Go.Lf
set_option maxRecDepth 100000
theorem vc10 : (bV C10 (stpS C10) S10 L10 Try.f10) = (
let q0 : Prop := (True /\ True) /\ True;
let q1 : Prop := True /\ True /\ True;
let q2 : Prop := q1 /\ True;
let q3 : Int := (6 : Int);
let q4 : Int := (0 : Int);
∀ (x : List (List Int) × List Int × Unit),
 let q5 : Sp.VSt := Sp.runS (Sp.start (Sp.made x.1 q3)) x.2.1 (6 : Nat);
 let q6 : Bool := decide (Sp.grE q5 = q4);
 let q7 : Prop := (true && bif q6 then true else false) = true;
 let q8 : Prop := q7 -> True;
 let q9 : Prop := (Sp.Ax.evs q4 (Sp.madeP x.1 q3)).length <= (1000 : Nat);
 let q10 : List (Int × Sp.LOp × Int × Unit) × List Int × List (List Int) × List Int × Unit := Sp.grA q5;
 let q11 : Bool := bif q6 then Sp.Ax.right (Sp.made x.1 q3) q10 else false;
 let q12 : Prop := (true && bif q11 then true else false) = true;
 let q13 : Prop := q12 -> True;
 let q14 : Bool := bif q11 then Sp.Ax.allowed (Sp.made x.1 q3) q10 else false;
 True -> aD (Ty.arr (4 : Nat) (Ty.int IntKind.u8)).slice x.1 /\ aD (Ty.int IntKind.u8).slice x.2.1 /\ True -> q0 /\ q2 /\ q2 /\ ((!Sp.exOK) = true -> q0 /\ false = true) /\ ((!Sp.exOK) = false -> ((True /\ ((0 : (AK.val tI).den) <= q3 /\ q3 <= (6 : (AK.val tI).den)) /\ True /\ True) /\ True /\ True) /\ ((True /\ True /\ Sp.valid (Sp.made x.1 q3) = true /\ True /\ True) /\ True /\ True) /\ ((True /\ True /\ Sp.OkS q5 /\ True /\ True /\ q1) /\ q1) /\ ((True /\ True /\ True /\ ((true && true) = true -> True) /\ True /\ True /\ q8 /\ q8 /\ (q7 -> q9) /\ True /\ True /\ q13 /\ q13 /\ (q12 -> q9) /\ True /\ True /\ ((true && bif q14 then true else false) = true -> True) /\ q1) /\ True) /\ (bif q14 then Sp.exOK else false) = true)) := by kernel_rfl
end Go.User
namespace Go.User
open Go.Lf Go.Proofs
set_option maxRecDepth 100000 in
theorem ok10 : FOk Try.prog 10 S10 := by
 have hC : aJ Try.prog C10 := okC (aG ok11 (aG ok12 (aG ok23 (aG ok27 (aG Go.User.Ax.ok32 (aG Go.User.Ax.ok33 fns_nil)))))) rfl rfl rfl rfl rfl rfl rfl
 refine FOk.intro hC (aW hC) Try.call10 Try.func10 (by kernel_rfl) (by kernel_rfl) L10 (vc10.mpr ?_)
 simp only [zz, zy]
 have hex := ex_ok
 intro y hk
 have hl : ∀ v ∈ y.2.1, 0 <= v := fun v hv => (hk.2.2 v hv).1
 clear hk
 have hv := Sp.made_valid (x := y.1) (n := 6) (by omega) (by omega)
 have hM := Sp.total_made (x := y.1) (n := 6) (by omega) (by omega)
 have hmd : Sp.made y.1 6 = (Sp.madeP y.1 6, ()) := rfl
 generalize Sp.made y.1 6 = t at hmd hv ⊢
 generalize Sp.madeP y.1 6 = P at hM hmd ⊢
 subst hmd
 generalize y.2.1 = l at hl ⊢
 clear y
 have hdone := Sp.run_done hv hl
 have hreach := Sp.run_reach (s := Sp.start (P, ())) hl 6
 generalize Sp.runS (Sp.start (P, ())) l 6 = R at hdone hreach ⊢
 obtain ⟨m1, m2, m3, m4⟩ := hM
 have hlit : R.1 = (P, ()) := hreach.lit
 obtain ⟨X, D⟩ := Sp.end_of hv hreach hdone
 have hE0 : Sp.grE R = 0 := by unfold Sp.grE; rw [if_pos hdone]
 have hA : Sp.grA R = Sp.bF R := by unfold Sp.grA; rw [if_pos hdone]
 have hev : (Sp.Ax.evs 0 P).length <= 1000 := by
  have h1 := Sp.evs_evL (P, ())
  have h2 := Sp.evL_len (P, ())
  rw [<- h1] at h2;have h2 : (Sp.Ax.evs 0 P).length = Sp.aB P := h2;omega
 have hr : Sp.Ax.right (P, ()) (Sp.bF R) = true := by
  rw [<- hlit]; exact (Sp.Ax.right_iff _ _).2 (D.right (by rw [hlit]; exact hv))
 have ha : Sp.Ax.allowed (P, ()) (Sp.bF R) = true := by
  rw [<- hlit]; exact D.allowed (by rw [hlit]; exact hv)
 rw [hex, hE0, hA, hr, ha]
 exact ⟨fun h => (by cases h), fun _ => ⟨⟨by decide, by decide⟩, hv, D.fin.good.ok, ⟨fun _ => hev, fun _ => hev⟩, by decide⟩⟩
end Go.User
namespace Go.Proofs.Ythhclebbpbkgdaa
open Go.ChangeShapes Go.WideShapes Go.ChangeAt Go.RowKit Go.Proofs Go.Lf

set_option maxRecDepth 100000 in
theorem viewAllowed_lifted (hF : FOk Try.prog 10 Go.User.S10) (os : Os) (started : os.Started) (H : Type) (enc : TypeId × Value -> H) :
  ReturnsInHanded {} Try.checked os 10 .any (Rows.viewAllowedSpec.pre6 enc Try.prog Try.f10 Rows.viewAllowedRow.domain false) (Rows.viewAllowedSpec.post enc Try.prog Try.f10 false true false false) := by
 refine returnsInHanded_of_change_sized (C := Try.checked) Try.own started (by kernel_rfl) Try.func10
  (ChangeSpec.witness6 (enc := enc) (C := Try.checked) false ⟨#[], #[.slice none 0 0, .slice none 0 0], []⟩ 8 (by kernel_rfl) (by kernel_rfl) (by kernel_rfl) (by kernel_rfl)) ?_
 intro W base args ds gs before hval0 hW _ hsz0 _
 have hsz : (DataW.weightsEach Try.prog (Try.f10.params.toList ++ Rows.viewAllowedSpec.plain.varTypes Try.prog) (ds ++ gs)).all (· <= reachBytes) = true := hsz0
 clear hsz0
 have hval : ∀ (j : Nat) t v, Try.f10.params[j]? = some t -> args[j]? = some v -> Value.okWide Try.prog W .any base t v := hval0
 have hW' := hW
 obtain ⟨p, q, hA0, hV, rfl, _, _⟩ := hW
 have hA : DataW.TrodAll enc Try.prog W 0 (fun _ => true) true Try.f10.params.toList args.toList ds p := hA0
 rw [Try.params10] at hA hval hsz
 obtain ⟨v0, v1, d0, d1, p0, p1, rfl, rfl, rfl, h0, h1⟩ := trodAll_two hA
 obtain ⟨rfl, rfl⟩ := trodVars_none hV
 clear hA0 hval0
 simp only [List.append_nil, List.append_assoc] at hW'
 have hlt0 : ∀ x ∈ p0, x.block < W.heap.size := fun x hx => hW'.lt x (by simp [hx])
 have hlt1 : ∀ x ∈ p1, x.block < W.heap.size := fun x hx => hW'.lt x (by simp [hx])
 obtain ⟨x0, hx0⟩ := arg_of (τ := Go.User.tRaw) (by kernel_rfl) (hval 0 23 v0 rfl rfl) h0 hlt0 (sz_of hsz (j := 0) rfl rfl)
 obtain ⟨x1, hx1⟩ := arg_of (τ := .slice (.int .u8)) (by kernel_rfl) (hval 1 57 v1 rfl rfl) h1 hlt1 (sz_of hsz (j := 1) rfl rfl)
 have hcall := hF.2 W (fun b => b < W.heap.size) [v0, v1] (x0, x1, ()) (fun b h => h) ⟨v0, [v1], rfl, hx0, v1, [], rfl, hx1, rfl⟩ trivial
 refine hcall.mono ?_
 rintro e W' ⟨v, F', S', rfl, hb, _, _, _, _, hv⟩
 have hv : aP F' W' .bool .shr S' v true := hv
 have := hv.bool_eq
 subst this
 have hargs0 := Below.trod Try.laidOut (by kernel_rfl) (of_decide_eq_true (by kernel_rfl)) h0 hb hlt0
 have hargs1 := Below.trod Try.laidOut (by kernel_rfl) (of_decide_eq_true (by kernel_rfl)) h1 hb hlt1
 refine ⟨_, rfl, _, _, _, [], p0 ++ p1, [], hW', ?_, trodAll_mk2 hargs0 hargs1, rfl, hb.frame _, fun h => by cases h⟩
 exact trodAll_mk1 (shut_bool Try.underlying4 true)

theorem viewAllowed_holds : Rows.ViewAllowedSaid :=
 OpenClaim.holds_of_wide 10 Try.f10 rfl rfl rfl rfl rfl rfl rfl ⟨rfl, rfl, rfl, rfl, rfl⟩ rfl rfl rfl rfl rfl (by kernel_rfl) Try.func10 (by kernel_rfl)
  (of_decide_eq_true (by kernel_rfl)) (by unfold Func.isWrapper; first | (rw [if_pos (by decide +kernel)]; kernel_rfl) | (rw [if_neg (by decide +kernel)]; exact ⟨rfl, rfl⟩))
  (fun os started H enc _ => viewAllowed_lifted Go.User.ok10 os started H enc)
end Go.Proofs.Ythhclebbpbkgdaa
