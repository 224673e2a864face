/- Orders: plain facts. Written by gen.py: what is left to show of each function. Orders: what they should. Orders: masks and places. -/
import Derived.Test.YtdcbiadlojcaoaaLfm
set_option linter.unusedVariables false
set_option linter.unusedSimpArgs false
namespace Sp
theorem all_range {f : Nat -> Bool} {n : Nat} : (List.range n).all f = true ↔ ∀ i, i < n -> f i = true := by
 rw [List.all_eq_true]
 exact ⟨fun h i hi => h i (List.mem_range.2 hi), fun h i hi => h i (List.mem_range.1 hi)⟩
theorem mem_of (l : List Int) (n : Int) : mem l n = true ↔ n ∈ l := decide_eq_true_iff
theorem nmem_of {l : List Int} {n : Int} (h : mem l n = false) : n ∉ l := fun e => by rw [(mem_of l n).2 e] at h; cases h
theorem rdyB_iff (dep : Inst -> Inst -> Bool) (l : List Inst) (out : List Int) (n : Nat) : rdyB dep l out n = true ↔ (n : Int) ∉ out /\ ∀ i, i < n -> (i : Int) ∈ out ∨ dep (insAt l i) (insAt l n) = false := by
 unfold rdyB
 rw [Bool.and_eq_true, all_range]
 refine and_congr ?_ ?_
 ·rw [Bool.not_eq_true', <- Bool.not_eq_true, mem_of]
 ·refine forall_congr' fun i => imp_congr Iff.rfl ?_
  rw [Bool.or_eq_true, mem_of, Bool.not_eq_true']
theorem nxS_spec (rdy ld : Nat -> Bool) : ∀ k, (nxS rdy ld k = -1 /\ ∀ i, i < k -> rdy i = false) ∨
  ∃ m, m < k /\ nxS rdy ld k = (m : Int) /\ rdy m = true /\ ((ld m = true /\ ∀ i, i < m -> ¬(rdy i = true /\ ld i = true)) ∨ (ld m = false /\ (∀ i, i < k -> rdy i = true -> ld i = false) /\ ∀ i, i < m -> rdy i = false))
 | 0 => .inl ⟨rfl, fun i hi => by omega⟩
 | k + 1 => by
  have e : nxS rdy ld (k + 1) = if (rdy k && (decide (nxS rdy ld k < 0) || ld k && !ld (nxS rdy ld k).toNat)) = true then (k : Int) else nxS rdy ld k := rfl
  rcases nxS_spec rdy ld k with ⟨h1, h2⟩ | ⟨m, hm, h1, h2, h3⟩
  ·rw [h1] at e
   cases hr : rdy k
   ·left
    refine ⟨by rw [e, hr]; rfl, fun i hi => ?_⟩
    rcases Nat.lt_succ_iff_lt_or_eq.1 hi with h | h
    ·exact h2 i h
    ·rw [h]; exact hr
   ·right
    refine ⟨k, Nat.lt_succ_self k, by rw [e, hr]; rfl, hr, ?_⟩
    cases hl : ld k
    ·refine .inr ⟨rfl, fun i hi hri => ?_, h2⟩
     rcases Nat.lt_succ_iff_lt_or_eq.1 hi with h | h
     ·rw [h2 i h] at hri; cases hri
     ·rw [h]; exact hl
    ·refine .inl ⟨rfl, fun i hi hri => ?_⟩
     rw [h2 i hi] at hri;cases hri.1
  ·rw [h1] at e
   have hn : ¬ ((m : Int) < 0) := by omega
   rw [decide_eq_false hn, Bool.false_or, Int.toNat_natCast] at e;cases hc : (rdy k && (ld k && !ld m))
   ·rw [hc] at e
    right
    refine ⟨m, by omega, e, h2, ?_⟩
    rcases h3 with h3 | ⟨g1, g2, g3⟩
    ·exact .inl h3
    ·refine .inr ⟨g1, fun i hi hri => ?_, g3⟩
     rcases Nat.lt_succ_iff_lt_or_eq.1 hi with h | h
     ·exact g2 i h hri
     ·rw [h] at hri ⊢
      rw [hri, g1] at hc
      simpa using hc
   ·rw [hc] at e
    simp only [Bool.and_eq_true, Bool.not_eq_true'] at hc;obtain ⟨c1, c2, c3⟩ := hc;right;refine ⟨k, Nat.lt_succ_self k, e, c1, .inl ⟨c2, fun i hi hri => ?_⟩⟩
    rcases h3 with ⟨g1, _⟩ | ⟨g1, g2, g3⟩
    ·rw [g1] at c3; cases c3
    ·rw [g2 i hi hri.1] at hri
     cases hri.2
theorem nxS_stay (rdy ld : Nat -> Bool) {i : Nat} (h1 : rdy i = true) (h2 : ld i = true) (h3 : ∀ k, k < i -> ¬(rdy k = true /\ ld k = true)) : ∀ k, i < k -> nxS rdy ld k = (i : Int) := by
 intro k hk
 rcases nxS_spec rdy ld k with ⟨g1, g2⟩ | ⟨m, hm, g1, g2, g3⟩
 ·rw [g2 i hk] at h1; cases h1
 ·rw [g1]
  rcases g3 with ⟨k1, k2⟩ | ⟨k1, k2, k3⟩
  ·rcases Nat.lt_trichotomy m i with h | h | h
   ·exact absurd ⟨g2, k1⟩ (h3 m h)
   ·rw [h]
   ·exact absurd ⟨h1, h2⟩ (k2 i h)
  ·rw [k2 i hk h1] at h2; cases h2
theorem ordN_len (f : List Int -> Int) : ∀ k, (ordN f k).length = k
 | 0 => rfl
 | k + 1 => by
  show (ordN f k ++ [f (ordN f k)]).length = k + 1
  rw [List.length_append, ordN_len f k]; rfl
theorem lstO_len (dep : Inst -> Inst -> Bool) (l : List Inst) : (lstO dep l).length = l.length := ordN_len _ _
theorem some_missing {out : List Int} {n : Nat} (h : out.length < n) : ∃ i, i < n /\ (i : Int) ∉ out /\ ∀ j, j < i -> (j : Int) ∈ out := by
 have hex : ∃ i, i < n /\ (i : Int) ∉ out := by
  apply Classical.byContradiction
  intro hne;have hall : ∀ i, i < n -> (i : Int) ∈ out := fun i hi => Classical.byContradiction fun hc => hne ⟨i, hi, hc⟩
  have hnd : ((List.range n).map fun (i : Nat) => (i : Int)).Nodup := by
   unfold List.Nodup;exact List.pairwise_map.2 (List.Pairwise.imp (fun h => by omega) (List.nodup_range (n := n)))
  have := hnd.length_le_of_subset (l₂ := out) (by
   intro v hv;obtain ⟨i, hi, rfl⟩ := List.mem_map.1 hv;exact hall i (List.mem_range.1 hi))
  rw [List.length_map, List.length_range] at this;omega
 obtain ⟨i, hi⟩ := hex
 induction i using Nat.strongRecOn with
 | ind i ih =>
  rcases Classical.em (∃ j, j < i /\ (j : Int) ∉ out) with ⟨j, hj, hjo⟩ | hno
  ·exact ih j hj ⟨by omega, hjo⟩
  ·exact ⟨i, hi.1, hi.2, fun j hj => Classical.byContradiction fun hc => hno ⟨j, hj, hc⟩⟩
theorem some_ready (dep : Inst -> Inst -> Bool) (l : List Inst) {out : List Int} {n : Nat} (h : out.length < n) : ∃ i, i < n /\ rdyB dep l out i = true := by
 obtain ⟨i, h1, h2, h3⟩ := some_missing h
 exact ⟨i, h1, (rdyB_iff dep l out i).2 ⟨h2, fun j hj => .inl (h3 j hj)⟩⟩
theorem stpO_spec (dep : Inst -> Inst -> Bool) (l : List Inst) {out : List Int} (h : out.length < l.length) : ∃ m, m < l.length /\ stpO dep l out = (m : Int) /\ rdyB dep l out m = true /\
  ((ldB l m = true /\ ∀ i, i < m -> ¬(rdyB dep l out i = true /\ ldB l i = true)) ∨ (ldB l m = false /\ (∀ i, i < l.length -> rdyB dep l out i = true -> ldB l i = false) /\ ∀ i, i < m -> rdyB dep l out i = false)) := by
 rcases nxS_spec (rdyB dep l out) (ldB l) l.length with ⟨g1, g2⟩ | h
 ·obtain ⟨i, h1, h2⟩ := some_ready dep l h
  rw [g2 i h1] at h2; cases h2
 ·exact h
theorem ordN_ok (dep : Inst -> Inst -> Bool) (l : List Inst) : ∀ k, k <= l.length -> (ordN (stpO dep l) k).Nodup /\ ∀ v ∈ ordN (stpO dep l) k, 0 <= v /\ v < (l.length : Int)
 | 0, _ => ⟨List.nodup_nil, fun v hv => (List.not_mem_nil hv).elim⟩
 | k + 1, hk => by
  obtain ⟨h1, h2⟩ := ordN_ok dep l k (by omega);obtain ⟨m, hm, e, hr, _⟩ := stpO_spec dep l (out := ordN (stpO dep l) k) (by rw [ordN_len]; omega);have hn := ((rdyB_iff dep l _ m).1 hr).1;show (ordN (stpO dep l) k ++ [stpO dep l (ordN (stpO dep l) k)]).Nodup /\ ∀ v ∈ ordN (stpO dep l) k ++ [stpO dep l (ordN (stpO dep l) k)], _;rw [e];refine ⟨List.nodup_append.2 ⟨h1, List.nodup_cons.2 ⟨List.not_mem_nil, List.nodup_nil⟩, ?_⟩, ?_⟩
  ·intro a ha b hb hab
   rw [List.mem_singleton] at hb;rw [hab, hb] at ha;exact hn ha
  ·intro v hv
   rcases List.mem_append.1 hv with hv | hv
   ·exact h2 v hv
   ·rw [List.mem_singleton] at hv
    rw [hv]; omega
theorem perm_in : ∀ {n : Nat} {x : List Int}, x.length = n -> (∀ i, i < n -> (i : Int) ∈ x) -> x.Nodup /\ ∀ k ∈ x, 0 <= k /\ k < (n : Int)
 | 0, x, hl, _ => by
  have : x = [] := List.eq_nil_of_length_eq_zero hl
  subst this;exact ⟨List.nodup_nil, fun k hk => (List.not_mem_nil hk).elim⟩
 | n + 1, x, hl, h => by
  have hm := h n (by omega)
  have hp := List.perm_cons_erase hm
  have hlen : (x.erase (n : Int)).length = n := by
   have := hp.length_eq
   simp only [List.length_cons] at this;omega
  have hall : ∀ i, i < n -> (i : Int) ∈ x.erase (n : Int) := by
   intro i hi;exact (List.mem_erase_of_ne (by omega)).2 (h i (by omega))
  obtain ⟨h1, h2⟩ := perm_in hlen hall;have hnot : (n : Int) ∉ x.erase (n : Int) := fun hc => by have := h2 _ hc; omega
  refine ⟨hp.nodup_iff.2 (List.nodup_cons.2 ⟨hnot, h1⟩), fun k hk => ?_⟩
  rcases List.mem_cons.1 (hp.mem_iff.1 hk) with rfl | hk
  ·omega
  ·have := h2 k hk; omega
theorem in_perm {n : Nat} {x : List Int} (hl : x.length = n) (hn : x.Nodup) (hr : ∀ k ∈ x, 0 <= k /\ k < (n : Int)) : ∀ i, i < n -> (i : Int) ∈ x := by
 intro i hi
 apply Classical.byContradiction
 intro hc
 have hnd : ((i : Int) :: x).Nodup := List.nodup_cons.2 ⟨hc, hn⟩
 have := hnd.length_le_of_subset (l₂ := (List.range n).map fun (i : Nat) => (i : Int)) (by
  intro v hv;rw [List.mem_map];rcases List.mem_cons.1 hv with rfl | hv
  ·exact ⟨i, List.mem_range.2 hi, rfl⟩
  ·have := hr v hv
   exact ⟨v.toNat, List.mem_range.2 (by omega), by omega⟩)
 rw [List.length_map, List.length_range, List.length_cons] at this
 omega
theorem rgtB_iff (dep : Inst -> Inst -> Bool) (l : List Inst) (x : List Int) : rgtB dep l x = true ↔ x.length = l.length /\ (∀ n, n < l.length -> (n : Int) ∈ x) /\ ∀ i, i < x.length -> ∀ j, j < x.length -> badP dep l x i j = false := by
 unfold rgtB
 rw [Bool.and_eq_true, Bool.and_eq_true, decide_eq_true_iff, all_range, all_range, and_assoc]
 refine and_congr Iff.rfl (and_congr ?_ ?_)
 ·exact forall_congr' fun n => imp_congr Iff.rfl (mem_of x _)
 ·refine forall_congr' fun i => imp_congr Iff.rfl ?_
  rw [all_range];exact forall_congr' fun j => imp_congr Iff.rfl (by rw [Bool.not_eq_true'])
theorem badP_iff (dep : Inst -> Inst -> Bool) (l : List Inst) (x : List Int) (i j : Nat) : badP dep l x i j = true ↔ i < j /\ xAt x j < xAt x i /\ dep (insAt l (xAt x i).toNat) (insAt l (xAt x j).toNat) = true := by
 unfold badP
 rw [Bool.and_eq_true, Bool.and_eq_true, decide_eq_true_iff, decide_eq_true_iff, and_assoc]
theorem rgtB_perm {dep : Inst -> Inst -> Bool} {l : List Inst} {x : List Int} (h : rgtB dep l x = true) : x.length = l.length /\ x.Nodup /\ (∀ k ∈ x, 0 <= k /\ k < (l.length : Int)) /\ ∀ n, n < l.length -> (n : Int) ∈ x := by
 obtain ⟨h1, h2, _⟩ := (rgtB_iff dep l x).1 h
 obtain ⟨h3, h4⟩ := perm_in h1 h2
 exact ⟨h1, h3, h4, h2⟩
theorem blkAt_mem {c : Code} {b : Nat} (h : b < (cB c).length) : blkAt c b ∈ cB c := by
 unfold blkAt
 rw [List.getD_eq_getElem?_getD, List.getElem?_eq_getElem h]
 exact List.getElem_mem h
theorem getD_map_range {α : Type} (f : Nat -> α) {n b : Nat} (h : b < n) (d : α) : ((List.range n).map f).getD b d = f b := by
 rw [List.getD_eq_getElem?_getD, List.getElem?_map, List.getElem?_range h]; rfl
theorem reoN_len (c : Code) (X : List (List Int)) (n : Nat) : (reoN c X n).length = (cB c).length := by unfold reoN; rw [List.length_map, List.length_range]
theorem reoN_at (c : Code) (X : List (List Int)) (n : Nat) {b : Nat} (h : b < (cB c).length) (d : Block) : (reoN c X n).getD b d = if b < n then reoK c X b else blkAt c b := getD_map_range _ h d
theorem ext_getD {α : Type} {a b : List α} (d : α) (hl : a.length = b.length) (h : ∀ i, i < a.length -> a.getD i d = b.getD i d) : a = b := by
 apply List.ext_getElem hl
 intro i h1 h2
 have := h i h1
 rwa [List.getD_eq_getElem?_getD, List.getD_eq_getElem?_getD, List.getElem?_eq_getElem h1, List.getElem?_eq_getElem h2] at this
theorem getD_set {α : Type} (a : List α) (i j : Nat) (v d : α) (hi : i < a.length) : (a.set i v).getD j d = if i = j then v else a.getD j d := by
 rw [List.getD_eq_getElem?_getD, List.getD_eq_getElem?_getD, List.getElem?_set]
 split
 ·rfl
 ·rfl
theorem reoN_zero (c : Code) (X : List (List Int)) : reoN c X 0 = cB c := by
 refine ext_getD blk0 (reoN_len c X 0) fun b hb => ?_
 rw [reoN_len] at hb
 rw [reoN_at c X 0 hb, if_neg (by omega)]; rfl
theorem reoN_succ (c : Code) (X : List (List Int)) {n : Nat} (h : n < (cB c).length) : reoN c X (n + 1) = (reoN c X n).set n (reoK c X n) := by
 refine ext_getD blk0 (by rw [List.length_set, reoN_len, reoN_len]) fun b hb => ?_
 rw [reoN_len] at hb
 rw [reoN_at c X (n + 1) hb, getD_set _ _ _ _ _ (by rw [reoN_len]; exact h), reoN_at c X n hb]
 rcases Nat.lt_trichotomy b n with g | g | g
 ·rw [if_pos (by omega), if_neg (by omega), if_pos g]
 ·rw [if_pos (by omega), if_pos g.symm, g]
 ·rw [if_neg (by omega), if_neg (by omega), if_neg (by omega)]
theorem reoM_len (c : Code) (X : List (List Int)) (n k : Nat) : (reoM c X n k).length = (cB c).length := by unfold reoM; rw [List.length_set, reoN_len]
theorem reoM_at (c : Code) (X : List (List Int)) {n : Nat} (k : Nat) (h : n < (cB c).length) (d : Block) : (reoM c X n k).getD n d = (reoL (blkAt c n).1 ((xsAt X n).take k), (blkAt c n).2) := by
 unfold reoM
 rw [getD_set _ _ _ _ _ (by rw [reoN_len]; exact h), if_pos rfl]
theorem reoM_zero (c : Code) (X : List (List Int)) {n : Nat} (h : n < (cB c).length) (d : Block) : (reoN c X n).set n ([], ((reoN c X n).getD n d).2) = reoM c X n 0 := by
 unfold reoM
 rw [reoN_at c X n h, if_neg (by omega)]
 rfl
theorem set_set' {α : Type} (a : List α) (i : Nat) (v w : α) : (a.set i v).set i w = a.set i w := List.set_set ..
theorem reoM_succ (c : Code) (X : List (List Int)) {n k : Nat} (h : n < (cB c).length) (hk : (k : Int) < ((xsAt X n).length : Int)) (d : Block) (dx : Int) (di : Inst) (hdi : di = inst0) :
  (reoM c X n k).set n (((reoM c X n k).getD n d).1 ++ (blkAt c n).1.getD ((xsAt X n).getD k dx).toNat di :: [], ((reoM c X n k).getD n d).2) = reoM c X n (k + 1) := by
 rw [reoM_at c X k h]
 have hk' : k < (xsAt X n).length := by omega
 have e : reoL (blkAt c n).1 ((xsAt X n).take (k + 1)) = reoL (blkAt c n).1 ((xsAt X n).take k) ++ (blkAt c n).1.getD ((xsAt X n).getD k dx).toNat di :: [] := by
  unfold reoL;rw [List.take_add_one, List.getElem?_eq_getElem hk', List.map_append, List.getD_eq_getElem?_getD (l := xsAt X n), List.getElem?_eq_getElem hk', hdi]
  rfl
 unfold reoM
 rw [set_set', e]
theorem reoM_end (c : Code) (X : List (List Int)) {n k : Nat} (h : n < (cB c).length) (hk : ((xsAt X n).length : Int) <= (k : Int)) : reoM c X n k = reoN c X (n + 1) := by
 rw [reoN_succ c X h]
 unfold reoM reoK
 rw [List.take_of_length_le (by omega)]
theorem runX_len (dep : Code -> Inst -> Inst -> Bool) (c : Code) : (runX dep c).length = (cB c).length := List.length_map _
theorem runX_at (dep : Code -> Inst -> Inst -> Bool) (c : Code) {b : Nat} (h : b < (cB c).length) : xsAt (runX dep c) b = lstO (dep c) (blkAt c b).1 := by
 unfold xsAt runX blkAt
 rw [List.getD_eq_getElem?_getD, List.getElem?_map, List.getElem?_eq_getElem h, List.getD_eq_getElem?_getD, List.getElem?_eq_getElem h]
 rfl
theorem xsR_succ (dep : Code -> Inst -> Inst -> Bool) (c : Code) {b : Nat} (h : b < (cB c).length) (d : Block) (hd : d = blk0) : xsR dep c b ++ lstO (dep c) ((cB c).getD b d).1 :: [] = xsR dep c (b + 1) := by
 unfold xsR
 rw [List.take_add_one, List.getElem?_eq_getElem h, List.map_append, List.getD_eq_getElem?_getD, List.getElem?_eq_getElem h]
 rfl
theorem xsR_end (dep : Code -> Inst -> Inst -> Bool) (c : Code) {b : Nat} (h : (cB c).length <= b) : xsR dep c b = runX dep c := by
 unfold xsR runX
 rw [List.take_of_length_le h]
theorem lstO_ok (dep : Inst -> Inst -> Bool) (l : List Inst) : (lstO dep l).Nodup /\ ∀ v ∈ lstO dep l, 0 <= v /\ v < (l.length : Int) := ordN_ok dep l l.length (Nat.le_refl _)
end Sp
namespace Go.User
theorem vOK.blk {c : Sp.Code} (h : vOK c) {b : Nat} (hb : b < (Sp.cB c).length) : lOK c (Sp.blkAt c b).1 := ⟨h.1.2.2.2 _ (Sp.blkAt_mem hb), h.2 _ (Sp.blkAt_mem hb)⟩
theorem rgt_orOK {dep : Sp.Code -> Sp.Inst -> Sp.Inst -> Bool} {c : Sp.Code} {X : List (List Int)} (hc : codeOK 3000 c) (hl : X.length = (Sp.cB c).length) (h : ∀ b, b < (Sp.cB c).length -> Sp.rgtB (dep c) (Sp.blkAt c b).1 (Sp.xsAt X b) = true) : orOK c X := by
 intro b hb
 obtain ⟨h1, h2, h3, _⟩ := Sp.rgtB_perm (h b hb)
 exact ⟨by rw [hl]; exact hb, by rw [h1]; exact hc.2.2.2 _ (Sp.blkAt_mem hb), h3⟩
end Go.User
namespace Go.User
open Go.Proofs Go.Lf
set_option maxRecDepth 100000
theorem vc53 : (funI C53 (stpS C53) S53 L53 Try.f53) = (
let q0 : Int := (7 : Int);
let q1 : Int := (8 : Int);
let q2 : Int := (9 : Int);
let q3 : Int := (0 : Int);
let q4 : Prop := True /\ True /\ True;
let q5 : Prop := (True /\ q4) /\ True;
let q6 : Prop := (True /\ True) /\ True;
let q7 : Sp.Opd := (q3, q3, q3, ());
let q8 : Sp.Inst := (q3, q3, q3, q7, q7, q7, q7, ());
let q9 : Int := (1 : Int);
∀ (x : Sp.Code × List Sp.Inst × List Int × Int × Unit),
 let q10 : Int := (↑(Sp.cA x.1).length : Int);
 let q11 : Nat := x.2.1.length;
 let q12 : Bool := Sp.mem x.2.2.1 x.2.2.2.1;
 let q13 : Nat := x.2.2.2.1.toNat;
 let q14 : Bool := Sp.rdyB (Sp.depR x.1) x.2.1 x.2.2.1 q13;
 let q15 : Prop := q6 /\ false = q14;
 let q16 : Prop := x.1 = x.1 /\ x.2.1 = x.2.1 /\ x.2.2.1 = x.2.2.1 /\ x.2.2.2.1 = x.2.2.2.1 /\ True;
 let q17 : Sp.Inst := x.2.1.getD q13 q8;
 let q18 : Int := Sp.opI q17;
 let q19 : Int := Sp.nI q17;
 (x.2.1.length <= (3000 : Nat) /\ ∀ (i : Sp.Inst), i ∈ x.2.1 -> Sp.opI i = q0 ∨ Sp.opI i = q1 ∨ Sp.opI i = q2 -> q3 <= Sp.nI i /\ Sp.nI i < q10) /\ (0 : (AK.val tI).den) <= x.2.2.2.1 /\ x.2.2.2.1 < (↑q11 : Int) ->
 dFact tCode x.1 /\ dFact tInst.slice x.2.1 /\ dFact tI.slice x.2.2.1 /\ dFact tI x.2.2.2.1 /\ True ->
 (q4 /\ True) /\
 q5 /\
 (q12 = true -> q15) /\
 (q12 = false ->
 q6 /\
 (∃ (x_1 : Nat), (x_1 <= q13 /\ ((List.range x_1).all fun (i : Nat) => Sp.mem x.2.2.1 (↑i : Int) || !Sp.depR x.1 (Sp.insAt x.2.1 i) (Sp.insAt x.2.1 q13)) = true) /\ q3 = (↑x_1 : Int) /\ q16) /\
 ∀ (x_1 : Nat),
 let q20 : Bool := decide ((↑x_1 : Int) < x.2.2.2.1);
 let q21 : Bool := !Sp.mem x.2.2.1 (↑x_1 : Int);
 let q22 : Prop := (true && bif q21 then true else false) = true;
 let q23 : Prop := q22 -> True;
 let q24 : Sp.Inst := x.2.1.getD (↑x_1 : Int).toNat q8;
 let q25 : Int := Sp.opI q24;
 let q26 : Int := Sp.nI q24;
 let q27 : Bool := bif q21 then Sp.depR x.1 q24 q17 else false;
 let q28 : Int := (↑x_1 : Int) + q9;
 x_1 <= q13 /\ ((List.range x_1).all fun (i : Nat) => Sp.mem x.2.2.1 (↑i : Int) || !Sp.depR x.1 (Sp.insAt x.2.1 i) (Sp.insAt x.2.1 q13)) = true -> dFact tI (↑x_1 : Int) /\ True -> q5 /\ (q20 = true -> ((True /\ True /\ True /\ True /\ True /\ q23 /\ q23 /\ q23 /\ (q22 -> inN (↑x_1 : Int) q11) /\ q23 /\ q23 /\ q23 /\ (q22 -> inN x.2.2.2.1 q11) /\ q23 /\ (q22 -> (q25 = q0 ∨ q25 = q1 ∨ q25 = q2 -> q3 <= q26 /\ q26 < q10) /\ (q18 = q0 ∨ q18 = q1 ∨ q18 = q2 -> q3 <= q19 /\ q19 < q10)) /\ True /\ True) /\ True) /\ (q27 = true -> q15) /\ (q27 = false -> ((True /\ inK IntKind.i64 q28 /\ True /\ True) /\ True) /\ ∃ (y : Nat), (y <= q13 /\ ((List.range y).all fun (i : Nat) => Sp.mem x.2.2.1 (↑i : Int) || !Sp.depR x.1 (Sp.insAt x.2.1 i) (Sp.insAt x.2.1 q13)) = true) /\ q13 - y < q13 - x_1 /\ q28 = (↑y : Int) /\ q16)) /\ (q20 = false -> q6 /\ true = q14))) := by kernel_rfl
theorem vc43 : (funI C43 (stpS C43) S43 L43 Try.f43) = (
let q0 : Prop := (True /\ True) /\ True;
let q1 : Prop := True /\ True /\ True;
let q2 : Prop := True /\ q1;
let q3 : Int := (0 : Int);
let q4 : Sp.Opd := (q3, q3, q3, ());
let q5 : Sp.Inst := (q3, q3, q3, q4, q4, q4, q4, ());
let q6 : Int := (1 : Int);
∀ (x : List Sp.Inst × List Int × Unit),
 let q7 : Nat := x.2.1.length;
 let q8 : Nat := x.1.length;
 let q9 : Int := (↑q7 : Int);
 let q10 : Prop := q9 = q9;
 let q11 : Prop := x.2.1 = x.2.1;
 let q12 : Prop := q11 /\ x.1 = x.1 /\ q11 /\ True;
 (q7 <= (5000 : Nat) /\ ∀ (k : Int), k ∈ x.2.1 -> (0 : tI.den) <= k /\ k < (↑q8 : Int)) ->
 dFact tInst.slice x.1 /\ dFact tI.slice x.2.1 /\ True ->
 q0 /\
 ((True /\ True /\ ((0 : tI.den) <= q9 /\ q9 <= q9 /\ q9 <= maxNew) /\ True) /\ True /\ True) /\
 (q2 /\ True) /\
 (∃ (x_1 : Nat), x_1 <= q7 /\ q3 = (↑x_1 : Int) /\ q10 /\ List.replicate q9.toNat q5 = Sp.reoL x.1 (List.take x_1 x.2.1) ++ List.replicate (q7 - x_1) Sp.inst0 /\ q12) /\
 ∀ (x_1 : Nat),
 let q13 : Nat := q7 - x_1;
 let q14 : List Sp.Inst := Sp.reoL x.1 (List.take x_1 x.2.1) ++ List.replicate q13 Sp.inst0;
 let q15 : Bool := decide ((↑x_1 : Int) < q9);
 let q16 : Nat := (↑x_1 : Int).toNat;
 let q17 : Int := x.2.1.getD q16 q3;
 let q18 : Int := (↑x_1 : Int) + q6;
 x_1 <= q7 ->
 dFact tI (↑x_1 : Int) /\ dFact tI q9 /\ dFact tInst.slice q14 /\ True ->
 q0 /\
 (q15 = true ->
 ((True /\ inN (↑x_1 : Int) q7 /\ q2) /\ True) /\
 ((True /\ True /\ True /\ True /\ inN q17 q8 /\ True /\ inN (↑x_1 : Int) q14.length /\ True) /\ True /\ True) /\
 ((inK IntKind.i64 q18 /\ True /\ True) /\ True) /\
 ∃ (y : Nat),
 let q19 : Nat := q7 - y;
 y <= q7 /\ q19 < q13 /\ q18 = (↑y : Int) /\ q10 /\ q14.set q16 (x.1.getD q17.toNat q5) = Sp.reoL x.1 (List.take y x.2.1) ++ List.replicate q19 Sp.inst0 /\ q12) /\
 (q15 = false -> (q1 /\ True) /\ q14 = Sp.reoL x.1 x.2.1)) := by kernel_rfl
theorem vc23 : (funI C23 (stpS C23) S23 L23 Try.f23) = (
let q0 : Nat := (3000 : Nat);
let q1 : Int := (0 : Int);
let q2 : Nat := (2 : Nat);
let q3 : Prop := True /\ True /\ True;
let q4 : Prop := True /\ q3;
let q5 : Nat := (5000 : Nat);
let q6 : Prop := (True /\ True) /\ True;
let q7 : Sp.Code := (q1, q1, q1, q1, q1, ([] : List tArr.den), ([] : List tLoop.den), ([] : List tBlk.den), ());
let q8 : Prop := q7 = q7;
let q9 : Prop := q8 /\ True;
let q10 : Prop := True /\ True /\ q4;
let q11 : Sp.Opd := (q1, q1, q1, ());
let q12 : Sp.Block := (([] : List tInst.den), (q1, q1, q11, q11, q11, List.replicate q2 q1, ()), ());
let q13 : Sp.Inst := (q1, q1, q1, q11, q11, q11, q11, ());
let q14 : Prop := Step.fst = Step.fst /\ True;
let q15 : Prop := Step.snd = Step.snd /\ Step.snd = Step.snd /\ Step.snd = Step.snd /\ Step.snd = Step.snd /\ Step.snd = Step.snd /\ Step.snd = Step.snd /\ Step.snd = Step.snd /\ q14;
let q16 : Prop := True /\ True /\ True /\ True /\ True /\ True /\ True /\ True /\ True /\ True /\ True /\ True /\ True /\ True /\ True /\ q10;
let q17 : Int := (1 : Int);
∀ (x : Sp.Done),
 let q18 : Nat := (Sp.cA x.1).length;
 let q19 : Nat := (Sp.cL x.1).length;
 let q20 : Nat := (Sp.cB x.1).length;
 let q21 : Prop := x.1 = x.1;
 let q22 : Prop := x.2.1 = x.2.1;
 let q23 : Prop := q21 /\ q22 /\ q9;
 let q24 : Int × List Sp.Arr × List Sp.Opd × List Sp.Block × Unit := x.1.2.2.2.2;
 let q25 : List Sp.Arr × List Sp.Opd × List Sp.Block × Unit := q24.2;
 let q26 : List Sp.Opd × List Sp.Block × Unit := q25.2;
 let q27 : List Sp.Block := q26.2.1;
 let q28 : Nat := q27.length;
 let q29 : Int := x.1.2.2.2.1;
 let q30 : Int := q24.1;
 let q31 : List Sp.Arr := q25.1;
 let q32 : List Sp.Opd := q26.1;
 let q33 : Nat := x.2.1.1.length;
 ((q18 <= q0 /\ q19 <= q0 /\ q20 <= q0 /\ ∀ (b : Sp.Block), b ∈ Sp.cB x.1 -> b.1.length <= q0) /\
 ∀ (b : Nat),
 let q34 : List Int := Sp.xsAt x.2.1.1 b;
 b < q20 -> b < x.2.1.1.length /\ q34.length <= q0 /\ ∀ (k : Int), k ∈ q34 -> q1 <= k /\ k < (↑(Sp.blkAt x.1 b).1.length : Int)) ->
 dFact (tI.prod (tI.prod (tI.prod (tI.prod (tI.prod (tArr.slice.prod (tLoop.slice.prod ((tInst.slice.prod ((tI.prod (tI.prod (tOpd.prod (tOpd.prod (tOpd.prod ((Ty.arr q2 tI).prod Ty.unit)))))).prod Ty.unit)).slice.prod Ty.unit)))))))) x.1 /\ dFact tOrd x.2.1 /\ True ->
 (q4 /\ True) /\
 ((True /\ (q18 <= q5 /\ q19 <= q5 /\ q20 <= q5 /\ ∀ (b : Sp.Block), b ∈ Sp.cB x.1 -> b.1.length <= q5) /\ True /\ True) /\ True /\ True) /\
 q6 /\
 (∃ (x_1 : Nat), x_1 <= q20 /\ x.1 = Sp.setB x.1 (Sp.reoN x.1 x.2.1.1 x_1) /\ q1 = (↑x_1 : Int) /\ q23) /\
 ∀ (x_1 : Nat),
 let q35 : List Sp.Block := Sp.reoN x.1 x.2.1.1 x_1;
 let q36 : Sp.Code := Sp.setB x.1 q35;
 let q37 : Bool := decide ((↑x_1 : Int) < (↑q28 : Int));
 let q38 : Nat := (Sp.xsAt x.2.1.1 x_1).length;
 let q39 : Nat := (↑x_1 : Int).toNat;
 let q40 : Prop := q21 /\ q22 /\ q8 /\ (↑x_1 : Int) = (↑x_1 : Int) /\ True;
 let q41 : Prop := inN (↑x_1 : Int) q33;
 let q42 : List Int := x.2.1.1.getD q39 (([] : List tI.den));
 let q43 : Nat := q42.length;
 let q44 : List Sp.Inst := (q27.getD q39 q12).1;
 let q45 : List Step := Step.snd :: Step.snd :: Step.snd :: Step.snd :: Step.snd :: Step.snd :: Step.snd :: Step.fst :: Step.idx q39 :: Step.fst :: ([] : List Step);
 let q46 : Int := (↑x_1 : Int) + q17;
 x_1 <= q20 ->
 dFact (tI.prod (tI.prod (tI.prod (tI.prod (tI.prod (tArr.slice.prod (tLoop.slice.prod ((tInst.slice.prod ((tI.prod (tI.prod (tOpd.prod (tOpd.prod (tOpd.prod ((Ty.arr q2 tI).prod Ty.unit)))))).prod Ty.unit)).slice.prod Ty.unit)))))))) q36 /\ dFact tI (↑x_1 : Int) /\ True ->
 (q10 /\ True) /\
 (q37 = true ->
 ((True /\ True /\ True /\ True /\ inN (↑x_1 : Int) q35.length /\ True /\ True) /\ True /\ True) /\
 q6 /\
 (∃ (x_2 : Nat), x_2 <= q38 /\ (x.1.1, x.1.2.1, x.1.2.2.1, q29, q30, q31, q32, q35.set q39 (([] : List tInst.den), (q35.getD q39 q12).2), ()) = Sp.setB x.1 (Sp.reoM x.1 x.2.1.1 x_1 x_2) /\ q1 = (↑x_2 : Int) /\ q40) /\
 ∀ (x_2 : Nat),
 let q47 : List Sp.Block := Sp.reoM x.1 x.2.1.1 x_1 x_2;
 let q48 : Sp.Code := Sp.setB x.1 q47;
 let q49 : Bool := decide ((↑x_2 : Int) < (↑q43 : Int));
 let q50 : Prop := inN (↑x_1 : Int) q47.length;
 let q51 : Int := q42.getD (↑x_2 : Int).toNat q1;
 let q52 : Sp.Block := q47.getD q39 q12;
 let q53 : List Sp.Inst := q52.1;
 let q54 : List Sp.Inst := q44.getD q51.toNat q13 :: ([] : List tInst.den);
 let q55 : Int := (↑x_2 : Int) + q17;
 x_2 <= q38 -> dFact (tI.prod (tI.prod (tI.prod (tI.prod (tI.prod (tArr.slice.prod (tLoop.slice.prod ((tInst.slice.prod ((tI.prod (tI.prod (tOpd.prod (tOpd.prod (tOpd.prod ((Ty.arr q2 tI).prod Ty.unit)))))).prod Ty.unit)).slice.prod Ty.unit)))))))) q48 /\ dFact tI (↑x_2 : Int) /\ True -> ((True /\ True /\ True /\ True /\ q41 /\ q4) /\ True) /\ (q49 = true -> (((True /\ True /\ True /\ True /\ True /\ True /\ q50 /\ True /\ True /\ True /\ True /\ True /\ inN (↑x_1 : Int) q28 /\ True /\ True /\ True /\ True /\ True /\ q41 /\ True /\ True /\ inN (↑x_2 : Int) q43 /\ True /\ inN q51 q44.length /\ True /\ True /\ (↑(q53.length + q54.length) : Int) <= maxNew /\ q50 /\ True /\ True) /\ True /\ True /\ True /\ True /\ True /\ True /\ True /\ True /\ True /\ True /\ True /\ True /\ True /\ True /\ True /\ True /\ True /\ True /\ True /\ True /\ True /\ True /\ True /\ True /\ True /\ True /\ ((True /\ q15 /\ True /\ True /\ q15 /\ True /\ True /\ True /\ (Step.snd = Step.snd /\ Step.snd = Step.snd /\ Step.snd = Step.snd /\ Step.snd = Step.snd /\ Step.snd = Step.snd /\ Step.snd = Step.snd /\ Step.snd = Step.snd /\ Step.fst = Step.fst /\ Step.idx q39 = Step.idx q39 /\ q14) /\ q16) /\ True /\ True /\ True /\ True /\ True /\ True /\ True /\ True /\ True /\ True /\ True /\ True /\ True /\ True /\ True /\ True /\ True /\ True /\ True /\ True /\ True /\ True /\ True /\ True /\ True /\ True /\ True /\ True /\ True /\ True /\ True /\ True /\ True /\ True /\ True /\ True /\ True /\ True /\ True /\ True /\ True /\ True /\ True /\ q16) /\ q3) /\ q45 = q45 /\ True) /\ ((True /\ inK IntKind.i64 q55 /\ True /\ True) /\ True) /\ ∃ (y : Nat), y <= q38 /\ q38 - y < q38 - x_2 /\ (x.1.1, x.1.2.1, x.1.2.2.1, q29, q30, q31, q32, q47.set q39 (q53 ++ q54, q52.2), ()) = Sp.setB x.1 (Sp.reoM x.1 x.2.1.1 x_1 y) /\ q55 = (↑y : Int) /\ q40) /\ (q49 = false -> ((True /\ inK IntKind.i64 q46 /\ True /\ True) /\ True) /\ ∃ (y : Nat), y <= q20 /\ q20 - y < q20 - x_1 /\ q48 = Sp.setB x.1 (Sp.reoN x.1 x.2.1.1 y) /\ q46 = (↑y : Int) /\ q23)) /\
 (q37 = false -> ((True /\ True) /\ True /\ True) /\ q36 = Sp.reoC x.1 x.2.1.1)) := by kernel_rfl
theorem vc22 : (funI C22 (stpS C22) S22 L22 Try.f22) = (
let q0 : Nat := (3000 : Nat);
let q1 : Int := (0 : Int);
let q2 : Nat := (2 : Nat);
let q3 : Prop := True /\ True /\ True;
let q4 : Prop := (True /\ True) /\ True;
let q5 : List (List Int) := ([] : List tI.slice.den);
let q6 : Sp.Ord := (q5, ());
let q7 : Prop := q6 = q6;
let q8 : Prop := q7 /\ True;
let q9 : Prop := True /\ q3;
let q10 : Prop := True /\ q9;
let q11 : Prop := (True /\ q10) /\ True;
let q12 : Prop := (True /\ True) /\ True /\ True;
let q13 : Sp.Opd := (q1, q1, q1, ());
let q14 : Sp.Block := (([] : List tInst.den), (q1, q1, q13, q13, q13, List.replicate q2 q1, ()), ());
let q15 : Prop := q10 /\ True;
let q16 : Int := (1 : Int);
let q17 : Nat := q1.toNat;
let q18 : List Step := Step.fst :: ([] : List Step);
∀ (x : Sp.Code × List Int × Unit),
 let q19 : Nat := (Sp.cA x.1).length;
 let q20 : Nat := (Sp.cB x.1).length;
 let q21 : Prop := x.1 = x.1;
 let q22 : Prop := x.2.1 = x.2.1;
 let q23 : Prop := q21 /\ q22 /\ q8;
 let q24 : List Sp.Block := x.1.2.2.2.2.2.2.2.1;
 let q25 : Nat := q24.length;
 let q26 : Nat := x.2.1.length;
 ((q19 <= q0 /\ (Sp.cL x.1).length <= q0 /\ q20 <= q0 /\ ∀ (b : Sp.Block), b ∈ Sp.cB x.1 -> b.1.length <= q0) /\ ∀ (b : Sp.Block), b ∈ Sp.cB x.1 -> ∀ (i : Sp.Inst), i ∈ b.1 -> Sp.opI i = (7 : Int) ∨ Sp.opI i = (8 : Int) ∨ Sp.opI i = (9 : Int) -> q1 <= Sp.nI i /\ Sp.nI i < (↑q19 : Int)) ->
 dFact (tI.prod (tI.prod (tI.prod (tI.prod (tI.prod (tArr.slice.prod (tLoop.slice.prod ((tInst.slice.prod ((tI.prod (tI.prod (tOpd.prod (tOpd.prod (tOpd.prod ((Ty.arr q2 tI).prod Ty.unit)))))).prod Ty.unit)).slice.prod Ty.unit)))))))) x.1 /\ dFact tU8.slice x.2.1 /\ True ->
 (q3 /\ True) /\
 (q3 /\ True /\ True) /\
 q4 /\
 q4 /\
 (∃ (x_1 : Nat), x_1 <= q20 /\ q6 = (Sp.somX x.1 x.2.1 x_1, ()) /\ q1 = (↑(Sp.lenTo x.1 x_1) : Int) /\ q1 = (↑x_1 : Int) /\ q23) /\
 ∀ (x_1 : Nat),
 let q27 : List (List Int) := Sp.somX x.1 x.2.1 x_1;
 let q28 : Sp.Ord := (q27, ());
 let q29 : Int := (↑(Sp.lenTo x.1 x_1) : Int);
 let q30 : Bool := decide ((↑x_1 : Int) < (↑q25 : Int));
 let q31 : List Sp.Inst := (Sp.blkAt x.1 x_1).1;
 let q32 : Nat := q31.length;
 let q33 : Prop := q28 = q28;
 let q34 : Prop := (↑x_1 : Int) = (↑x_1 : Int);
 let q35 : List Sp.Inst := (q24.getD (↑x_1 : Int).toNat q14).1;
 let q36 : Prop := q35 = q35;
 let q37 : Prop := q21 /\ q22 /\ q7 /\ q33 /\ q34 /\ q36 /\ True;
 let q38 : Int := (↑q35.length : Int);
 let q39 : Int := (↑x_1 : Int) + q16;
 x_1 <= q20 ->
 dFact tOrd q28 /\ dFact tI q29 /\ dFact tI (↑x_1 : Int) /\ True ->
 q11 /\
 (q30 = true ->
 ((True /\ True /\ True /\ inN (↑x_1 : Int) q25 /\ q9) /\ True) /\
 q12 /\
 (∃ (x_2 : Nat), x_2 <= q32 /\ q29 = (↑(Sp.lenTo x.1 x_1 + x_2) : Int) /\ ([] : List tI.den) = Sp.somL x.1 x.2.1 (Sp.lenTo x.1 x_1) q31 x_2 /\ q37) /\
 ∀ (x_2 : Nat),
 let q40 : Int := (↑(Sp.lenTo x.1 x_1 + x_2) : Int);
 let q41 : List Int := Sp.somL x.1 x.2.1 (Sp.lenTo x.1 x_1) q31 x_2;
 let q42 : Nat := q41.length;
 let q43 : Bool := decide ((↑q42 : Int) < q38);
 let q44 : Prop := q21 /\ q22 /\ q7 /\ q33 /\ q40 = q40 /\ q34 /\ q36 /\ q41 = q41 /\ True;
 let q45 : Bool := decide (q40 < (↑q26 : Int));
 let q46 : Int := q40 + q16;
 let q47 : Prop := (True /\ inK IntKind.i64 q46 /\ True /\ True) /\ True;
 let q48 : Int := x.2.1.getD q40.toNat q1;
 let q49 : List (List Int) := q41 :: q5;
 x_2 <= q32 ->
 dFact tI q40 /\ dFact tI.slice q41 /\ True ->
 q11 /\
 (q43 = true ->
 q12 /\
 q4 /\
 (∃ (x_3 : Nat), x_3 <= q32 /\ ([] : List tI.den) = Sp.canL x.1 q31 q41 x_3 /\ q1 = (↑x_3 : Int) /\ q44) /\
 ∀ (x_3 : Nat),
 let q50 : List Int := Sp.canL x.1 q31 q41 x_3;
 let q51 : Bool := decide ((↑x_3 : Int) < q38);
 let q52 : Bool := Sp.rdyB (Sp.depR x.1) q35 q41 (↑x_3 : Int).toNat;
 let q53 : Nat := q50.length;
 let q54 : List Int := (↑x_3 : Int) :: ([] : List tI.den);
 let q55 : Int := (↑x_3 : Int) + q16;
 let q56 : Prop := (True /\ inK IntKind.i64 q55 /\ True /\ True) /\ True;
 let q57 : Int := (↑q53 : Int);
 let q58 : Int := q48.tmod q57;
 let q59 : List Int := q50.getD q58.toNat q1 :: ([] : List tI.den);
 let q60 : List Int := q50.getD q17 q1 :: ([] : List tI.den);
 x_3 <= q32 -> dFact tI.slice q50 /\ dFact tI (↑x_3 : Int) /\ True -> q15 /\ (q51 = true -> ((True /\ True /\ True /\ True /\ ((q35.length <= q0 /\ ∀ (i : Sp.Inst), i ∈ q35 -> Sp.opI i = (7 : Int) ∨ Sp.opI i = (8 : Int) ∨ Sp.opI i = (9 : Int) -> q1 <= Sp.nI i /\ Sp.nI i < (↑q19 : Int)) /\ (0 : (AK.val tI).den) <= (↑x_3 : Int) /\ (↑x_3 : Int) < q38) /\ True) /\ True) /\ (q52 = true -> (q9 /\ (↑(q53 + q54.length) : Int) <= maxNew /\ True /\ True) /\ q56 /\ ∃ (y : Nat), y <= q32 /\ q32 - y < q32 - x_3 /\ q50 ++ q54 = Sp.canL x.1 q31 q41 y /\ q55 = (↑y : Int) /\ q44) /\ (q52 = false -> q56 /\ ∃ (y : Nat), y <= q32 /\ q32 - y < q32 - x_3 /\ q50 = Sp.canL x.1 q31 q41 y /\ q55 = (↑y : Int) /\ q44)) /\ (q51 = false -> q4 /\ q15 /\ (q45 = true -> ((True /\ True /\ inN q40 q26 /\ True /\ True /\ True /\ True /\ q57 ≠ q1 /\ True /\ True) /\ True) /\ q47 /\ ((True /\ True /\ True /\ inN q58 q53 /\ q3) /\ (↑(q42 + q59.length) : Int) <= maxNew /\ True /\ True) /\ ∃ (y : Nat), y <= q32 /\ q32 - y < q32 - x_2 /\ q46 = (↑(Sp.lenTo x.1 x_1 + y) : Int) /\ q41 ++ q59 = Sp.somL x.1 x.2.1 (Sp.lenTo x.1 x_1) q31 y /\ q37) /\ (q45 = false -> q47 /\ ((True /\ True /\ True /\ inN q1 q53 /\ q3) /\ (↑(q42 + q60.length) : Int) <= maxNew /\ True /\ True) /\ ∃ (y : Nat), y <= q32 /\ q32 - y < q32 - x_2 /\ q46 = (↑(Sp.lenTo x.1 x_1 + y) : Int) /\ q41 ++ q60 = Sp.somL x.1 x.2.1 (Sp.lenTo x.1 x_1) q31 y /\ q37))) /\
 (q43 = false -> (q10 /\ (↑(q27.length + q49.length) : Int) <= maxNew /\ True /\ q18 = q18 /\ True) /\ ((True /\ inK IntKind.i64 q39 /\ True /\ True) /\ True) /\ ∃ (y : Nat), y <= q20 /\ q20 - y < q20 - x_1 /\ (q27 ++ q49, ()) = (Sp.somX x.1 x.2.1 y, ()) /\ q40 = (↑(Sp.lenTo x.1 y) : Int) /\ q39 = (↑y : Int) /\ q23)) /\
 (q30 = false -> q12 /\ q28 = (Sp.somX x.1 x.2.1 q20, ()))) := by kernel_rfl
theorem vc59 : (funIT C59 (stpS C59) S59 T59 Try.f59) = (
let q0 : Nat := (3000 : Nat);
let q1 : Int := (7 : Int);
let q2 : Int := (0 : Int);
let q3 : Prop := True /\ True /\ True;
let q4 : Prop := q3 /\ True;
let q5 : Prop := (True /\ True) /\ True;
let q6 : Prop := True /\ q3;
let q7 : Int := (1 : Int);
let q8 : Sp.Opd := (q2, q2, q2, ());
∀ (x : Sp.Code × List Sp.Inst × Unit),
 let q9 : Prop := x.2.1.length <= q0 /\ ∀ (i : Sp.Inst), i ∈ x.2.1 -> Sp.opI i = q1 ∨ Sp.opI i = (8 : Int) ∨ Sp.opI i = (9 : Int) -> q2 <= Sp.nI i /\ Sp.nI i < (↑(Sp.cA x.1).length : Int);
 let q10 : Nat := x.2.1.length;
 let q11 : Int := (↑q10 : Int);
 let q12 : Prop := x.2.1 = x.2.1;
 let q13 : List (List Bool) := Sp.mskL (Sp.depP x.1) x.2.1;
 let q14 : Prop := q13 = q13;
 let q15 : Prop := x.1 = x.1;
 let q16 : Prop := q12 /\ q14 /\ q15 /\ True;
 let q17 : Prop := q11 = q11;
 q9 ->
 dFact tCode x.1 /\ dFact tInst.slice x.2.1 /\ True ->
 q4 /\
 ((True /\ True /\ q9 /\ True /\ True) /\ True) /\
 ((True /\ True /\ ((0 : tI.den) <= q11 /\ q11 <= q11 /\ q11 <= maxNew) /\ True) /\ True /\ True) /\
 q5 /\
 (∃ (x_1 : Nat),
 let q18 : List Int := Sp.ordN (Sp.stpO (Sp.depP x.1) x.2.1) x_1;
 x_1 <= q10 /\ q18 = ([] : List tI.den) /\ List.replicate q11.toNat false = Sp.doneL q18 q10 /\ q16) /\
 ∀ (x_1 : Nat),
 let q19 : List Int := Sp.ordN (Sp.stpO (Sp.depP x.1) x.2.1) x_1;
 let q20 : List Bool := Sp.doneL q19 q10;
 let q21 : Nat := q19.length;
 let q22 : Bool := decide ((↑q21 : Int) < q11);
 let q23 : Prop := q20 = q20;
 let q24 : Prop := q19 = q19;
 let q25 : Prop := q12 /\ q15 /\ q14 /\ q23 /\ q24 /\ True;
 let q26 : Nat := q20.length;
 let q27 : Int := Sp.stpO (Sp.depP x.1) x.2.1 q19;
 let q28 : List Int := q27 :: ([] : List tI.den);
 x_1 <= q10 ->
 dFact tI.slice q19 /\ dFact Ty.bool.slice q20 /\ True ->
 ((True /\ True /\ q6) /\ True) /\
 (q22 = true ->
 q5 /\
 ((q6 /\ True) /\
 (∃ (x_2 : Nat), (x_2 <= q10 /\ ∀ (k : Nat), k < x_2 -> ¬(Sp.rdyB (Sp.depP x.1) x.2.1 q19 k = true /\ Sp.ldB x.2.1 k = true)) /\ q2 = (↑x_2 : Int) /\ q17 /\ -q7 = Sp.nxS (Sp.rdyB (Sp.depP x.1) x.2.1 q19) (Sp.ldB x.2.1) x_2 /\ q25) /\
 ∀ (x_2 : Nat),
 let q29 : Prop := dFact tI (↑x_2 : Int);
 let q30 : Int := Sp.nxS (Sp.rdyB (Sp.depP x.1) x.2.1 q19) (Sp.ldB x.2.1) x_2;
 let q31 : Bool := decide ((↑x_2 : Int) < q11);
 let q32 : Nat := (↑x_2 : Int).toNat;
 let q33 : Bool := q20.getD q32 false;
 let q34 : Int := (↑x_2 : Int) + q7;
 let q35 : Prop := (inK IntKind.i64 q34 /\ True /\ True) /\ True;
 let q36 : Prop := q35 /\ ∃ (y : Nat), (y <= q10 /\ ∀ (k : Nat), k < y -> ¬(Sp.rdyB (Sp.depP x.1) x.2.1 q19 k = true /\ Sp.ldB x.2.1 k = true)) /\ q10 - y < q10 - x_2 /\ q34 = (↑y : Int) /\ q17 /\ q30 = Sp.nxS (Sp.rdyB (Sp.depP x.1) x.2.1 q19) (Sp.ldB x.2.1) y /\ q25;
 let q37 : List Bool := q13.getD q32 (([] : List Ty.bool.den));
 let q38 : Nat := q37.length;
 let q39 : Prop := (↑x_2 : Int) = (↑x_2 : Int);
 let q40 : Prop := q12 /\ q15 /\ q14 /\ q23 /\ q24 /\ q30 = q30 /\ q39 /\ q17 /\ q39 /\ q37 = q37 /\ True;
 let q41 : Bool := (x.2.1.getD q32 (q2, q2, q2, q8, q8, q8, q8, ())).1 == q1;
 let q42 : Bool := decide (q30 < q2);
 (x_2 <= q10 /\ ∀ (k : Nat), k < x_2 -> ¬(Sp.rdyB (Sp.depP x.1) x.2.1 q19 k = true /\ Sp.ldB x.2.1 k = true)) ->
 q29 /\ dFact tI q11 /\ dFact tI q30 /\ True ->
 q5 /\
 (q31 = true ->
 q4 /\
 ((True /\ True /\ inN (↑x_2 : Int) q26 /\ True /\ True) /\ True) /\
 (q33 = true -> q36) /\
 (q33 = false ->
 ((True /\ True /\ inN (↑x_2 : Int) q13.length /\ q6) /\ True) /\
 (∃ (x_3 : Nat), (x_3 <= x_2 /\ ((List.range x_3).all fun (j : Nat) => Sp.mem q19 (↑j : Int) || !Sp.depP x.1 (Sp.insAt x.2.1 j) (Sp.insAt x.2.1 x_2)) = true) /\ q2 = (↑x_3 : Int) /\ (↑q38 : Int) = (↑x_2 : Int) /\ q40) /\
 ∀ (x_3 : Nat),
 let q43 : Bool := decide ((↑x_3 : Int) < (↑x_2 : Int));
 let q44 : Nat := (↑x_3 : Int).toNat;
 let q45 : Bool := q37.getD q44 false;
 let q46 : Prop := (true && bif q45 then true else false) = true;
 let q47 : Prop := q46 -> True;
 let q48 : Bool := bif q45 then !q20.getD q44 false else false;
 let q49 : Int := (↑x_3 : Int) + q7;
 x_3 <= x_2 /\ ((List.range x_3).all fun (j : Nat) => Sp.mem q19 (↑j : Int) || !Sp.depP x.1 (Sp.insAt x.2.1 j) (Sp.insAt x.2.1 x_2)) = true -> dFact tI (↑x_3 : Int) /\ q29 /\ True -> q5 /\ (q43 = true -> ((True /\ inN (↑x_3 : Int) q38 /\ q6) /\ True) /\ ((True /\ True /\ q47 /\ q47 /\ (q46 -> inN (↑x_3 : Int) q26) /\ q47 /\ q47 /\ True /\ True) /\ True) /\ (q48 = true -> q36) /\ (q48 = false -> ((inK IntKind.i64 q49 /\ True /\ True) /\ True) /\ ∃ (y : Nat), (y <= x_2 /\ ((List.range y).all fun (j : Nat) => Sp.mem q19 (↑j : Int) || !Sp.depP x.1 (Sp.insAt x.2.1 j) (Sp.insAt x.2.1 x_2)) = true) /\ x_2 - y < x_2 - x_3 /\ q49 = (↑y : Int) /\ q39 /\ q40)) /\ (q43 = false -> ((True /\ True /\ inN (↑x_2 : Int) q10 /\ q6) /\ True) /\ (q41 = true -> q4 /\ ∃ (x : Unit), True /\ (↑x_2 : Int) = q27 /\ q25) /\ (q41 = false -> q4 /\ (q42 = true -> q4 /\ q35 /\ ∃ (y : Nat), (y <= q10 /\ ∀ (k : Nat), k < y -> ¬(Sp.rdyB (Sp.depP x.1) x.2.1 q19 k = true /\ Sp.ldB x.2.1 k = true)) /\ q10 - y < q10 - x_2 /\ q34 = (↑y : Int) /\ q17 /\ (↑x_2 : Int) = Sp.nxS (Sp.rdyB (Sp.depP x.1) x.2.1 q19) (Sp.ldB x.2.1) y /\ q25) /\ (q42 = false -> q36))))) /\
 (q31 = false -> ∃ (x : Unit), True /\ q30 = q27 /\ q25)) /\
 ∀ (x_2 : Unit),
 True ->
 dFact tI q27 /\ True ->
 ((True /\ True /\ inN q27 q26 /\ True) /\ True /\ True) /\
 (q6 /\ (↑(q21 + q28.length) : Int) <= maxNew /\ True /\ True) /\
 ∃ (y : Nat),
 let q50 : List Int := Sp.ordN (Sp.stpO (Sp.depP x.1) x.2.1) y;
 y <= q10 /\ q10 - y < q10 - x_1 /\ q19 ++ q28 = q50 /\ q20.set q27.toNat true = Sp.doneL q50 q10 /\ q16) /\
 (q22 = false -> q4 /\ q19 = Sp.lstO (Sp.depP x.1) x.2.1)) := by kernel_rfl
theorem vc41 : (funI C41 (stpS C41) S41 L41 Try.f41) = (
let q0 : Nat := (3000 : Nat);
let q1 : Int := (0 : Int);
let q2 : Prop := True /\ True /\ True;
let q3 : Prop := q2 /\ True;
let q4 : Prop := True /\ q2;
let q5 : Prop := q4 /\ True;
let q6 : Int := (1 : Int);
let q7 : Int := -q6;
let q8 : Prop := (True /\ True) /\ True;
∀ (x : Sp.Code × List Sp.Inst × List Int × Unit),
 let q9 : Prop := x.2.1.length <= q0 /\ ∀ (i : Sp.Inst), i ∈ x.2.1 -> Sp.opI i = (7 : Int) ∨ Sp.opI i = (8 : Int) ∨ Sp.opI i = (9 : Int) -> q1 <= Sp.nI i /\ Sp.nI i < (↑(Sp.cA x.1).length : Int);
 let q10 : Nat := x.2.1.length;
 let q11 : Int := (↑q10 : Int);
 let q12 : List Int := List.replicate q11.toNat q1;
 let q13 : Prop := x.2.2.1 = x.2.2.1;
 let q14 : Prop := x.1 = x.1 /\ x.2.1 = x.2.1 /\ q13 /\ True;
 let q15 : Prop := dFact tI q11;
 let q16 : Prop := q11 = q11;
 let q17 : Nat := x.2.2.1.length;
 let q18 : Int := (↑q17 : Int);
 let q19 : Prop := q18 = q18;
 let q20 : Prop := q13 /\ q14;
 let q21 : Bool := Sp.rgtB (Sp.depQ x.1) x.2.1 x.2.2.1;
 let q22 : Prop := q8 /\ false = q21;
 let q23 : Bool := q18 != q11;
 let q24 : List Int := Sp.atL x.2.2.1 q10 q17;
 let q25 : List (List Bool) := Sp.mskL (Sp.depP x.1) x.2.1;
 let q26 : Nat := q25.length;
 let q27 : Prop := q25 = q25;
 q9 ->
 dFact tCode x.1 /\ dFact tInst.slice x.2.1 /\ dFact tI.slice x.2.2.1 /\ True ->
 q3 /\
 ((True /\ True /\ ((0 : tI.den) <= q11 /\ q11 <= q11 /\ q11 <= maxNew) /\ True) /\ True /\ True) /\
 q5 /\
 (∃ (x : Nat), x <= q10 /\ q1 = (↑x : Int) /\ (↑q12.length : Int) = q11 /\ q12 = List.replicate x q7 ++ List.replicate (q10 - x) q1 /\ q14) /\
 ∀ (x_1 : Nat),
 let q28 : Nat := q10 - x_1;
 let q29 : List Int := List.replicate x_1 q7 ++ List.replicate q28 q1;
 let q30 : Bool := decide ((↑x_1 : Int) < q11);
 let q31 : Int := (↑x_1 : Int) + q6;
 x_1 <= q10 ->
 dFact tI (↑x_1 : Int) /\ q15 /\ dFact tI.slice q29 /\ True ->
 q8 /\
 (q30 = true ->
 q3 /\
 ((True /\ True /\ inN (↑x_1 : Int) q29.length /\ True) /\ True /\ True) /\
 ((inK IntKind.i64 q31 /\ True /\ True) /\ True) /\
 ∃ (y : Nat),
 let q32 : Nat := q10 - y;
 y <= q10 /\ q32 < q28 /\ q31 = (↑y : Int) /\ q16 /\ q29.set (↑x_1 : Int).toNat q7 = List.replicate y q7 ++ List.replicate q32 q1 /\ q14) /\
 (q30 = false ->
 q5 /\
 (∃ (x_2 : Nat),
 let q33 : List Int := List.take x_2 x.2.2.1;
 (x_2 <= q17 /\ q33.Nodup /\ ∀ (k : Int), k ∈ q33 -> q1 <= k /\ k < q11) /\ q1 = (↑x_2 : Int) /\ q19 /\ q29 = Sp.atL x.2.2.1 q10 x_2 /\ q20) /\
 ∀ (x_2 : Nat),
 let q34 : List Int := List.take x_2 x.2.2.1;
 let q35 : List Int := Sp.atL x.2.2.1 q10 x_2;
 let q36 : Bool := decide ((↑x_2 : Int) < q18);
 let q37 : Int := x.2.2.1.getD (↑x_2 : Int).toNat q1;
 let q38 : Bool := decide (q37 < q1);
 let q39 : Prop := (true && bif q38 then false else true) = true -> True;
 let q40 : Bool := bif q38 then true else decide (q37 ≥ q11);
 let q41 : Prop := (true && bif q40 then false else true) = true;
 let q42 : Prop := q41 -> True;
 let q43 : Nat := q35.length;
 let q44 : Prop := inN q37 q43;
 let q45 : Nat := q37.toNat;
 let q46 : Bool := bif q40 then true else decide (q35.getD q45 q1 ≥ q1);
 let q47 : Int := (↑x_2 : Int) + q6;
 let q48 : Prop := q35 = q35;
 let q49 : Prop := q27 /\ q48 /\ q14;
 (x_2 <= q17 /\ q34.Nodup /\ ∀ (k : Int), k ∈ q34 -> q1 <= k /\ k < q11) ->
 dFact tI (↑x_2 : Int) /\ dFact tI q18 /\ dFact tI.slice q35 /\ True ->
 q8 /\
 (q36 = true ->
 ((True /\ inN (↑x_2 : Int) q17 /\ q4) /\ True) /\
 ((True /\ True /\ True /\ q39 /\ q39 /\ q39 /\ q39 /\ True /\ True /\ q42 /\ q42 /\ (q41 -> q44) /\ q42 /\ q42 /\ True /\ True) /\ True) /\
 (q46 = true -> q22) /\
 (q46 = false ->
 ((True /\ True /\ True /\ q44 /\ True) /\ True /\ True) /\
 ((inK IntKind.i64 q47 /\ True /\ True) /\ True) /\
 ∃ (y : Nat),
 let q50 : List Int := List.take y x.2.2.1;
 (y <= q17 /\ q50.Nodup /\ ∀ (k : Int), k ∈ q50 -> q1 <= k /\ k < q11) /\ q17 - y < q17 - x_2 /\ q47 = (↑y : Int) /\ q19 /\ q35.set q45 (↑x_2 : Int) = Sp.atL x.2.2.1 q10 y /\ q20)) /\
 (q36 = false ->
 ((True /\ True /\ q4) /\ True) /\
 (q23 = true -> q22) /\
 (q23 = false ->
 ((True /\ True /\ q9 /\ q2) /\ True) /\
 (∃ (x_3 : Nat), (x_3 <= q10 /\ ∀ (k : Nat), k < x_3 -> ∀ (j : Nat), j < k -> Sp.depP x.1 (Sp.insAt x.2.1 j) (Sp.insAt x.2.1 k) = true -> Sp.xAt q24 j <= Sp.xAt q24 k) /\ q1 = (↑x_3 : Int) /\ (↑q26 : Int) = q11 /\ q49) /\
 ∀ (x_3 : Nat),
 let q51 : Prop := dFact tI (↑x_3 : Int);
 let q52 : Bool := decide ((↑x_3 : Int) < q11);
 let q53 : Nat := (↑x_3 : Int).toNat;
 let q54 : List Bool := q25.getD q53 (([] : List Ty.bool.den));
 let q55 : Nat := q54.length;
 let q56 : Prop := q54 = q54;
 let q57 : Prop := (↑x_3 : Int) = (↑x_3 : Int);
 let q58 : Prop := q56 /\ q27 /\ q16 /\ q57 /\ q48 /\ q57 /\ q56 /\ q14;
 let q59 : Int := (↑x_3 : Int) + q6;
 (x_3 <= q10 /\ ∀ (k : Nat), k < x_3 -> ∀ (j : Nat), j < k -> Sp.depP x.1 (Sp.insAt x.2.1 j) (Sp.insAt x.2.1 k) = true -> Sp.xAt q24 j <= Sp.xAt q24 k) ->
 q51 /\ q15 /\ True ->
 q8 /\
 (q52 = true ->
 ((True /\ inN (↑x_3 : Int) q26 /\ q4) /\ True) /\
 q5 /\
 (∃ (x_4 : Nat), (x_4 <= x_3 /\ ∀ (k : Nat), k < x_4 -> Sp.depP x.1 (Sp.insAt x.2.1 k) (Sp.insAt x.2.1 x_3) = true -> Sp.xAt q24 k <= Sp.xAt q24 x_3) /\ q1 = (↑x_4 : Int) /\ (↑q55 : Int) = (↑x_3 : Int) /\ q58) /\
 ∀ (x_4 : Nat),
 let q60 : Bool := decide ((↑x_4 : Int) < (↑x_3 : Int));
 let q61 : Nat := (↑x_4 : Int).toNat;
 let q62 : Bool := q54.getD q61 false;
 let q63 : Prop := (true && bif q62 then true else false) = true;
 let q64 : Prop := q63 -> True;
 let q65 : Bool := bif q62 then decide (q35.getD q61 q1 > q35.getD q53 q1) else false;
 let q66 : Int := (↑x_4 : Int) + q6;
 (x_4 <= x_3 /\ ∀ (k : Nat), k < x_4 -> Sp.depP x.1 (Sp.insAt x.2.1 k) (Sp.insAt x.2.1 x_3) = true -> Sp.xAt q24 k <= Sp.xAt q24 x_3) -> dFact tI (↑x_4 : Int) /\ q51 /\ True -> q8 /\ (q60 = true -> ((True /\ inN (↑x_4 : Int) q55 /\ q4) /\ True) /\ ((True /\ True /\ q64 /\ q64 /\ (q63 -> inN (↑x_4 : Int) q43) /\ q64 /\ q64 /\ q64 /\ (q63 -> inN (↑x_3 : Int) q43) /\ q64 /\ q64 /\ True /\ True) /\ True) /\ (q65 = true -> q22) /\ (q65 = false -> ((inK IntKind.i64 q66 /\ True /\ True) /\ True) /\ ∃ (y : Nat), (y <= x_3 /\ ∀ (k : Nat), k < y -> Sp.depP x.1 (Sp.insAt x.2.1 k) (Sp.insAt x.2.1 x_3) = true -> Sp.xAt q24 k <= Sp.xAt q24 x_3) /\ x_3 - y < x_3 - x_4 /\ q66 = (↑y : Int) /\ q57 /\ q58)) /\ (q60 = false -> ((inK IntKind.i64 q59 /\ True /\ True) /\ True) /\ ∃ (y : Nat), (y <= q10 /\ ∀ (k : Nat), k < y -> ∀ (j : Nat), j < k -> Sp.depP x.1 (Sp.insAt x.2.1 j) (Sp.insAt x.2.1 k) = true -> Sp.xAt q24 j <= Sp.xAt q24 k) /\ q10 - y < q10 - x_3 /\ q59 = (↑y : Int) /\ q16 /\ q49)) /\
 (q52 = false -> q8 /\ true = q21))))) := by kernel_rfl
theorem vc28 : (funI C28 (stpS C28) S28 L28 Try.f28) = (
let q0 : Nat := (3000 : Nat);
let q1 : Int := (0 : Int);
let q2 : Nat := (2 : Nat);
let q3 : Prop := True /\ True /\ True;
let q4 : Prop := True /\ q3;
let q5 : Prop := (True /\ True) /\ True;
let q6 : Nat := (5000 : Nat);
let q7 : Prop := True /\ q4;
let q8 : List (List Int) := ([] : List tI.slice.den);
let q9 : Sp.Ord := (q8, ());
let q10 : Sp.Code := (q1, q1, q1, q1, q1, ([] : List tArr.den), ([] : List tLoop.den), ([] : List tBlk.den), ());
let q11 : Prop := q10 = q10 /\ q9 = q9 /\ True;
let q12 : Sp.Opd := (q1, q1, q1, ());
let q13 : Sp.Block := (([] : List tInst.den), (q1, q1, q12, q12, q12, List.replicate q2 q1, ()), ());
let q14 : List Step := Step.fst :: ([] : List Step);
let q15 : Int := (1 : Int);
let q16 : Nat := (5 : Nat);
let q17 : Prop := ([] : List Step) = ([] : List Step);
let q18 : Nat := (4 : Nat);
let q19 : Prop := (True /\ q18 = q18 /\ q17) /\ True;
∀ (x : Sp.Code × Unit),
 let q20 : Nat := (Sp.cA x.1).length;
 let q21 : Nat := (Sp.cB x.1).length;
 let q22 : Int × List Sp.Arr × List Sp.Opd × List Sp.Block × Unit := x.1.2.2.2.2;
 let q23 : List Sp.Arr × List Sp.Opd × List Sp.Block × Unit := q22.2;
 let q24 : List Sp.Arr := q23.1;
 let q25 : List Sp.Opd × List Sp.Block × Unit := q23.2;
 let q26 : List Sp.Opd := q25.1;
 let q27 : List Sp.Block × Unit := q25.2;
 let q28 : List Sp.Block := q27.1;
 let q29 : Nat := q28.length;
 let q30 : Int := (↑q21 : Int);
 let q31 : Int := x.1.2.2.2.1;
 let q32 : Int := q22.1;
 let q33 : Prop := x.1 = x.1 /\ q11;
 ((q20 <= q0 /\ (Sp.cL x.1).length <= q0 /\ q21 <= q0 /\ ∀ (b : Sp.Block), b ∈ Sp.cB x.1 -> b.1.length <= q0) /\ ∀ (b : Sp.Block), b ∈ Sp.cB x.1 -> ∀ (i : Sp.Inst), i ∈ b.1 -> Sp.opI i = (7 : Int) ∨ Sp.opI i = (8 : Int) ∨ Sp.opI i = (9 : Int) -> q1 <= Sp.nI i /\ Sp.nI i < (↑q20 : Int)) ->
 dFact (tI.prod (tI.prod (tI.prod (tI.prod (tI.prod (tArr.slice.prod (tLoop.slice.prod ((tInst.slice.prod ((tI.prod (tI.prod (tOpd.prod (tOpd.prod (tOpd.prod ((Ty.arr q2 tI).prod Ty.unit)))))).prod Ty.unit)).slice.prod Ty.unit)))))))) x.1 /\ True ->
 (q4 /\ True) /\
 q5 /\
 (q3 /\ True /\ True) /\
 ((True /\ True /\ q24.length <= q6 /\ True /\ True /\ q26.length <= q6 /\ True /\ True /\ q29 <= q6 /\ True /\ True) /\ True /\ q7) /\
 (q7 /\ True) /\
 (∃ (x_1 : Nat), x_1 <= q21 /\ q1 = (↑x_1 : Int) /\ (↑q29 : Int) = q30 /\ q9 = (Sp.xsR Sp.depP x.1 x_1, ()) /\ (x.1.1, x.1.2.1, x.1.2.2.1, q31, q32, q24, q26, q28, q27.2) = Sp.setB x.1 (Sp.reoN x.1 (Sp.runX Sp.depP x.1) x_1) /\ q33) /\
 ∀ (x_1 : Nat),
 let q34 : List (List Int) := Sp.xsR Sp.depP x.1 x_1;
 let q35 : Sp.Ord := (q34, ());
 let q36 : List Sp.Block := Sp.reoN x.1 (Sp.runX Sp.depP x.1) x_1;
 let q37 : Sp.Code := Sp.setB x.1 q36;
 let q38 : Bool := decide ((↑x_1 : Int) < q30);
 let q39 : Prop := inN (↑x_1 : Int) q29;
 let q40 : Nat := (↑x_1 : Int).toNat;
 let q41 : List Sp.Inst := (q28.getD q40 q13).1;
 let q42 : List Int := Sp.lstO (Sp.depP x.1) q41;
 let q43 : List (List Int) := q42 :: q8;
 let q44 : Int := (↑x_1 : Int) + q15;
 x_1 <= q21 -> dFact tI (↑x_1 : Int) /\ dFact tI q30 /\ dFact tOrd q35 /\ dFact (tI.prod (tI.prod (tI.prod (tI.prod (tI.prod (tArr.slice.prod (tLoop.slice.prod ((tInst.slice.prod ((tI.prod (tI.prod (tOpd.prod (tOpd.prod (tOpd.prod ((Ty.arr q2 tI).prod Ty.unit)))))).prod Ty.unit)).slice.prod Ty.unit)))))))) q37 /\ True -> q5 /\ (q38 = true -> (q3 /\ True) /\ ((True /\ True /\ True /\ True /\ q39 /\ True /\ True /\ (q41.length <= q0 /\ ∀ (i : Sp.Inst), i ∈ q41 -> Sp.opI i = (7 : Int) ∨ Sp.opI i = (8 : Int) ∨ Sp.opI i = (9 : Int) -> q1 <= Sp.nI i /\ Sp.nI i < (↑q20 : Int)) /\ True /\ True) /\ True) /\ (q7 /\ (↑(q34.length + q43.length) : Int) <= maxNew /\ True /\ q14 = q14 /\ True) /\ ((True /\ True /\ True /\ True /\ True /\ True /\ q39 /\ True /\ True /\ True /\ (q42.length <= q6 /\ ∀ (k : Int), k ∈ q42 -> (0 : tI.den) <= k /\ k < (↑q41.length : Int)) /\ inN (↑x_1 : Int) q36.length /\ True /\ True) /\ True /\ True) /\ ((inK IntKind.i64 q44 /\ True /\ True) /\ True) /\ ∃ (y : Nat), y <= q21 /\ q21 - y < q21 - x_1 /\ q44 = (↑y : Int) /\ q30 = q30 /\ (q34 ++ q43, ()) = (Sp.xsR Sp.depP x.1 y, ()) /\ (x.1.1, x.1.2.1, x.1.2.2.1, q31, q32, q24, q26, q36.set q40 (Sp.reoL q41 q42, (q36.getD q40 q13).2), ()) = Sp.setB x.1 (Sp.reoN x.1 (Sp.runX Sp.depP x.1) y) /\ q33) /\ (q38 = false -> q3 /\ ((True /\ q16 = q16 /\ q17) /\ q19) /\ (True /\ True /\ q19 /\ (True /\ True /\ True /\ (q37, q35, ()) = (Sp.runC Sp.depP x.1, (Sp.runX Sp.depP x.1, ()), ())) /\ True) /\ True /\ True)) := by kernel_rfl
theorem vc18 : (funI C18 (stpS C18) S18 L18 Try.f18) = (
let q0 : Nat := (3000 : Nat);
let q1 : Int := (0 : Int);
let q2 : Nat := (2 : Nat);
let q3 : Prop := True /\ True /\ True;
let q4 : Prop := True /\ q3;
let q5 : Prop := (True /\ q4) /\ True;
let q6 : Prop := (True /\ True) /\ True;
let q7 : Int := (100 : Int);
let q8 : Sp.Opd := (q1, q1, q1, ());
let q9 : Sp.Block := (([] : List tInst.den), (q1, q1, q8, q8, q8, List.replicate q2 q1, ()), ());
let q10 : Int := (1 : Int);
∀ (x : Sp.Code × Sp.Done),
 let q11 : Nat := (Sp.cA x.1).length;
 let q12 : Nat := (Sp.cB x.1).length;
 let q13 : Bool := x.1.1 == x.2.1.1;
 let q14 : Prop := (true && bif q13 then true else false) = true -> True;
 let q15 : Bool := bif q13 then x.1.2.1 == x.2.1.2.1 else false;
 let q16 : Prop := (true && bif q15 then true else false) = true -> True;
 let q17 : Bool := bif q15 then x.1.2.2.1 == x.2.1.2.2.1 else false;
 let q18 : Prop := (true && bif q17 then true else false) = true -> True;
 let q19 : Int × Int × List Sp.Arr × List Sp.Opd × List Sp.Block × Unit := x.2.1.2.2.2;
 let q20 : Bool := bif q17 then x.1.2.2.2.1 == q19.1 else false;
 let q21 : Prop := (true && bif q20 then true else false) = true -> True;
 let q22 : Int × List Sp.Arr × List Sp.Opd × List Sp.Block × Unit := x.1.2.2.2.2;
 let q23 : Int × List Sp.Arr × List Sp.Opd × List Sp.Block × Unit := q19.2;
 let q24 : Bool := bif q20 then q22.1 == q23.1 else false;
 let q25 : Prop := (true && bif q24 then true else false) = true -> True;
 let q26 : List Sp.Arr × List Sp.Opd × List Sp.Block × Unit := q22.2;
 let q27 : List Sp.Arr × List Sp.Opd × List Sp.Block × Unit := q23.2;
 let q28 : Bool := bif q24 then Sp.eqArrs q26.1 q27.1 else false;
 let q29 : Prop := (true && bif q28 then true else false) = true -> True;
 let q30 : List Sp.Opd × List Sp.Block × Unit := q26.2;
 let q31 : List Sp.Opd × List Sp.Block × Unit := q27.2;
 let q32 : Bool := !bif q28 then Sp.eqLps q30.1 q31.1 else false;
 let q33 : Prop := (true && bif q32 then false else true) = true -> True;
 let q34 : List Sp.Block := q31.2.1;
 let q35 : Nat := q34.length;
 let q36 : List Sp.Block := q30.2.1;
 let q37 : Nat := q36.length;
 let q38 : Int := (↑q37 : Int);
 let q39 : Bool := bif q32 then true else (↑q35 : Int) != q38;
 let q40 : Prop := (true && bif q39 then false else true) = true -> True;
 let q41 : Nat := x.2.2.1.1.length;
 let q42 : Bool := bif q39 then true else (↑q41 : Int) != q38;
 let q43 : Int := Sp.chkP x.1 x.2.1 x.2.2.1.1;
 let q44 : Prop := q6 /\ q7 = q43;
 let q45 : Int := (↑q12 : Int);
 let q46 : Prop := x.1 = x.1 /\ x.2.1 = x.2.1 /\ x.2.2.1 = x.2.2.1 /\ True;
 ((q11 <= q0 /\ (Sp.cL x.1).length <= q0 /\ q12 <= q0 /\ ∀ (b : Sp.Block), b ∈ Sp.cB x.1 -> b.1.length <= q0) /\ ∀ (b : Sp.Block), b ∈ Sp.cB x.1 -> ∀ (i : Sp.Inst), i ∈ b.1 -> Sp.opI i = (7 : Int) ∨ Sp.opI i = (8 : Int) ∨ Sp.opI i = (9 : Int) -> q1 <= Sp.nI i /\ Sp.nI i < (↑q11 : Int)) ->
 dFact (tI.prod (tI.prod (tI.prod (tI.prod (tI.prod (tArr.slice.prod (tLoop.slice.prod ((tInst.slice.prod ((tI.prod (tI.prod (tOpd.prod (tOpd.prod (tOpd.prod ((Ty.arr q2 tI).prod Ty.unit)))))).prod Ty.unit)).slice.prod Ty.unit)))))))) x.1 /\ dFact (tI.prod (tI.prod (tI.prod (tI.prod (tI.prod (tArr.slice.prod (tLoop.slice.prod ((tInst.slice.prod ((tI.prod (tI.prod (tOpd.prod (tOpd.prod (tOpd.prod ((Ty.arr q2 tI).prod Ty.unit)))))).prod Ty.unit)).slice.prod Ty.unit)))))))) x.2.1 /\ dFact tOrd x.2.2.1 /\ True ->
 q5 /\
 ((True /\ True /\ True /\ True /\ True /\ True /\ q14 /\ q14 /\ q14 /\ q14 /\ q14 /\ True /\ True /\ q16 /\ q16 /\ q16 /\ q16 /\ q16 /\ True /\ True /\ q18 /\ q18 /\ q18 /\ q18 /\ q18 /\ True /\ True /\ q21 /\ q21 /\ q21 /\ q21 /\ q21 /\ True /\ True /\ q25 /\ q25 /\ q25 /\ q25 /\ q25 /\ True /\ True /\ q29 /\ q29 /\ q29 /\ q29 /\ q29 /\ q3) /\ True) /\
 ((True /\ True /\ True /\ q33 /\ q33 /\ q33 /\ q33 /\ q33 /\ q33 /\ q33 /\ True /\ True /\ q40 /\ q40 /\ q40 /\ q40 /\ q40 /\ q40 /\ q40 /\ True /\ True) /\ True) /\
 (q42 = true -> q44) /\
 (q42 = false ->
 q5 /\
 (∃ (x_1 : Nat), (x_1 <= q12 /\ Sp.headB x.1 x.2.1 = true /\ (Sp.cB x.2.1).length = q12 /\ q41 = q12 /\ ∀ (k : Nat), k < x_1 -> Sp.rgtB (Sp.depQ x.1) (Sp.blkAt x.1 k).1 (Sp.xsAt x.2.2.1.1 k) = true /\ Sp.reoK x.1 x.2.2.1.1 k = Sp.blkAt x.2.1 k) /\ q1 = (↑x_1 : Int) /\ q38 = q45 /\ q46) /\
 ∀ (x_1 : Nat),
 let q47 : Bool := decide ((↑x_1 : Int) < q45);
 let q48 : Prop := inN (↑x_1 : Int) q37;
 let q49 : Prop := inN (↑x_1 : Int) q35;
 let q50 : Nat := (↑x_1 : Int).toNat;
 let q51 : Sp.Block := q36.getD q50 q9;
 let q52 : Sp.Term := q51.2.1;
 let q53 : Sp.Block := q34.getD q50 q9;
 let q54 : Sp.Term := q53.2.1;
 let q55 : Int × Sp.Opd × Sp.Opd × Sp.Opd × List Int × Unit := q52.2;
 let q56 : Int × Sp.Opd × Sp.Opd × Sp.Opd × List Int × Unit := q54.2;
 let q57 : Sp.Opd × Sp.Opd × Sp.Opd × List Int × Unit := q55.2;
 let q58 : Sp.Opd := q57.1;
 let q59 : Sp.Opd × Sp.Opd × Sp.Opd × List Int × Unit := q56.2;
 let q60 : Sp.Opd := q59.1;
 let q61 : Int × Int × Unit := q58.2;
 let q62 : Int × Int × Unit := q60.2;
 let q63 : Sp.Opd × Sp.Opd × List Int × Unit := q57.2;
 let q64 : Sp.Opd := q63.1;
 let q65 : Sp.Opd × Sp.Opd × List Int × Unit := q59.2;
 let q66 : Sp.Opd := q65.1;
 let q67 : Int × Int × Unit := q64.2;
 let q68 : Int × Int × Unit := q66.2;
 let q69 : Sp.Opd × List Int × Unit := q63.2;
 let q70 : Sp.Opd := q69.1;
 let q71 : Sp.Opd × List Int × Unit := q65.2;
 let q72 : Sp.Opd := q71.1;
 let q73 : Int × Int × Unit := q70.2;
 let q74 : Int × Int × Unit := q72.2;
 let q75 : Bool := !(decide (q52.1 = q54.1) && (decide (q55.1 = q56.1) && (decide (q58.1 = q60.1) && (decide (q61.1 = q62.1) && (decide (q61.2.1 = q62.2.1) && true)) && (decide (q64.1 = q66.1) && (decide (q67.1 = q68.1) && (decide (q67.2.1 = q68.2.1) && true)) && (decide (q70.1 = q72.1) && (decide (q73.1 = q74.1) && (decide (q73.2.1 = q74.2.1) && true)) && (decide (q69.2.1 = q71.2.1) && true))))));
 let q76 : Prop := (true && bif q75 then false else true) = true;
 let q77 : Prop := q76 -> True;
 let q78 : Prop := inN (↑x_1 : Int) q41;
 let q79 : List Sp.Inst := q51.1;
 let q80 : List Int := x.2.2.1.1.getD q50 (([] : List tI.den));
 let q81 : Bool := bif q75 then true else !Sp.rgtB (Sp.depQ x.1) q79 q80;
 let q82 : Prop := (true && bif q81 then false else true) = true;
 let q83 : Prop := q82 -> True;
 let q84 : Bool := bif q81 then true else !Sp.eqIns (Sp.reoL q79 q80) q53.1;
 let q85 : Int := (↑x_1 : Int) + q10;
 (x_1 <= q12 /\ Sp.headB x.1 x.2.1 = true /\ (Sp.cB x.2.1).length = q12 /\ q41 = q12 /\ ∀ (k : Nat), k < x_1 -> Sp.rgtB (Sp.depQ x.1) (Sp.blkAt x.1 k).1 (Sp.xsAt x.2.2.1.1 k) = true /\ Sp.reoK x.1 x.2.2.1.1 k = Sp.blkAt x.2.1 k) -> dFact tI (↑x_1 : Int) /\ dFact tI q45 /\ True -> q6 /\ (q47 = true -> (q3 /\ True) /\ ((True /\ True /\ True /\ q48 /\ q4) /\ True) /\ ((True /\ True /\ True /\ q48 /\ True /\ True /\ True /\ True /\ True /\ q49 /\ True /\ True /\ True /\ True /\ q77 /\ q77 /\ q77 /\ q77 /\ q77 /\ (q76 -> q78) /\ q77 /\ (q76 -> q79.length <= q0 /\ ∀ (i : Sp.Inst), i ∈ q79 -> Sp.opI i = (7 : Int) ∨ Sp.opI i = (8 : Int) ∨ Sp.opI i = (9 : Int) -> q1 <= Sp.nI i /\ Sp.nI i < (↑q11 : Int)) /\ q77 /\ True /\ True /\ q83 /\ q83 /\ q83 /\ q83 /\ (q82 -> q78) /\ q83 /\ (q82 -> q80.length <= (5000 : Nat) /\ ∀ (k : Int), k ∈ q80 -> (0 : tI.den) <= k /\ k < (↑q79.length : Int)) /\ q83 /\ q83 /\ q83 /\ (q82 -> q49) /\ q83 /\ q83 /\ q83 /\ q83 /\ True /\ True) /\ True) /\ (q84 = true -> q44) /\ (q84 = false -> ((inK IntKind.i64 q85 /\ True /\ True) /\ True) /\ ∃ (y : Nat), (y <= q12 /\ Sp.headB x.1 x.2.1 = true /\ (Sp.cB x.2.1).length = q12 /\ q41 = q12 /\ ∀ (k : Nat), k < y -> Sp.rgtB (Sp.depQ x.1) (Sp.blkAt x.1 k).1 (Sp.xsAt x.2.2.1.1 k) = true /\ Sp.reoK x.1 x.2.2.1.1 k = Sp.blkAt x.2.1 k) /\ q12 - y < q12 - x_1 /\ q85 = (↑y : Int) /\ q45 = q45 /\ q46)) /\ (q47 = false -> q6 /\ q1 = q43))) := by kernel_rfl
end Go.User
namespace Go.User
open Go.Lf Go.Proofs
theorem ins_at {c : Sp.Code} {l : List Sp.Inst} (h : ∀ i ∈ l, instOK c i) {n : Nat} (hn : n < l.length) : instOK c (l.getD n (0, 0, 0, (0, 0, 0, ()), (0, 0, 0, ()), (0, 0, 0, ()), (0, 0, 0, ()), ())) := by
 refine h _ ?_
 rw [List.getD_eq_getElem?_getD, List.getElem?_eq_getElem hn]
 exact List.getElem_mem hn
set_option maxHeartbeats 1000000 in
theorem ok53 : FOk Try.prog 53 S53 := by
 have hC : CtxOK Try.prog C53 := okA (fns_cons ok38 (fns_cons ok15 fns_nil))
 refine FOk.intro hC (stpS_ok hC) Try.call53 Try.func53 (by kernel_rfl) (by kernel_rfl) L53 ?_
 rw [vc53]
 simp only [zz, zy]
 rintro ⟨c, l, o, n, u⟩ ⟨hl, h0, h1⟩ _
 dsimp only at hl h0 h1 ⊢
 have h0 : (0 : Int) <= n := h0
 obtain ⟨N, rfl⟩ := Int.eq_ofNat_of_zero_le h0
 have h1 : (N : Int) < (List.length l : Int) := h1
 have hlen : List.length l <= 3000 := hl.1
 simp only [Int.toNat_natCast]
 refine ⟨fun h => Sp.fa_of fun e => ((Sp.rdyB_iff _ _ _ _).1 e).1 ((Sp.mem_of _ _).1 h), fun hm => ⟨⟨0, ⟨Nat.zero_le _, rfl⟩, rfl⟩, ?_⟩⟩
 intro i hi _
 obtain ⟨g1, g2⟩ := hi
 have g1 : i <= N := g1
 have g2 := Sp.all_range.1 g2
 refine ⟨fun hlt => ?_, fun hge => Sp.tr_of ((Sp.rdyB_iff _ _ _ _).2 ⟨Sp.nmem_of hm, fun j hj => ?_⟩)⟩
 ·have hlt : (i : Int) < (N : Int) := hlt
  have q1 : inN (i : Int) (List.length l) := ⟨by omega, by omega⟩
  have q2 : inN (N : Int) (List.length l) := ⟨by omega, by omega⟩
  refine ⟨⟨fun _ => q1, fun _ => q2, fun _ => ⟨ins_at hl.2 (by omega), ins_at hl.2 (by omega)⟩⟩, fun hd => Sp.fa_of fun e => ?_, fun hd => ⟨inK_mid (by omega) (by omega), i + 1, ⟨by show i + 1 <= N; omega, Sp.all_range.2 fun j hj => ?_⟩, by show N - (i + 1) < N - i; omega, rfl⟩⟩
  ·have := ((Sp.rdyB_iff _ _ _ _).1 e).2 i (by omega)
   rcases this with h | h
   ·exact Sp.nmem_of hd.1 h
   ·have hd : Sp.depR c (Sp.insAt l i) (Sp.insAt l N) = true := hd.2
    rw [hd] at h; cases h
  ·rcases Nat.lt_succ_iff_lt_or_eq.1 hj with h | h
   ·exact g2 j h
   ·subst h
    show (Sp.mem o (j : Int) || !Sp.depR c (Sp.insAt l j) (Sp.insAt l N)) = true
    cases hmi : Sp.mem o (j : Int)
    ·rw [hmi] at hd
     have hd : Sp.depR c (Sp.insAt l j) (Sp.insAt l N) = false := hd
     rw [hd]; rfl
    ·rfl
 ·have hge : (N : Int) <= (i : Int) := hge
  have := g2 j (by omega)
  rw [Bool.or_eq_true, Sp.mem_of, Bool.not_eq_true'] at this;exact this
set_option maxHeartbeats 1000000 in
theorem ok43 : FOk Try.prog 43 S43 := by
 have hC : CtxOK Try.prog C43 := okA fns_nil
 refine FOk.intro hC (stpS_ok hC) Try.call43 Try.func43 (by kernel_rfl) (by kernel_rfl) L43 ?_
 rw [vc43]
 simp only [zz, zy]
 rintro ⟨l, x, u⟩ ⟨hx, hr⟩ _
 dsimp only at hx hr ⊢
 have hx : List.length x <= 5000 := hx
 have hr : ∀ k ∈ (x : List Int), 0 <= k /\ k < (List.length l : Int) := hr
 refine ⟨⟨Int.natCast_nonneg _, Int.le_refl _, maxN (by omega)⟩, ⟨0, Nat.zero_le _, rfl, rfl⟩, ?_⟩
 intro i hi _
 have hi : i <= List.length x := hi
 have el : (Sp.reoL l (List.take i x) ++ List.replicate (List.length x - i) Sp.inst0).length = List.length x := by
  unfold Sp.reoL;rw [List.length_append, List.length_map, List.length_replicate, List.length_take];omega
 refine ⟨fun hlt => ?_, fun hge => ?_⟩
 ·have hlt : (i : Int) < (List.length x : Int) := hlt
  have hil : i < List.length x := by omega
  refine ⟨inN_of hlt, ⟨hr _ (Sp.mem_getD hlt), by rw [el]; exact inN_of hlt⟩, inK_mid (by omega) (by omega), i + 1, by show i + 1 <= List.length x; omega, by show List.length x - (i + 1) < List.length x - i; omega, rfl, ?_⟩
  have e1 : Sp.reoL l (List.take (i + 1) x) = Sp.reoL l (List.take i x) ++ [Sp.insAt l (x[i]'hil).toNat] := by
   unfold Sp.reoL;rw [List.take_add_one, List.getElem?_eq_getElem hil, List.map_append]; rfl
  have e2 : List.length x - i = List.length x - (i + 1) + 1 := by omega
  have e3 : (Sp.reoL l (List.take i x)).length = i := by
   unfold Sp.reoL;rw [List.length_map, List.length_take]; omega
  have e4 : List.getD x i 0 = x[i]'hil := by rw [List.getD_eq_getElem?_getD, List.getElem?_eq_getElem hil]; rfl
  rw [e1, e2, List.replicate_succ, List.set_append_right _ _ (by omega), e3, Nat.sub_self, List.set_cons_zero, List.append_assoc];refine congrArg (fun v => Sp.reoL l (List.take i x) ++ v) ?_
  show _ = Sp.insAt l (x[i]'hil).toNat :: _
  rw [<- e4]
  rfl
 ·have hge : (List.length x : Int) <= (i : Int) := hge
  have e : List.length x - i = 0 := by omega
  rw [e, List.take_of_length_le (by omega)];exact List.append_nil _
set_option maxHeartbeats 1000000 in
theorem ok23 : FOk Try.prog 23 S23 := by
 have hC : CtxOK Try.prog C23 := okC (fns_cons ok20 fns_nil) rfl rfl rfl rfl rfl rfl rfl
 refine FOk.intro hC (stpS_ok hC) Try.call23 Try.func23 (by kernel_rfl) (by kernel_rfl) L23 ?_
 rw [vc23]
 simp only [zz, zy]
 rintro ⟨c, X, u⟩ ⟨hc, hX⟩ _
 obtain ⟨X, u2⟩ := X
 dsimp only at hc hX ⊢
 have hX : orOK c X := hX
 have hB : (Sp.cB c).length <= 3000 := hc.2.2.1
 refine ⟨⟨Nat.le_trans hc.1 (by decide), Nat.le_trans hc.2.1 (by decide), Nat.le_trans hc.2.2.1 (by decide), fun b hb => Nat.le_trans (hc.2.2.2 b hb) (by decide)⟩, ⟨0, Nat.zero_le _, by rw [Sp.reoN_zero]; rfl, rfl⟩, ?_⟩
 intro b hb _
 have hb : b <= (Sp.cB c).length := hb
 refine ⟨fun hlt => ?_, fun hge => ?_⟩
 ·have hlt : (b : Int) < ((Sp.cB c).length : Int) := hlt
  have hbl : b < (Sp.cB c).length := by omega
  obtain ⟨x1, x2, x3⟩ := hX b hbl;refine ⟨by rw [Sp.reoN_len]; exact inN_of hlt, ⟨0, Nat.zero_le _, ?_, rfl⟩, ?_⟩
  ·rw [Sp.reoM_zero c X hbl]; rfl
  intro k hk _;have hk : k <= (Sp.xsAt X b).length := hk;have hin : inN (b : Int) (Sp.reoM c X b k).length := by rw [Sp.reoM_len]; exact inN_of hlt
  have hbx : inN (b : Int) (List.length X) := ⟨by omega, by omega⟩
  refine ⟨hbx, fun hkl => ?_, fun hkg => ?_⟩
  ·have hkl : (k : Int) < ((Sp.xsAt X b).length : Int) := hkl
   refine ⟨⟨hin, inN_of hlt, hbx, inN_of hkl, x3 _ (Sp.mem_getD hkl), ?_, hin⟩, inK_mid (by omega) (by omega), k + 1, by show k + 1 <= (Sp.xsAt X b).length; omega, by show (Sp.xsAt X b).length - (k + 1) < (Sp.xsAt X b).length - k; omega, ?_, rfl⟩
   ·refine maxN ?_
    rw [Sp.reoM_at c X k hbl];unfold Sp.reoL;rw [List.length_map, List.length_take];omega
   ·rw [<- Sp.reoM_succ c X hbl hkl ([], (0, 0, (0, 0, 0, ()), (0, 0, 0, ()), (0, 0, 0, ()), List.replicate 2 0, ()), ()) 0 (0, 0, 0, (0, 0, 0, ()), (0, 0, 0, ()), (0, 0, 0, ()), (0, 0, 0, ()), ()) rfl]
    rfl
  ·have hkg : ((Sp.xsAt X b).length : Int) <= (k : Int) := hkg
   refine ⟨inK_mid (by omega) (by omega), b + 1, by show b + 1 <= (Sp.cB c).length; omega, by show (Sp.cB c).length - (b + 1) < (Sp.cB c).length - b; omega, ?_, rfl⟩
   rw [Sp.reoM_end c X hbl hkg]
 ·have hge : ((Sp.cB c).length : Int) <= (b : Int) := hge
  have : b = (Sp.cB c).length := by omega
  rw [this]; rfl
end Go.User
namespace Sp
theorem doneL_len (o : List Int) (n : Nat) : (doneL o n).length = n := by unfold doneL; rw [List.length_map, List.length_range]
theorem doneL_at (o : List Int) {n i : Nat} (h : i < n) (d : Bool) : (doneL o n).getD i d = mem o (i : Int) := getD_map_range _ h d
theorem doneL_nil (n : Nat) : List.replicate n false = doneL [] n := by
 refine ext_getD false (by rw [List.length_replicate, doneL_len]) fun i hi => ?_
 rw [List.length_replicate] at hi
 rw [doneL_at _ hi, List.getD_eq_getElem?_getD, List.getElem?_replicate, if_pos hi]; rfl
theorem doneL_set (o : List Int) {n m : Nat} (h : m < n) : (doneL o n).set m true = doneL (o ++ [(m : Int)]) n := by
 refine ext_getD false (by rw [List.length_set, doneL_len, doneL_len]) fun i hi => ?_
 rw [List.length_set, doneL_len] at hi
 rw [getD_set _ _ _ _ _ (by rw [doneL_len]; exact h), doneL_at _ hi, doneL_at _ hi]
 unfold mem
 rcases Nat.decEq m i with hne | rfl
 ·rw [if_neg hne]
  refine decide_eq_decide.2 ?_
  rw [List.mem_append, List.mem_singleton];exact ⟨.inl, fun h => h.elim id fun h => absurd (by omega) hne⟩
 ·rw [if_pos rfl]
  exact (decide_eq_true (List.mem_append.2 (.inr (List.mem_singleton.2 rfl)))).symm
theorem mskL_len (dep : Inst -> Inst -> Bool) (l : List Inst) : (mskL dep l).length = l.length := by unfold mskL; rw [List.length_map, List.length_range]
theorem mskL_at (dep : Inst -> Inst -> Bool) (l : List Inst) {i : Nat} (h : i < l.length) (d : List Bool) : (mskL dep l).getD i d = mskI dep l i := getD_map_range _ h d
theorem mskI_len (dep : Inst -> Inst -> Bool) (l : List Inst) (i : Nat) : (mskI dep l i).length = i := by unfold mskI; rw [List.length_map, List.length_range]
theorem mskI_at (dep : Inst -> Inst -> Bool) (l : List Inst) {i j : Nat} (h : j < i) (d : Bool) : (mskI dep l i).getD j d = dep (insAt l j) (insAt l i) := getD_map_range _ h d
theorem nxS_skip {rdy ld : Nat -> Bool} {i : Nat} (h : rdy i = false) : nxS rdy ld i = nxS rdy ld (i + 1) := by
 show _ = (if _ then _ else _)
 rw [h]; rfl
theorem nxS_take {rdy ld : Nat -> Bool} {i : Nat} (h : rdy i = true) (h2 : nxS rdy ld i < 0) : (i : Int) = nxS rdy ld (i + 1) := by
 show _ = (if _ then _ else _)
 rw [h, decide_eq_true h2]; rfl
theorem nxS_stay2 {rdy ld : Nat -> Bool} {i : Nat} (h : ld i = false) (h2 : 0 <= nxS rdy ld i) : nxS rdy ld i = nxS rdy ld (i + 1) := by
 show _ = (if _ then _ else _)
 rw [h, decide_eq_false (by omega)]
 simp
theorem atL_len (x : List Int) (n k : Nat) : (atL x n k).length = n := by unfold atL; rw [List.length_map, List.length_range]
theorem atL_at (x : List Int) {n i : Nat} (k : Nat) (h : i < n) (d : Int) : (atL x n k).getD i d = if (i : Int) ∈ x.take k then (((x.take k).idxOf (i : Int) : Nat) : Int) else -1 := getD_map_range _ h d
theorem atL_zero (x : List Int) (n : Nat) : List.replicate n (-1) = atL x n 0 := by
 refine ext_getD 0 (by rw [List.length_replicate, atL_len]) fun i hi => ?_
 rw [List.length_replicate] at hi
 rw [atL_at _ _ hi, List.getD_eq_getElem?_getD, List.getElem?_replicate, if_pos hi]
 simp
theorem atL_mem {x : List Int} {n k : Nat} {v d : Int} (h0 : 0 <= v) (h1 : v < (n : Int)) : 0 <= (atL x n k).getD v.toNat d ↔ v ∈ x.take k := by
 rw [atL_at x k (by omega)]
 have e : ((v.toNat : Nat) : Int) = v := by omega
 rw [e]
 split
 ·rename_i h; exact ⟨fun _ => h, fun _ => by omega⟩
 ·rename_i h; exact ⟨fun h' => by omega, fun h' => absurd h' h⟩
theorem take_succ_at {x : List Int} {k : Nat} {d : Int} (h : k < x.length) : x.take (k + 1) = x.take k ++ [x.getD k d] := by
 rw [List.take_add_one, List.getElem?_eq_getElem h, List.getD_eq_getElem?_getD, List.getElem?_eq_getElem h]
 rfl
theorem atL_set {x : List Int} {n k : Nat} {d : Int} (hk : k < x.length) (h0 : 0 <= x.getD k d) (h1 : x.getD k d < (n : Int)) (hn : x.getD k d ∉ x.take k) : (atL x n k).set (x.getD k d).toNat (k : Int) = atL x n (k + 1) := by
 generalize hv : x.getD k d = v at *
 refine ext_getD 0 (by rw [List.length_set, atL_len, atL_len]) fun i hi => ?_
 rw [List.length_set, atL_len] at hi
 rw [getD_set _ _ _ _ _ (by rw [atL_len]; omega), atL_at _ _ hi, atL_at _ _ hi, take_succ_at (d := d) hk, hv]
 have hlk : (x.take k).length = k := by rw [List.length_take]; omega
 rcases Nat.decEq v.toNat i with hne | he
 ·rw [if_neg hne]
  have hiv : (i : Int) ≠ v := fun e => hne (by omega)
  rcases Classical.em ((i : Int) ∈ x.take k) with hm | hm
  ·rw [if_pos hm, if_pos (List.mem_append.2 (.inl hm)), List.idxOf_append, if_pos hm]
  ·rw [if_neg hm, if_neg]
   rw [List.mem_append, List.mem_singleton];exact fun h => h.elim hm hiv
 ·rw [if_pos he]
  have hiv : (i : Int) = v := by omega
  rw [hiv, if_pos (List.mem_append.2 (.inr (List.mem_singleton.2 rfl))), List.idxOf_append, if_neg hn, hlk]
  simp
theorem nodup_take_succ {x : List Int} {k : Nat} {d : Int} (hk : k < x.length) (h : (x.take k).Nodup) (hn : x.getD k d ∉ x.take k) : (x.take (k + 1)).Nodup := by
 rw [take_succ_at (d := d) hk]
 refine List.nodup_append.2 ⟨h, List.nodup_cons.2 ⟨List.not_mem_nil, List.nodup_nil⟩, ?_⟩
 intro a ha b hb hab
 rw [List.mem_singleton] at hb
 rw [hab, hb] at ha
 exact hn ha
theorem idx_at {x : List Int} {v : Int} (h : v ∈ x) : xAt x (x.idxOf v) = v := by
 have hl := List.idxOf_lt_length_of_mem h
 unfold xAt
 rw [List.getD_eq_getElem?_getD, List.getElem?_eq_getElem hl]
 exact List.getElem_idxOf hl
theorem idx_of_at {x : List Int} (hn : x.Nodup) {p : Nat} (hp : p < x.length) : x.idxOf (xAt x p) = p := by
 unfold xAt
 rw [List.getD_eq_getElem?_getD, List.getElem?_eq_getElem hp]
 exact List.Nodup.idxOf_getElem hn p hp
theorem mem_getD' {x : List Int} {p : Nat} (hp : p < x.length) : xAt x p ∈ x := by
 unfold xAt
 rw [List.getD_eq_getElem?_getD, List.getElem?_eq_getElem hp]
 exact List.getElem_mem hp
theorem rgt_at {dep : Inst -> Inst -> Bool} {l : List Inst} {x : List Int} (hl : x.length = l.length) (hn : x.Nodup) (hr : ∀ k ∈ x, 0 <= k /\ k < (l.length : Int)) :
  rgtB (fun a b => dep b a) l x = true ↔ ∀ k, k < l.length -> ∀ j, j < k -> dep (insAt l j) (insAt l k) = true -> xAt (atL x l.length x.length) j <= xAt (atL x l.length x.length) k := by
 have hin := in_perm hl hn hr
 have hpos : ∀ i, i < l.length -> xAt (atL x l.length x.length) i = ((x.idxOf (i : Int) : Nat) : Int) := by
  intro i hi;unfold xAt;rw [atL_at x x.length hi, List.take_length, if_pos (hin i hi)]
 rw [rgtB_iff]
 constructor
 ·rintro ⟨_, _, h⟩ k hk j hj hd
  rw [hpos k hk, hpos j (by omega)]
  apply Classical.byContradiction
  intro hc;have hb := h (x.idxOf (k : Int)) (List.idxOf_lt_length_of_mem (hin k hk)) (x.idxOf (j : Int)) (List.idxOf_lt_length_of_mem (hin j (by omega)));rw [<- Bool.not_eq_true, badP_iff] at hb
  apply hb
  rw [idx_at (hin k hk), idx_at (hin j (by omega))];exact ⟨by omega, by omega, hd⟩
 ·intro h
  refine ⟨hl, hin, fun p hp q hq => ?_⟩
  rw [<- Bool.not_eq_true, badP_iff];rintro ⟨h1, h2, h3⟩;have hxp : xAt x p ∈ x := mem_getD' hp;have hxq : xAt x q ∈ x := mem_getD' hq;have rp := hr _ hxp;have rq := hr _ hxq;have := h (xAt x p).toNat (by omega) (xAt x q).toNat (by omega) h3;rw [hpos _ (by omega), hpos _ (by omega)] at this;have ep : (((xAt x p).toNat : Nat) : Int) = xAt x p := by omega
  have eq : (((xAt x q).toNat : Nat) : Int) = xAt x q := by omega
  rw [ep, eq, idx_of_at hn hp, idx_of_at hn hq] at this;omega
end Sp
