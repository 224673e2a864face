/- Schedules and their check: what they should. Orders that are chosen; codes with slots. Run, Check, orders that are chosen, codes with slots: what they should. The registers that an instruction reads: what they should. order.masks: what it should. The laws' helpers and two laws. Written by gen.py: what is left to show of each function. What is made has instructions that are right. Orders: plain laws. Orders of codes: plain laws. The laws' helpers: what they should. The examples: what they should. Written by gen.py: what is left to show of each function. The law MatchesReference. The law Loads. The law Swaps. The law Refuses: with cuts. What is refused: plain laws. -/
import Derived.Test.YtdcbiadlojcaoaaLfm
set_option linter.unusedVariables false
set_option linter.unusedSimpArgs false
namespace Go.User
open Go.Lf Go.Proofs
theorem mem_b {l : List Int} {n : Int} : Sp.mem l n = false ↔ n ∉ l := by rw [<- Bool.not_eq_true, Sp.mem_of]
set_option maxHeartbeats 4000000 in
theorem ok59 (h65 : FOk Try.prog 65 S65) : FOk Try.prog 59 S59 := by
 have hC : CtxOK Try.prog C59 := okA (fns_cons h65 fns_nil)
 refine FOk.introT hC (stpS_ok hC) Try.call59 Try.func59 rfl (by kernel_rfl) T59 ?_
 rw [vc59]
 simp only [zz, zy]
 rintro ⟨c, l, u⟩ hl _
 dsimp only at hl ⊢
 have hlen : List.length l <= 3000 := hl.1
 refine ⟨hl, ⟨Int.natCast_nonneg _, Int.le_refl _, maxN (by omega)⟩, ⟨0, Nat.zero_le _, rfl, Sp.doneL_nil _⟩, ?_⟩
 intro k hk _
 have hk : k <= List.length l := hk
 have hol := Sp.ordN_len (Sp.stpO (Sp.depP c) l) k
 have hst : ∀ o, Sp.stpO (Sp.depP c) l o = Sp.nxS (Sp.rdyB (Sp.depP c) l o) (Sp.ldB l) (List.length l) := fun _ => rfl
 have hord : ∀ k, Sp.ordN (Sp.stpO (Sp.depP c) l) (k + 1) = Sp.ordN (Sp.stpO (Sp.depP c) l) k ++ [Sp.stpO (Sp.depP c) l (Sp.ordN (Sp.stpO (Sp.depP c) l) k)] := fun _ => rfl
 refine ⟨fun hlt => ?_, fun hge => ?_⟩
 ·rw [hol] at hlt
  have hlt : (k : Int) < (List.length l : Int) := hlt
  have hsp := Sp.stpO_spec (Sp.depP c) l (out := Sp.ordN (Sp.stpO (Sp.depP c) l) k) (by rw [hol]; omega)
  have hk1 := hord k
  clear hord;generalize hO : Sp.ordN (Sp.stpO (Sp.depP c) l) k = O at *;have hR : ∀ i, Sp.rdyB (Sp.depP c) l O i = true ↔ (i : Int) ∉ O /\ ∀ j, j < i -> (j : Int) ∈ O ∨ Sp.depP c (Sp.insAt l j) (Sp.insAt l i) = false := fun i => Sp.rdyB_iff _ _ _ _
  refine ⟨⟨⟨0, ⟨Nat.zero_le _, fun k hk => absurd hk (Nat.not_lt_zero k)⟩, rfl, rfl⟩, ?_⟩, fun _ => ?_⟩
  ·intro i hi _
   obtain ⟨h1, h2⟩ := hi;have h1 : i <= List.length l := h1;refine ⟨fun hil => ?_, fun hge => ⟨(), ?_⟩⟩
   ·have hil : (i : Int) < (List.length l : Int) := hil
    have hin : inN (i : Int) (Sp.doneL O (List.length l)).length := by rw [Sp.doneL_len]; exact inN_of hil
    have hK : inK .i64 ((i : Int) + 1) := inK_mid (by omega) (by omega)
    have hdec : List.length l - (i + 1) < List.length l - i := by omega
    have NEXT : ¬ (Sp.rdyB (Sp.depP c) l O i = true /\ Sp.ldB l i = true) -> ∀ k, k < i + 1 -> ¬ (Sp.rdyB (Sp.depP c) l O k = true /\ Sp.ldB l k = true) := by
     intro h k hk;rcases Nat.lt_succ_iff_lt_or_eq.1 hk with g | g
     ·exact h2 k g
     ·rw [g]; exact h
    have SKIP : Sp.rdyB (Sp.depP c) l O i = false -> ∃ (y : Nat), (y <= List.length l /\ ∀ (k : Nat), k < y -> ¬(Sp.rdyB (Sp.depP c) l O k = true /\ Sp.ldB l k = true)) /\ List.length l - y < List.length l - i /\ (i : Int) + 1 = (y : Int) /\ Sp.nxS (Sp.rdyB (Sp.depP c) l O) (Sp.ldB l) i = Sp.nxS (Sp.rdyB (Sp.depP c) l O) (Sp.ldB l) y :=
     fun h => ⟨i + 1, ⟨by omega, NEXT (by rw [h]; exact fun h => by cases h.1)⟩, hdec, rfl, Sp.nxS_skip h⟩
    refine ⟨hin, fun hd => ⟨hK, SKIP ?_⟩, fun hd => ?_⟩
    ·rw [Sp.doneL_at _ (by omega)] at hd
     rw [<- Bool.not_eq_true, hR];exact fun h => h.1 ((Sp.mem_of _ _).1 hd)
    ·rw [Sp.doneL_at _ (by omega)] at hd
     have hd := mem_b.1 hd
     have em : (Sp.mskL (Sp.depP c) l).getD i [] = Sp.mskI (Sp.depP c) l i := Sp.mskL_at _ _ (by omega) _
     rw [em, Sp.mskI_len];refine ⟨by rw [Sp.mskL_len]; exact inN_of hil, ⟨0, ⟨Nat.zero_le _, rfl⟩, rfl, rfl⟩, ?_⟩;intro j hj _;obtain ⟨g1, g2⟩ := hj;have g1 : j <= i := g1;have g2 := Sp.all_range.1 g2;refine ⟨fun hji => ?_, fun hjg => ?_⟩
     ·have hji : (j : Int) < (i : Int) := hji
      have ej : (Sp.mskI (Sp.depP c) l i).getD j false = Sp.depP c (Sp.insAt l j) (Sp.insAt l i) := Sp.mskI_at _ _ (by omega) _
      have edj : (Sp.doneL O (List.length l)).getD j false = Sp.mem O (j : Int) := Sp.doneL_at _ (by omega) _
      rw [ej, edj, Sp.doneL_len];refine ⟨inN_of hji, fun _ => ⟨by omega, by omega⟩, fun hc => ⟨hK, SKIP ?_⟩, fun hc => ⟨inK_mid (by omega) (by omega), j + 1, ⟨by show j + 1 <= i; omega, Sp.all_range.2 fun a ha => ?_⟩, by show i - (j + 1) < i - j; omega, rfl⟩⟩
      ·rw [<- Bool.not_eq_true, hR]
       intro h;rcases h.2 j (by omega) with h | h
       ·exact (mem_b.1 hc.2) h
       ·rw [hc.1] at h; cases h
      ·rcases Nat.lt_succ_iff_lt_or_eq.1 ha with g | g
       ·exact g2 a g
       ·rw [g]
        revert hc
        cases Sp.depP c (Sp.insAt l j) (Sp.insAt l i) <;> cases Sp.mem O (j : Int) <;> simp
     ·have hjg : (i : Int) <= (j : Int) := hjg
      have hready : Sp.rdyB (Sp.depP c) l O i = true := by
       rw [hR];refine ⟨hd, fun a ha => ?_⟩
       have := g2 a (by omega)
       rw [Bool.or_eq_true, Sp.mem_of, Bool.not_eq_true'] at this;exact this
      refine ⟨inN_of hil, fun hop => ⟨(), ?_⟩, fun hop => ?_⟩
      ·rw [hst]
       exact (Sp.nxS_stay _ _ hready (decide_eq_true hop) h2 _ (by omega)).symm
      ·have hldf : Sp.ldB l i = false := decide_eq_false hop
       have hno : ¬ (Sp.rdyB (Sp.depP c) l O i = true /\ Sp.ldB l i = true) := by rw [hldf]; exact fun h => by cases h.2
       refine ⟨fun hneg => ⟨hK, i + 1, ⟨by show i + 1 <= List.length l; omega, NEXT hno⟩, hdec, rfl, Sp.nxS_take hready hneg⟩, fun hpos => ⟨hK, i + 1, ⟨by show i + 1 <= List.length l; omega, NEXT hno⟩, hdec, rfl, Sp.nxS_stay2 hldf hpos⟩⟩
   ·have hge : (List.length l : Int) <= (i : Int) := hge
    have : i = List.length l := by omega
    rw [this, hst]
  ·obtain ⟨m, hm, em, _⟩ := hsp
   rw [em] at hk1 ⊢;refine ⟨by rw [Sp.doneL_len]; exact ⟨by omega, by omega⟩, maxN (by omega), k + 1, by show k + 1 <= List.length l; omega, by show List.length l - (k + 1) < List.length l - k; omega, ?_, ?_⟩
   ·rw [hk1]
   ·rw [hk1, Int.toNat_natCast]
    exact Sp.doneL_set _ hm
 ·rw [hol] at hge
  have hge : (List.length l : Int) <= (k : Int) := hge
  have : k = List.length l := by omega
  rw [this]; rfl
set_option maxHeartbeats 4000000 in
theorem ok41 (h65 : FOk Try.prog 65 S65) : FOk Try.prog 41 S41 := by
 have hC : CtxOK Try.prog C41 := okA (fns_cons h65 fns_nil)
 refine FOk.intro hC (stpS_ok hC) Try.call41 Try.func41 (by kernel_rfl) (by kernel_rfl) L41 ?_
 rw [vc41]
 simp only [zz, zy]
 rintro ⟨c, l, x, u⟩ hl hfx
 dsimp only at hl ⊢
 have hlen : List.length l <= 3000 := hl.1
 have NR : ∀ {p : Prop}, (Sp.rgtB (Sp.depQ c) l x = true -> p) -> ¬ p -> false = Sp.rgtB (Sp.depQ c) l x := fun h1 h2 => Sp.fa_of fun e => h2 (h1 e)
 have RP : Sp.rgtB (Sp.depQ c) l x = true -> List.length x = List.length l /\ List.Nodup x /\ (∀ k ∈ (x : List Int), 0 <= k /\ k < (List.length l : Int)) := fun h => by
  obtain ⟨h1, h2, h3, _⟩ := Sp.rgtB_perm h;exact ⟨h1, h2, h3⟩
 refine ⟨⟨Int.natCast_nonneg _, Int.le_refl _, maxN (by omega)⟩, ⟨0, Nat.zero_le _, rfl, congrArg _ List.length_replicate, rfl⟩, ?_⟩
 intro n hn _
 have hn : n <= List.length l := hn
 refine ⟨fun hlt => ?_, fun hge => ?_⟩
 ·have hlt : (n : Int) < (List.length l : Int) := hlt
  refine ⟨?_, inK_mid (by omega) (by omega), n + 1, by show n + 1 <= List.length l; omega, by show List.length l - (n + 1) < List.length l - n; omega, rfl, ?_⟩
  ·rw [List.length_append, List.length_replicate, List.length_replicate]
   exact ⟨by omega, by omega⟩
  ·have e2 : List.length l - n = List.length l - (n + 1) + 1 := by omega
   rw [e2, List.replicate_succ, List.set_append_right _ _ (by rw [List.length_replicate]; exact Nat.le_refl _), List.length_replicate, Nat.sub_self, List.set_cons_zero, List.replicate_succ' (n := n), List.append_assoc]
   rfl
 have hge : (List.length l : Int) <= (n : Int) := hge
 have hnl : n = List.length l := by omega
 subst hnl
 refine ⟨⟨0, ⟨Nat.zero_le _, List.nodup_nil, fun k hk => (List.not_mem_nil hk).elim⟩, rfl, ?_⟩, ?_⟩
 ·rw [Nat.sub_self, <- Sp.atL_zero]
  exact List.append_nil _
 intro k hk _
 obtain ⟨h1, h2, h3⟩ := hk
 have h1 : k <= List.length x := h1
 have h2 : List.Nodup (List.take k x) := h2
 have h3 : ∀ v ∈ (List.take k x : List Int), 0 <= v /\ v < (List.length l : Int) := h3
 refine ⟨fun hlt => ?_, fun hge => ?_⟩
 ·have hlt : (k : Int) < (List.length x : Int) := hlt
  have hkx : k < List.length x := by omega
  have hm := Sp.mem_getD (d := 0) hlt
  refine ⟨inN_of hlt, fun hb => by rw [Sp.atL_len]; exact hb, fun hb => NR RP ?_, fun hb => ?_⟩
  ·rintro ⟨r1, r2, r3⟩
   have hv := r3 _ hm
   have hv1 : ¬ (List.getD x k 0 < 0) := by omega
   have hv2 : ¬ ((List.length l : Int) <= List.getD x k 0) := by omega
   have hb : (decide (List.getD x k 0 < 0) || decide ((List.length l : Int) <= List.getD x k 0) || decide (0 <= (Sp.atL x (List.length l) k).getD (Int.toNat (List.getD x k 0)) 0)) = true := hb
   rw [decide_eq_false hv1, decide_eq_false hv2, Bool.false_or, Bool.false_or] at hb;have hin := (Sp.atL_mem hv.1 hv.2).1 (of_decide_eq_true hb);have hnd := List.Sublist.nodup (List.take_sublist (k + 1) x) r2;rw [Sp.take_succ_at (d := 0) hkx] at hnd;exact (List.nodup_append.1 hnd).2.2 _ hin _ (List.mem_singleton.2 rfl) rfl
  ·obtain ⟨⟨v0, v1⟩, v2⟩ := hb
   have v0 : 0 <= List.getD x k 0 := v0
   have v1 : List.getD x k 0 < (List.length l : Int) := v1
   have hnin : List.getD x k 0 ∉ List.take k x := fun hc => by
    have := (Sp.atL_mem (d := 0) v0 v1).2 hc
    have v2 : (Sp.atL x (List.length l) k).getD (Int.toNat (List.getD x k 0)) 0 < 0 := v2
    omega
   refine ⟨by rw [Sp.atL_len]; exact ⟨v0, v1⟩, inK_succ hlt ?_, k + 1, ⟨by show k + 1 <= List.length x; omega, Sp.nodup_take_succ (d := 0) hkx h2 hnin, fun v hv => ?_⟩, by show List.length x - (k + 1) < List.length x - k; omega, rfl, Sp.atL_set (d := 0) hkx v0 v1 hnin⟩
   ·exact hfx.2.2.1
   ·rcases (Sp.mem_take_succ (d := 0) hlt).1 hv with h | h
    ·exact h3 v h
    ·rw [<- h]; exact ⟨v0, v1⟩
 have hge : (List.length x : Int) <= (k : Int) := hge
 have hkx : k = List.length x := by omega
 subst hkx
 rw [List.take_length] at h2 h3
 refine ⟨fun hne => NR RP fun h => hne (congrArg _ h.1), fun he => ?_⟩
 have he : List.length x = List.length l := Int.ofNat.inj he
 have hrg := Sp.rgt_at (dep := Sp.depP c) he h2 h3
 have hrg : Sp.rgtB (Sp.depQ c) l x = true ↔ _ := hrg
 refine ⟨hl, ⟨0, ⟨Nat.zero_le _, fun k hk => absurd hk (Nat.not_lt_zero k)⟩, rfl, congrArg _ (Sp.mskL_len _ _)⟩, ?_⟩
 intro i hi _
 obtain ⟨g1, g2⟩ := hi
 have g1 : i <= List.length l := g1
 refine ⟨fun hil => ?_, fun hig => Sp.tr_of (hrg.2 fun k hk j hj hd => g2 k ?_ j hj hd)⟩
 ·have hil : (i : Int) < (List.length l : Int) := hil
  have em : (Sp.mskL (Sp.depP c) l).getD i [] = Sp.mskI (Sp.depP c) l i := Sp.mskL_at _ _ (by omega) _
  rw [em, Sp.mskI_len, Sp.mskL_len, Sp.atL_len];refine ⟨inN_of hil, ⟨0, ⟨Nat.zero_le _, fun k hk => absurd hk (Nat.not_lt_zero k)⟩, rfl, rfl⟩, ?_⟩
  intro j hj _;obtain ⟨k1, k2⟩ := hj;have k1 : j <= i := k1;refine ⟨fun hji => ?_, fun hjg => ⟨inK_mid (by omega) (by omega), i + 1, ⟨by show i + 1 <= List.length l; omega, fun k hk a ha hd => ?_⟩, by show List.length l - (i + 1) < List.length l - i; omega, rfl⟩⟩
  ·have hji : (j : Int) < (i : Int) := hji
   have ej : (Sp.mskI (Sp.depP c) l i).getD j false = Sp.depP c (Sp.insAt l j) (Sp.insAt l i) := Sp.mskI_at _ _ (by omega) _
   rw [ej];refine ⟨inN_of hji, ⟨fun _ => ⟨by omega, by omega⟩, fun _ => inN_of hil⟩, fun hb => NR hrg.1 fun h => ?_, fun hb => ⟨inK_mid (by omega) (by omega), j + 1, ⟨by show j + 1 <= i; omega, fun k hk hd => ?_⟩, by show i - (j + 1) < i - j; omega, rfl⟩⟩
   ·have := h i (by omega) j (by omega) hb.1
    have h2 := hb.2
    unfold Sp.xAt at this;have h2 : (Sp.atL x (List.length l) (List.length x)).getD i 0 < (Sp.atL x (List.length l) (List.length x)).getD j 0 := h2;omega
   ·rcases Nat.lt_succ_iff_lt_or_eq.1 hk with g | g
    ·exact k2 k g hd
    ·subst g
     have hb : (Sp.depP c (Sp.insAt l k) (Sp.insAt l i) && decide ((Sp.atL x (List.length l) (List.length x)).getD i 0 < (Sp.atL x (List.length l) (List.length x)).getD k 0)) = false := hb
     have hd : Sp.depP c (Sp.insAt l k) (Sp.insAt l i) = true := hd
     rw [hd, Bool.true_and] at hb;have := of_decide_eq_false hb;show (Sp.atL x (List.length l) (List.length x)).getD k 0 <= (Sp.atL x (List.length l) (List.length x)).getD i 0;omega
  ·have hjg : (i : Int) <= (j : Int) := hjg
   rcases Nat.lt_succ_iff_lt_or_eq.1 hk with g | g
   ·exact g2 k g a ha hd
   ·subst g; exact k2 a (by omega) hd
 ·have hig : (List.length l : Int) <= (i : Int) := hig
  omega
end Go.User
namespace Sp
theorem headB_iff' (a b : Code) : headB a b = true ↔ a.1 = b.1 /\ a.2.1 = b.2.1 /\ a.2.2.1 = b.2.2.1 /\ a.2.2.2.1 = b.2.2.2.1 /\ a.2.2.2.2.1 = b.2.2.2.2.1 /\ cA a = cA b /\ cL a = cL b := by
 unfold headB
 simp only [Bool.and_eq_true, decide_eq_true_iff, and_assoc]
theorem code_ext' {a b : Code} (h : headB a b = true) (hB : cB a = cB b) : a = b := by
 obtain ⟨h1, h2, h3, h4, h5, h6, h7⟩ := (headB_iff' a b).1 h
 obtain ⟨a1, a2, a3, a4, a5, a6, a7, a8, _⟩ := a
 obtain ⟨b1, b2, b3, b4, b5, b6, b7, b8, _⟩ := b
 unfold cA at h6; unfold cL at h7; unfold cB at hB
 dsimp only at h1 h2 h3 h4 h5 h6 h7 hB
 rw [h1, h2, h3, h4, h5, h6, h7, hB]
theorem eqCode_iff' (a b : Code) : eqCode a b = true ↔ a = b := by unfold eqCode; exact @decide_eq_true_iff _ (Classical.propDecidable _)
theorem reoC_eq (c d : Code) (X : List (List Int)) : reoC c X = d ↔ headB c d = true /\ (cB d).length = (cB c).length /\ ∀ k, k < (cB c).length -> reoK c X k = blkAt d k := by
 constructor
 ·rintro rfl
  refine ⟨(headB_iff' _ _).2 ⟨rfl, rfl, rfl, rfl, rfl, rfl, rfl⟩, reoN_len c X _, fun k hk => ?_⟩
  show _ = (reoN c X (cB c).length).getD k blk0
  rw [reoN_at c X _ hk, if_pos hk]
 ·rintro ⟨h1, h2, h3⟩
  refine code_ext' ?_ ?_
  ·obtain ⟨g1, g2, g3, g4, g5, g6, g7⟩ := (headB_iff' c d).1 h1
   exact (headB_iff' _ _).2 ⟨g1, g2, g3, g4, g5, g6, g7⟩
  ·show reoN c X (cB c).length = cB d
   refine ext_getD blk0 (by rw [reoN_len, h2]) fun k hk => ?_
   rw [reoN_len] at hk;rw [reoN_at c X _ hk, if_pos hk, h3 k hk]; rfl
theorem chk_iff (dep : Code -> Inst -> Inst -> Bool) (c d : Code) (X : List (List Int)) : (rgtA dep c X && eqCode (reoC c X) d) = true ↔ headB c d = true /\ (cB d).length = (cB c).length /\ X.length = (cB c).length /\ ∀ k, k < (cB c).length -> rgtB (dep c) (blkAt c k).1 (xsAt X k) = true /\ reoK c X k = blkAt d k := by
 rw [Bool.and_eq_true, eqCode_iff', reoC_eq]
 unfold rgtA
 rw [Bool.and_eq_true, decide_eq_true_iff, all_range]
 constructor
 ·rintro ⟨⟨h1, h2⟩, h3, h4, h5⟩
  exact ⟨h3, h4, h1, fun k hk => ⟨h2 k hk, h5 k hk⟩⟩
 ·rintro ⟨h1, h2, h3, h4⟩
  exact ⟨⟨h3, fun k hk => (h4 k hk).1⟩, h1, h2, fun k hk => (h4 k hk).2⟩
end Sp
namespace Go.User
theorem made_ok (L : List Int) (hb : Sp.Byt (Sp.md0 L)) : codeOK 800 (Sp.madeC L) := by
 have h := (Sp.MkOK.md4 L hb).1.wT (Sp.nB (Sp.md4 L) - 1) (Sp.tJ 5 0 0)
 refine ⟨?_, h.lps, h.blk, h.ins⟩
 have : Sp.cA (Sp.madeC L) = Sp.arrs := h.arr
 rw [this]; decide
theorem made_arr (L : List Int) (hb : Sp.Byt (Sp.md0 L)) : Sp.cA (Sp.madeC L) = Sp.arrs := ((Sp.MkOK.md4 L hb).1.wT (Sp.nB (Sp.md4 L) - 1) (Sp.tJ 5 0 0)).arr
theorem codeOK.mono {n m : Nat} {c : Sp.Code} (h : codeOK n c) (hm : n <= m) : codeOK m c := ⟨Nat.le_trans h.1 hm, Nat.le_trans h.2.1 hm, Nat.le_trans h.2.2.1 hm, fun b hb => Nat.le_trans (h.2.2.2 b hb) hm⟩
end Go.User
namespace Go.User
open Go.Lf Go.Proofs
set_option maxHeartbeats 1000000 in
theorem ok28 (h65 : FOk Try.prog 65 S65) : FOk Try.prog 28 S28 := by
 have hC : CtxOK Try.prog C28 := okC (fns_cons ok56 (fns_cons ok57 (fns_cons ok58 (fns_cons (ok59 h65) (fns_cons ok43 fns_nil))))) rfl rfl rfl rfl rfl rfl rfl
 refine FOk.intro hC (stpS_ok hC) Try.call28 Try.func28 (by kernel_rfl) (by kernel_rfl) L28 ?_
 rw [vc28]
 simp only [zz, zy]
 rintro ⟨c, u⟩ hv _
 dsimp only at hv ⊢
 have hB : (Sp.cB c).length <= 3000 := hv.1.2.2.1
 refine ⟨⟨Nat.le_trans hv.1.1 (by decide), Nat.le_trans hv.1.2.1 (by decide), Nat.le_trans hv.1.2.2.1 (by decide)⟩, ⟨0, Nat.zero_le _, rfl, rfl, rfl, by rw [Sp.reoN_zero]; rfl⟩, ?_⟩
 intro b hb _
 have hb : b <= (Sp.cB c).length := hb
 refine ⟨fun hlt => ?_, fun hge => ?_⟩
 ·have hlt : (b : Int) < ((Sp.cB c).length : Int) := hlt
  have hbl : b < (Sp.cB c).length := by omega
  have hxl : (Sp.xsR Sp.depP c b).length <= b := by
   unfold Sp.xsR;rw [List.length_map, List.length_take]; omega
  have hbk := vOK.blk hv hbl
  have hxe : Sp.xsAt (Sp.runX Sp.depP c) b = Sp.lstO (Sp.depP c) (Sp.blkAt c b).1 := Sp.runX_at _ _ hbl
  refine ⟨⟨inN_of hlt, hbk⟩, maxN (by omega), ⟨inN_of hlt, ⟨?_, (Sp.lstO_ok _ _).2⟩, by rw [Sp.reoN_len]; exact inN_of hlt⟩, inK_mid (by omega) (by omega), b + 1, by show b + 1 <= (Sp.cB c).length; omega, by show (Sp.cB c).length - (b + 1) < (Sp.cB c).length - b; omega, rfl, ?_, ?_⟩
  ·rw [Sp.lstO_len]; exact Nat.le_trans hbk.1 (by decide)
  ·rw [<- Sp.xsR_succ Sp.depP c hbl ([], (0, 0, (0, 0, 0, ()), (0, 0, 0, ()), (0, 0, 0, ()), List.replicate 2 0, ()), ()) rfl]
   rfl
  ·rw [Sp.reoN_succ c _ hbl, Sp.reoN_at c _ b hbl, if_neg (Nat.lt_irrefl b)]
   unfold Sp.reoK;rw [hxe]
   rfl
 ·have hge : ((Sp.cB c).length : Int) <= (b : Int) := hge
  rw [Sp.xsR_end Sp.depP c (by omega)];have : b = (Sp.cB c).length := by omega
  rw [this]; rfl
set_option maxHeartbeats 4000000 in
theorem ok18 (h65 : FOk Try.prog 65 S65) : FOk Try.prog 18 S18 := by
 have hC : CtxOK Try.prog C18 := okA (fns_cons ok39 (fns_cons ok40 (fns_cons (ok41 h65) (fns_cons ok42 (fns_cons ok43 fns_nil)))))
 refine FOk.intro hC (stpS_ok hC) Try.call18 Try.func18 (by kernel_rfl) (by kernel_rfl) L18 ?_
 rw [vc18]
 simp only [zz, zy]
 rintro ⟨c, d, X, u⟩ hv _
 obtain ⟨X, u2⟩ := X
 dsimp only at hv ⊢
 have hB : (Sp.cB c).length <= 3000 := hv.1.2.2.1
 have CI := Sp.chk_iff Sp.depQ c d X
 have K0 : ¬ (Sp.rgtA Sp.depQ c X && Sp.eqCode (Sp.reoC c X) d) = true -> (100 : Int) = Sp.chkP c d X := fun h => by unfold Sp.chkP; rw [if_neg h]
 refine ⟨fun h => K0 fun e => ?_, fun h => ⟨⟨0, ⟨Nat.zero_le _, ?_, Int.ofNat.inj h.1.2, Int.ofNat.inj h.2, fun k hk => absurd hk (Nat.not_lt_zero k)⟩, rfl, rfl⟩, ?_⟩⟩
 ·obtain ⟨h1, h2, h3, _⟩ := CI.1 e
  obtain ⟨g1, g2, g3, g4, g5, g6, g7⟩ := (Sp.headB_iff c d).1 h1;have e6 : Sp.eqArrs c.2.2.2.2.2.1 d.2.2.2.2.2.1 = true := (Sp.eqArrs_iff _ _).2 g6;have e7 : Sp.eqLps c.2.2.2.2.2.2.1 d.2.2.2.2.2.2.1 = true := (Sp.eqLps_iff _ _).2 g7;have h2 : d.2.2.2.2.2.2.2.1.length = c.2.2.2.2.2.2.2.1.length := h2;have h3 : List.length X = c.2.2.2.2.2.2.2.1.length := h3;rw [g1, g2, g3, g4, g5, e6, e7, h2, h3] at h;simp at h
 ·obtain ⟨⟨⟨⟨⟨⟨e1, e2⟩, e3⟩, e4⟩, e5⟩, e6⟩, e7⟩ := h.1.1
  exact (Sp.headB_iff c d).2 ⟨e1, e2, e3, e4, e5, (Sp.eqArrs_iff _ _).1 e6, (Sp.eqLps_iff _ _).1 e7⟩
 intro b hbI _
 obtain ⟨h1, h2, h3, h4, h5⟩ := hbI
 have h1 : b <= (Sp.cB c).length := h1
 have h4 : List.length X = (Sp.cB c).length := h4
 refine ⟨fun hlt => ?_, fun hge => ?_⟩
 ·have hlt : (b : Int) < ((Sp.cB c).length : Int) := hlt
  have hbl : b < (Sp.cB c).length := by omega
  have hbk := vOK.blk hv hbl
  have iX : inN (b : Int) (List.length X) := ⟨by omega, by omega⟩
  have iD : inN (b : Int) (Sp.cB d).length := ⟨by omega, by omega⟩
  refine ⟨inN_of hlt, ⟨inN_of hlt, iD, fun _ => iX, fun _ => hbk, fun _ => iX, fun g => ?_, fun _ => iD⟩, fun hbad => K0 fun e => ?_, fun hg => ⟨inK_mid (by omega) (by omega), b + 1, ⟨by show b + 1 <= (Sp.cB c).length; omega, h2, h3, h4, fun k hk => ?_⟩, by show (Sp.cB c).length - (b + 1) < (Sp.cB c).length - b; omega, rfl⟩⟩
  ·obtain ⟨p1, p2, p3, p4⟩ := Sp.rgtB_perm g.2
   exact ⟨by rw [p1]; exact Nat.le_trans hbk.1 (by decide), p3⟩
  ·obtain ⟨r1, r2⟩ := (CI.1 e).2.2.2 b hbl
   have hDB : d.2.2.2.2.2.2.2.1.getD b ([], (0, 0, (0, 0, 0, ()), (0, 0, 0, ()), (0, 0, 0, ()), List.replicate 2 0, ()), ()) = (Sp.reoL (c.2.2.2.2.2.2.2.1.getD b ([], (0, 0, (0, 0, 0, ()), (0, 0, 0, ()), (0, 0, 0, ()), List.replicate 2 0, ()), ())).1 (List.getD X b []), (c.2.2.2.2.2.2.2.1.getD b ([], (0, 0, (0, 0, 0, ()), (0, 0, 0, ()), (0, 0, 0, ()), List.replicate 2 0, ()), ())).2) := r2.symm
   have r1 : Sp.rgtB (Sp.depQ c) (c.2.2.2.2.2.2.2.1.getD b ([], (0, 0, (0, 0, 0, ()), (0, 0, 0, ()), (0, 0, 0, ()), List.replicate 2 0, ()), ())).1 (List.getD X b []) = true := r1
   rw [hDB] at hbad
   dsimp only at hbad
   have hI : Sp.eqIns (Sp.reoL (c.2.2.2.2.2.2.2.1.getD b ([], (0, 0, (0, 0, 0, ()), (0, 0, 0, ()), (0, 0, 0, ()), List.replicate 2 0, ()), ())).1 (List.getD X b [])) (Sp.reoL (c.2.2.2.2.2.2.2.1.getD b ([], (0, 0, (0, 0, 0, ()), (0, 0, 0, ()), (0, 0, 0, ()), List.replicate 2 0, ()), ())).1 (List.getD X b [])) = true := (Sp.eqIns_iff _ _).2 rfl
   rw [r1, hI] at hbad;simp at hbad
  ·rcases Nat.lt_succ_iff_lt_or_eq.1 hk with g | g
   ·exact h5 k g
   ·subst g
    obtain ⟨⟨gT, gR⟩, gI⟩ := hg;refine ⟨gR, ?_⟩;have gI := (Sp.eqIns_iff _ _).1 gI;have gT2 : (Sp.blkAt c k).2.1 = (Sp.blkAt d k).2.1 := Sp.term_ext gT.1 gT.2.1 (Sp.opd_ext gT.2.2.1.1 gT.2.2.1.2.1 gT.2.2.1.2.2) (Sp.opd_ext gT.2.2.2.1.1 gT.2.2.2.1.2.1 gT.2.2.2.1.2.2) (Sp.opd_ext gT.2.2.2.2.1.1 gT.2.2.2.2.1.2.1 gT.2.2.2.2.1.2.2) gT.2.2.2.2.2;have gI : Sp.reoL (Sp.blkAt c k).1 (Sp.xsAt X k) = (Sp.blkAt d k).1 := gI;show (Sp.reoL (Sp.blkAt c k).1 (Sp.xsAt X k), (Sp.blkAt c k).2.1, (Sp.blkAt c k).2.2) = ((Sp.blkAt d k).1, (Sp.blkAt d k).2.1, (Sp.blkAt d k).2.2);rw [gI, gT2]
 ·have hge : ((Sp.cB c).length : Int) <= (b : Int) := hge
  have hbe : b = (Sp.cB c).length := by omega
  subst hbe;show (0 : Int) = Sp.chkP c d X;unfold Sp.chkP;rw [if_pos (CI.2 ⟨h2, h3, h4, h5⟩)]
end Go.User
namespace Sp
open Go.Lib
theorem lt_ext : ∀ {l l' : List Int}, l.Pairwise (· < ·) -> l'.Pairwise (· < ·) -> (∀ v, v ∈ l ↔ v ∈ l') -> l = l'
 | [], [], _, _, _ => rfl
 | [], y :: l', _, _, h => by have := (h y).2 List.mem_cons_self; cases this
 | x :: l, [], _, _, h => by have := (h x).1 List.mem_cons_self; cases this
 | x :: l, y :: l', h1, h2, h => by
  obtain ⟨a1, a2⟩ := List.pairwise_cons.1 h1;obtain ⟨b1, b2⟩ := List.pairwise_cons.1 h2;have hxy : x = y := by
   rcases List.mem_cons.1 ((h x).1 List.mem_cons_self) with e | e
   ·exact e
   ·rcases List.mem_cons.1 ((h y).2 List.mem_cons_self) with e' | e'
    ·exact e'.symm
    ·have := a1 y e'
     have := b1 x e
     omega
  subst hxy;rw [lt_ext a2 b2 fun v => ?_]
  constructor
  ·intro hv
   rcases List.mem_cons.1 ((h v).1 (List.mem_cons_of_mem _ hv)) with e | e
   ·have := a1 v hv; omega
   ·exact e
  ·intro hv
   rcases List.mem_cons.1 ((h v).2 (List.mem_cons_of_mem _ hv)) with e | e
   ·have := b1 v hv; omega
   ·exact e
def putN (n : Int) (l : List Int) : List Int := l.takeWhile (fun v => decide (v < n)) ++ [n] ++ l.dropWhile (fun v => decide (v < n))
theorem putN_cons (n a : Int) (l : List Int) : putN n (a :: l) = if a < n then a :: putN n l else n :: a :: l := by
 unfold putN
 split
 ·rename_i h
  rw [List.takeWhile_cons_of_pos (by simpa using h), List.dropWhile_cons_of_pos (by simpa using h)]; rfl
 ·rename_i h
  rw [List.takeWhile_cons_of_neg (by simpa using h), List.dropWhile_cons_of_neg (by simpa using h)]; rfl
theorem putN_mem (n : Int) : ∀ (l : List Int) (v : Int), v ∈ putN n l ↔ v = n ∨ v ∈ l
 | [], v => by unfold putN; simp
 | a :: l, v => by
  rw [putN_cons];split
  ·rw [List.mem_cons, putN_mem n l v, List.mem_cons]
   constructor
   ·rintro (h | h | h)
    ·exact .inr (.inl h)
    ·exact .inl h
    ·exact .inr (.inr h)
   ·rintro (h | h | h)
    ·exact .inr (.inl h)
    ·exact .inl h
    ·exact .inr (.inr h)
  ·rw [List.mem_cons]
theorem putN_lt (n : Int) : ∀ {l : List Int}, l.Pairwise (· < ·) -> n ∉ l -> (putN n l).Pairwise (· < ·)
 | [], _, _ => by unfold putN; simp
 | a :: l, h, hn => by
  obtain ⟨h1, h2⟩ := List.pairwise_cons.1 h;rw [putN_cons];split
  ·rename_i ha
   refine List.pairwise_cons.2 ⟨fun v hv => ?_, putN_lt n h2 (fun hm => hn (List.mem_cons_of_mem _ hm))⟩
   rcases (putN_mem n l v).1 hv with e | e
   ·omega
   ·exact h1 v e
  ·rename_i ha
   have hne : n ≠ a := fun e => hn (by rw [e]; exact List.mem_cons_self)
   refine List.pairwise_cons.2 ⟨fun v hv => ?_, h⟩
   rcases List.mem_cons.1 hv with e | e
   ·omega
   ·have := h1 v e; omega
theorem addN_mem (l : List Int) (n v : Int) : v ∈ addN l n ↔ v = n ∨ v ∈ l := by
 unfold addN
 split
 ·rename_i h
  exact ⟨.inr, fun h2 => h2.elim (fun e => e ▸ h) id⟩
 ·exact putN_mem n l v
theorem addN_lt {l : List Int} (h : l.Pairwise (· < ·)) (n : Int) : (addN l n).Pairwise (· < ·) := by
 unfold addN
 split
 ·exact h
 ·rename_i hn
  exact putN_lt n h hn
theorem regL_ok : ∀ (l : List Opd) {out : List Int}, out.Pairwise (· < ·) -> (regL l out).Pairwise (· < ·) /\ ∀ v, v ∈ regL l out ↔ v ∈ out ∨ ∃ o ∈ l, o.1 = 2 /\ o.2.1 = v
 | [], out, h => ⟨h, fun v => ⟨.inl, fun h => h.elim id fun ⟨o, ho, _⟩ => (List.not_mem_nil ho).elim⟩⟩
 | o :: l, out, h => by
  show (regL l (if o.1 = 2 then addN out o.2.1 else out)).Pairwise (· < ·) /\ ∀ v, v ∈ regL l (if o.1 = 2 then addN out o.2.1 else out) ↔ _
  split
  ·rename_i ho
   obtain ⟨h1, h2⟩ := regL_ok l (addN_lt h o.2.1);refine ⟨h1, fun v => ?_⟩
   rw [h2, addN_mem];constructor
   ·rintro ((e | e) | ⟨o', g1, g2⟩)
    ·exact .inr ⟨o, List.mem_cons_self, ho, e.symm⟩
    ·exact .inl e
    ·exact .inr ⟨o', List.mem_cons_of_mem _ g1, g2⟩
   ·rintro (e | ⟨o', g1, g2, g3⟩)
    ·exact .inl (.inr e)
    ·rcases List.mem_cons.1 g1 with rfl | g1
     ·exact .inl (.inl g3.symm)
     ·exact .inr ⟨o', g1, g2, g3⟩
  ·rename_i ho
   obtain ⟨h1, h2⟩ := regL_ok l h;refine ⟨h1, fun v => ?_⟩
   rw [h2];refine or_congr Iff.rfl ⟨fun ⟨o', g1, g2⟩ => ⟨o', List.mem_cons_of_mem _ g1, g2⟩, fun ⟨o', g1, g2, g3⟩ => ?_⟩
   rcases List.mem_cons.1 g1 with rfl | g1
   ·exact absurd g2 ho
   ·exact ⟨o', g1, g2, g3⟩
theorem compact_ok {x : List Int} (h : x.Pairwise (· <= ·)) : (compact x).Pairwise (· < ·) /\ ∀ v, v ∈ compact x ↔ v ∈ x := by
 have hle : ∀ i j, i <= j -> j < x.length -> x.toArray[i]! <= x.toArray[j]! := by
  intro i j hij hj;have hi : i < x.length := by omega
  have e1 : x.toArray[i]! = x[i] := by simp [hi]
  have e2 : x.toArray[j]! = x[j] := by simp [hj]
  rw [e1, e2];rcases Nat.lt_or_eq_of_le hij with hlt | rfl
  ·exact (List.pairwise_iff_getElem.1 h) i j hi hj hlt
  ·exact Int.le_refl _
 constructor
 ·unfold compact compactUpTo
  rw [List.pairwise_map];refine List.Pairwise.imp_of_mem (R := fun a b => a < b) ?_ (List.Pairwise.filter _ (List.pairwise_lt_range))
  intro a b ha hb hab;have hb' := List.mem_range.1 (List.mem_filter.1 hb).1;have hk := (List.mem_filter.1 hb).2;unfold keeps at hk;have hk := of_decide_eq_true hk;rcases hk with hk | hk
  ·omega
  ·have h1 := hle a (b - 1) (by omega) (by omega)
   have h2 := hle (b - 1) b (by omega) hb'
   omega
 ·intro v
  constructor
  ·exact Go.User.compact_mem
  ·intro hv
   obtain ⟨j, hj, e⟩ := List.mem_iff_getElem.1 hv;have hex : ∃ j, j < x.length /\ x.toArray[j]! = v := ⟨j, hj, by simp [hj, e]⟩
   clear e hj;obtain ⟨j, hj⟩ := hex
   induction j using Nat.strongRecOn with
   | ind j ih =>
    cases hk : keeps x.toArray j
    ·unfold keeps at hk
     have hk := of_decide_eq_false hk
     have h0 : j ≠ 0 := fun e => hk (.inl e)
     have h1 : x.toArray[j]! = x.toArray[j - 1]! := Classical.byContradiction fun hc => hk (.inr hc)
     exact ih (j - 1) (by omega) ⟨by omega, h1 ▸ hj.2⟩
    ·unfold compact compactUpTo
     exact List.mem_map.2 ⟨j, List.mem_filter.2 ⟨List.mem_range.2 hj.1, hk⟩, hj.2⟩
theorem regF_succ {l : List Opd} {i : Nat} {d : Opd} (h : i < l.length) : regF (l.take (i + 1)) = regF (l.take i) ++ (if (l.getD i d).1 = 2 then [(l.getD i d).2.1] else []) := by
 unfold regF
 rw [List.take_add_one, List.getElem?_eq_getElem h, List.getD_eq_getElem?_getD, List.getElem?_eq_getElem h, List.filter_append, List.map_append]
 simp only [Option.toList_some, Option.getD_some]
 congr 1
 split
 ·rename_i h; rw [List.filter_cons_of_pos (by simpa using h)]; rfl
 ·rename_i h; rw [List.filter_cons_of_neg (by simpa using h)]; rfl
theorem regF_len (l : List Opd) : (regF l).length <= l.length := by
 unfold regF
 rw [List.length_map]
 exact List.length_filter_le _ _
theorem reg_eq (l : List Opd) : compact ((regF l).mergeSort fun a b => decide (a <= b)) = regL l [] := by
 have hs : ((regF l).mergeSort fun a b => decide (a <= b)).Pairwise (· <= ·) := by
  have := List.pairwise_mergeSort (le := fun (a b : Int) => decide (a <= b)) (fun a b c h1 h2 => by simp at h1 h2 ⊢; omega) (fun a b => by simp; omega) (regF l)
  exact this.imp fun h => by simpa using h
 obtain ⟨h1, h2⟩ := compact_ok hs
 obtain ⟨h3, h4⟩ := regL_ok l (out := []) List.Pairwise.nil
 refine lt_ext h1 h3 fun v => ?_
 rw [h2, h4, List.mem_mergeSort]
 unfold regF
 rw [List.mem_map]
 constructor
 ·rintro ⟨o, ho, e⟩
  obtain ⟨g1, g2⟩ := List.mem_filter.1 ho;exact .inr ⟨o, g1, of_decide_eq_true g2, e⟩
 ·rintro (h | ⟨o, g1, g2, g3⟩)
  ·cases h
  ·exact ⟨o, List.mem_filter.2 ⟨g1, decide_eq_true g2⟩, g3⟩
end Sp
namespace Go.User
open Go.Lf Go.Proofs
theorem places_ok : ∀ f s, Lf.look places f = some s -> VOk Try.prog f s := by
 intro f s hs
 unfold places at hs
 simp only [Lf.look] at hs
 cases h1 : Nat.beq 73 f
 ·rw [h1] at hs
  simp only [cond_false] at hs;cases h2 : Nat.beq 74 f
  ·rw [h2] at hs; cases hs
  ·rw [h2] at hs
   have := Nat.eq_of_beq_eq_true h2
   simp only [cond_true, Option.some.injEq] at hs;rw [<- this, <- hs]; exact vk74
 ·rw [h1] at hs
  have := Nat.eq_of_beq_eq_true h1
  simp only [cond_true, Option.some.injEq] at hs;rw [<- this, <- hs]; exact vk73
theorem ok70 : FOk Try.prog 70 S70 := by
 have hC : CtxOK Try.prog C70 := okA fns_nil
 refine FOk.intro hC (stpV_ok hC places_ok) Try.call70 Try.func70 (by kernel_rfl) (by kernel_rfl) L70 ?_
 rw [vc70]
 simp only [zz, zy]
 rintro ⟨l, u⟩ hl _
 dsimp only at hl ⊢
 have hl : List.length l <= 3 := hl
 refine ⟨⟨0, Nat.zero_le _, rfl, rfl⟩, ?_⟩
 intro i hi _
 have hi : i <= List.length l := hi
 have hrl := Sp.regF_len (List.take i l)
 rw [List.length_take] at hrl
 refine ⟨fun hlt => ?_, fun hge => ?_⟩
 ·have hlt : (i : Int) < (List.length l : Int) := hlt
  refine ⟨inN_of hlt, fun hc => ⟨maxN (by omega), inK_mid (by omega) (by omega), i + 1, by show i + 1 <= List.length l; omega, by show List.length l - (i + 1) < List.length l - i; omega, rfl, ?_⟩, fun hc => ⟨inK_mid (by omega) (by omega), i + 1, by show i + 1 <= List.length l; omega, by show List.length l - (i + 1) < List.length l - i; omega, rfl, ?_⟩⟩
  ·rw [Sp.regF_succ (d := (0, 0, 0, ())) (by omega), if_pos hc]
  ·rw [Sp.regF_succ (d := (0, 0, 0, ())) (by omega), if_neg hc, List.append_nil]
 ·have hge : (List.length l : Int) <= (i : Int) := hge
  refine ⟨by omega, by rw [List.length_mergeSort]; omega, ?_⟩
  rw [List.take_of_length_le (by omega)];exact Sp.reg_eq l
theorem ok14' : FOk Try.prog 14 S14 := ok14 ok70
end Go.User
namespace Go.User
open Go Go.Proofs Go.RowKit Go.Lib Go.Lf
theorem agg_of {F : NSet} {w : World} {τ : Ty} {v : Value} {x : τ.den} (h : OwnV F w τ .shr none' v x) (ha : τ.isAgg = true) : ∃ cs : List Value, v = .agg cs.toArray /\ cs.length = τ.size /\ Go.Lf.Own F w τ .shr none' cs x := by
 obtain ⟨cs, rfl, h⟩ := h
 exact ⟨cs, by unfold slotv; rw [if_pos ha], h.len, h⟩
theorem eight (cs : List Value) (h : cs.length = 8) : ∃ a b c d e f g i, cs = [a, b, c, d, e, f, g, i] := by
 rcases cs with _ | ⟨a, _ | ⟨b, _ | ⟨c, _ | ⟨d, _ | ⟨e, _ | ⟨f, _ | ⟨g, _ | ⟨i, _ | ⟨j, l⟩⟩⟩⟩⟩⟩⟩⟩⟩ <;> simp at h
 exact ⟨a, b, c, d, e, f, g, i, rfl⟩
theorem fifteen (cs : List Value) (h : cs.length = 15) : cs = [cs.getD 0 undef, cs.getD 1 undef, cs.getD 2 undef, cs.getD 3 undef, cs.getD 4 undef, cs.getD 5 undef, cs.getD 6 undef, cs.getD 7 undef, cs.getD 8 undef, cs.getD 9 undef, cs.getD 10 undef, cs.getD 11 undef, cs.getD 12 undef, cs.getD 13 undef, cs.getD 14 undef] := by
 rcases cs with _ | ⟨a, _ | ⟨b, _ | ⟨c, _ | ⟨d, _ | ⟨e, _ | ⟨f, _ | ⟨g, _ | ⟨i, _ | ⟨j, _ | ⟨k, _ | ⟨l, _ | ⟨m, _ | ⟨n, _ | ⟨o, _ | ⟨p, _ | ⟨q, r⟩⟩⟩⟩⟩⟩⟩⟩⟩⟩⟩⟩⟩⟩⟩⟩ <;> simp at h
 rfl
theorem row_bools {w : World} {F : NSet} {A n : Nat} {f : Nat -> Value} (h : w.rowIs A 4 n f) (hF : F A) {off : Nat} {x : List Bool} (hn : off + x.length <= n) (hc : ∀ j, j < x.length -> f (off + j) = .bool (x.getD j false)) {cap : Nat} (h1 : x.length <= cap) (h2 : x.length <= lim) :
  Go.Lf.Own F w (.slice .bool) .shr none' [.slice (some ⟨A, off, none⟩) x.length cap] x := by
 obtain ⟨row, hb, hsz, hrow⟩ := h
 refine ⟨some ⟨A, off, none⟩, cap, rfl, h1, h2, .inr ⟨A, off, row, 4, (0, 0), rfl, hF, hb, ?_, ?_⟩⟩
 ·have : Ty.size .bool = 1 := rfl
  rw [this]; omega
 ·intro j b hjb
  obtain ⟨hj, rfl⟩ := List.getElem?_eq_some_iff.1 hjb;have hs : Ty.size .bool = 1 := rfl;rw [hs, Nat.mul_one];have h := hrow (off + j) (by omega);rw [hc j hj, List.getD_eq_getElem?_getD, List.getElem?_eq_getElem hj] at h;obtain ⟨hlt, hval⟩ := Array.getElem?_eq_some_iff.1 h;show List.take 1 (List.drop (off + j) row.toList) = [.bool (x[j]'hj)];rw [List.drop_eq_getElem_cons (by simpa using hlt)];simp [hval]
set_option maxHeartbeats 1000000 in
theorem ok65 : FOk Try.prog 65 S65 := by
 refine ⟨Try.call65, ?_⟩
 rintro w F vs ⟨c, l, u⟩ hG hF ⟨cv, r1, rfl, hc, lv, r2, rfl, hl, hr2⟩ hp
 have hr2 : r2 = [] := hr2
 subst hr2
 have hp : lOK c l := hp
 have hc : OwnV F w tCode .shr none' cv c := hc
 have hl : OwnV F w (.slice tInst) .shr none' lv l := hl
 obtain ⟨cs, rfl, hcl, hco⟩ := agg_of hc rfl
 obtain ⟨v0, v1, v2, v3, v4, v5, v6, v7, rfl⟩ := eight cs hcl
 obtain ⟨lcs, rfl, lo⟩ := hl
 obtain ⟨ao, cap, rfl, k1, k2, k3⟩ := lo
 have hsI : Ty.size tInst = 15 := rfl
 obtain ⟨lb, off, row, hla, hrow⟩ : ∃ (lb off : Nat) (row : Array Value), (0 < List.length l -> ao = some ⟨lb, off, none⟩) /\ (∀ j (hj : j < List.length l), (∃ (T : TypeId) (fr : Nat × Nat), F lb /\ w.heap[lb]? = some (.cells row T fr)) /\ Go.Lf.Own F w tInst .shr none' (seg row.toList (off + j * 15) 15) (l[j]'hj)) := by
  rcases k3 with k3 | ⟨lb, off, row, T, fr, k4, k5, k6, k7, k8⟩
  ·have k3 : l = [] := k3
   subst k3;exact ⟨0, 0, #[], fun h => absurd h (Nat.lt_irrefl 0), fun j hj => absurd hj (Nat.not_lt_zero j)⟩
  ·exact ⟨lb, off, row, fun _ => k4, fun j hj => ⟨⟨T, fr, k5, k6⟩, k8 j _ (List.getElem?_eq_getElem hj)⟩⟩
 have hlen : ∀ j, j < List.length l -> (seg row.toList (off + j * 15) 15).length = 15 := fun j hj => ((hrow j hj).2).len
 have hI : ∀ j, j < List.length l -> ∀ k, k < 15 -> w.cell? ⟨lb, off + j * 15 + k, none⟩ = some ((seg row.toList (off + j * 15) 15).getD k undef) := by
  intro j hj k hk;obtain ⟨⟨T, fr, _, hb⟩, _⟩ := hrow j hj;have h15 := hlen j hj;have e : (seg row.toList (off + j * 15) 15)[k]? = some ((seg row.toList (off + j * 15) 15).getD k undef) := by
   rw [List.getD_eq_getElem?_getD, List.getElem?_eq_getElem (by omega)]; rfl
  rw [<- e];simp [World.cell?, hb, seg, List.getElem?_take, hk]
 have hget : ∀ j (hj : j < List.length l), Sp.insAt l j = l[j]'hj := fun j hj => by unfold Sp.insAt; rw [List.getD_eq_getElem?_getD, List.getElem?_eq_getElem hj]; rfl
 have hval : ∀ (W : World), (∀ b, F b -> W.heap[b]? = w.heap[b]?) -> ∀ j, j < List.length l -> OwnV F W tInst .shr none' (.agg #[(seg row.toList (off + j * 15) 15).getD 0 undef, (seg row.toList (off + j * 15) 15).getD 1 undef, (seg row.toList (off + j * 15) 15).getD 2 undef, (seg row.toList (off + j * 15) 15).getD 3 undef, (seg row.toList (off + j * 15) 15).getD 4 undef, (seg row.toList (off + j * 15) 15).getD 5 undef, (seg row.toList (off + j * 15) 15).getD 6 undef, (seg row.toList (off + j * 15) 15).getD 7 undef, (seg row.toList (off + j * 15) 15).getD 8 undef, (seg row.toList (off + j * 15) 15).getD 9 undef, (seg row.toList (off + j * 15) 15).getD 10 undef, (seg row.toList (off + j * 15) 15).getD 11 undef, (seg row.toList (off + j * 15) 15).getD 12 undef, (seg row.toList (off + j * 15) 15).getD 13 undef, (seg row.toList (off + j * 15) 15).getD 14 undef]) (Sp.insAt l j) := by
  intro W hW j hj;refine ⟨seg row.toList (off + j * 15) 15, ?_, ?_⟩
  ·conv => rhs; rw [fifteen _ (hlen j hj)]
   rfl
  ·rw [hget j hj]
   exact (hrow j hj).2.congr hW (fun _ h => h.elim)
 have hins : ∀ j, j < List.length l -> instOK c (Sp.insAt l j) := fun j hj => by rw [hget j hj]; exact hp.2 _ (List.getElem_mem hj)
 have hD : ∀ (W : World), w.Since w.heap.size W -> ∀ i j, i < List.length l -> j < List.length l -> Calls Try.prog 14 #[.agg #[v0, v1, v2, v3, v4, v5, v6, v7], .agg #[(seg row.toList (off + j * 15) 15).getD 0 undef, (seg row.toList (off + j * 15) 15).getD 1 undef, (seg row.toList (off + j * 15) 15).getD 2 undef, (seg row.toList (off + j * 15) 15).getD 3 undef, (seg row.toList (off + j * 15) 15).getD 4 undef, (seg row.toList (off + j * 15) 15).getD 5 undef, (seg row.toList (off + j * 15) 15).getD 6 undef, (seg row.toList (off + j * 15) 15).getD 7 undef, (seg row.toList (off + j * 15) 15).getD 8 undef, (seg row.toList (off + j * 15) 15).getD 9 undef, (seg row.toList (off + j * 15) 15).getD 10 undef, (seg row.toList (off + j * 15) 15).getD 11 undef, (seg row.toList (off + j * 15) 15).getD 12 undef, (seg row.toList (off + j * 15) 15).getD 13 undef, (seg row.toList (off + j * 15) 15).getD 14 undef], .agg #[(seg row.toList (off + i * 15) 15).getD 0 undef, (seg row.toList (off + i * 15) 15).getD 1 undef, (seg row.toList (off + i * 15) 15).getD 2 undef, (seg row.toList (off + i * 15) 15).getD 3 undef, (seg row.toList (off + i * 15) 15).getD 4 undef, (seg row.toList (off + i * 15) 15).getD 5 undef, (seg row.toList (off + i * 15) 15).getD 6 undef, (seg row.toList (off + i * 15) 15).getD 7 undef, (seg row.toList (off + i * 15) 15).getD 8 undef, (seg row.toList (off + i * 15) 15).getD 9 undef, (seg row.toList (off + i * 15) 15).getD 10 undef, (seg row.toList (off + i * 15) 15).getD 11 undef, (seg row.toList (off + i * 15) 15).getD 12 undef, (seg row.toList (off + i * 15) 15).getD 13 undef, (seg row.toList (off + i * 15) 15).getD 14 undef]] W fun e W' => e = .returned (.bool (Sp.depP c (Sp.insAt l j) (Sp.insAt l i))) /\ Below W.heap.size W W' := by
  intro W hW i j hi hj;have hWF : ∀ b, F b -> W.heap[b]? = w.heap[b]? := fun b hb => hW.block b (hF b hb)
  have h14 := ok14'.2 W F [_, _, _] (c, Sp.insAt l j, Sp.insAt l i, ()) (GlbOK.zero F W) (fun b hb => Nat.lt_of_lt_of_le (hF b hb) hW.size) ⟨_, _, rfl, hc.congr hWF (fun _ h => h.elim), _, _, rfl, hval W hWF j hj, _, _, rfl, hval W hWF i hi, rfl⟩ ⟨hins j hj, hins i hi⟩
  refine h14.mono ?_
  rintro e W' ⟨v, F', Sd, rfl, hB, _, _, _, _, hv⟩
  obtain ⟨cs, rfl, hv⟩ := hv;have hv : cs = [.bool (Sp.depP c (Sp.insAt l j) (Sp.insAt l i))] := hv;subst hv;exact ⟨rfl, hB⟩
 refine (Mk.walk v0 v1 v2 v3 v4 v5 v6 v7 ao lb off (List.length l) cap (fun j k => (seg row.toList (off + j * 15) 15).getD k undef) (fun j i => Sp.depP c (Sp.insAt l j) (Sp.insAt l i)) w hla hp.1 hI hD).mono ?_
 rintro e w' ⟨rfl, v, f, hS, hf⟩
 have hs := hS.size
 refine ⟨_, fun b => F b ∨ b = w.heap.size + 1 ∨ b = w.heap.size + 1 + 1, none', rfl, ⟨hS.since.os, hS.since.tape, hS.since.output, hS.since.size, hS.since.block⟩, fun _ h => .inl h, fun b h h' => ?_, fun b h => ?_, fun b h => h.elim, ?_⟩
 ·rcases h with h | h | h
  ·exact absurd h h'
  ·omega
  ·omega
 ·rcases h with (h | h | h) | h
  ·have := hF b h; omega
  ·omega
  ·omega
  ·exact h.elim
 ·have hll : (Sp.mskL (Sp.depP c) l).length = List.length l := Sp.mskL_len _ _
  obtain ⟨rowT, hbT, hszT, hrowT⟩ := hS.top;refine ⟨[.slice (some ⟨w.heap.size + 1 + 1, 0, none⟩) (List.length l) (List.length l)], rfl, some ⟨w.heap.size + 1 + 1, 0, none⟩, List.length l, by rw [<- hll]; rfl, by rw [<- hll]; exact Nat.le_refl _, by have : List.length (Sp.mskL (Sp.depP c) l) <= lim := by { rw [hll]; exact k2 }; exact this, .inr ⟨w.heap.size + 1 + 1, 0, rowT, 108, (0, 0), rfl, .inr (.inr rfl), hbT, ?_, ?_⟩⟩
  ·have h1 : Ty.size (.slice .bool) = 1 := rfl
   have h2 : List.length (Sp.mskL (Sp.depP c) l) = List.length l := hll
   show 0 + List.length (Sp.mskL (Sp.depP c) l) * Ty.size (.slice .bool) <= rowT.size
   rw [h1, h2, hszT]; omega
  ·intro r x hx
   have hx : (Sp.mskL (Sp.depP c) l)[r]? = some x := hx
   obtain ⟨hr, hxe⟩ := List.getElem?_eq_some_iff.1 hx;have hrl : r < List.length l := by rw [<- hll]; exact hr
   have hxm : x = Sp.mskI (Sp.depP c) l r := by
    have := Sp.mskL_at (Sp.depP c) l hrl []
    rw [List.getD_eq_getElem?_getD, hx] at this;exact this
   have h1 : Ty.size (.slice .bool) = 1 := rfl
   rw [h1, Nat.mul_one, Nat.zero_add];have hcell := hrowT r hrl;rw [hf r hrl] at hcell;obtain ⟨hlt, hvl⟩ := Array.getElem?_eq_some_iff.1 hcell;have hseg : seg rowT.toList r 1 = [.slice (some ⟨w.heap.size + 1, r * List.length l, none⟩) r (List.length l)] := by
    show List.take 1 (List.drop r rowT.toList) = _
    rw [List.drop_eq_getElem_cons (by simpa using hlt)];simp [hvl]
   rw [hseg, hxm];have hmi := Sp.mskI_len (Sp.depP c) l r;have hrn : r * List.length l + r <= List.length l * List.length l := by
    have := Nat.mul_le_mul_right (List.length l) (show r + 1 <= List.length l by omega)
    rw [Nat.succ_mul] at this;omega
   have := row_bools (F := fun b => F b ∨ b = w.heap.size + 1 ∨ b = w.heap.size + 1 + 1) hS.long (.inr (.inl rfl)) (off := r * List.length l) (x := Sp.mskI (Sp.depP c) l r) (by rw [hmi]; exact hrn) (fun j hj => by
    rw [hmi] at hj;unfold Mk.long;obtain ⟨d1, d2⟩ := Mk.div (n := List.length l) (r := r) (c := j) (by omega);rw [d1, d2, if_pos (.inl ⟨hrl, hj⟩)];have := Sp.mskI_at (Sp.depP c) l hj false;rw [this]) (cap := List.length l) (by rw [hmi]; omega) (by rw [hmi]; exact Nat.le_trans (Nat.le_of_lt hrl) k2)
   rw [hmi] at this;exact this
end Go.User
namespace Sp
def exL (f : Bool) : List Inst :=
 [(1, 0, 0, regO 0, conO 1, opd0, opd0, ()), (8, 0, 0, opd0, regO 0, regO 0, opd0, ())] ++ (if f = true then [(10, 1, 0, opd0, opd0, opd0, opd0, ())] else []) ++ [(7, 0, 1, regO 1, regO 0, opd0, opd0, ()), (7, 0, 0, regO 2, regO 0, opd0, opd0, ()), (3, 10, 0, regO 3, regO 1, regO 2, opd0, ())]
def exC (f : Bool) : Code := (1, 1, 4, 0, 0, [([97], 1, 1, 8, ()), ([98], 1, 1, 8, ())], [], [(exL f, (5, 0, opd0, opd0, opd0, [0, 0], ()), ())], ())
def chgL (l : List Int) (i j : Int) (by' : Int) (s : Bool) : List Int := if s = true then (l.set i.toNat (l.getD j.toNat 0)).set j.toNat (l.getD i.toNat 0) else l.set i.toNat (Go.IntKind.wrap .i64 (l.getD i.toNat 0 + by'))
def chgX (X : List (List Int)) (z : Chg) : List (List Int) :=
 if X.length = 0 then [] else if (X.getD (Int.tmod z.1 (X.length : Int)).toNat []).length = 0 then X
 else X.set (Int.tmod z.1 (X.length : Int)).toNat (chgL (X.getD (Int.tmod z.1 (X.length : Int)).toNat []) (Int.tmod z.2.1 ((X.getD (Int.tmod z.1 (X.length : Int)).toNat []).length : Int)) (Int.tmod z.2.2.1 ((X.getD (Int.tmod z.1 (X.length : Int)).toNat []).length : Int)) z.2.2.2.1 z.2.2.2.2.1)
def idL (n : Nat) : List Int := (List.range n).map fun (i : Nat) => (i : Int)
def idX (c : Code) (m : Nat) : List (List Int) := (List.range m).map fun b => idL (blkAt c b).1.length
def wRg (c : Code) (n : Int) : Code := (c.1, c.2.1, n, c.2.2.2)
def z0 : Chg := (0, 0, 0, 0, false, ())
noncomputable def endT (t : Term) : Term := @ite _ (t = (1, 0, opd0, opd0, opd0, [0, 0], ())) (Classical.propDecidable _) (5, 0, opd0, opd0, opd0, [0, 0], ()) (1, 0, opd0, opd0, opd0, [0, 0], ())
noncomputable def endC (c d : Code) (b : Nat) : Code := setB d ((cB d).set b ((blkAt d b).1, endT (blkAt c b).2.1, (blkAt d b).2.2))
def twL (y : List Int) (a : Int) : List Int := y.set (Int.tmod a (y.length : Int)).toNat (xAt y (Int.tmod (a + 1) (y.length : Int)).toNat)
def dupL (l m : List Inst) (y : List Int) (k : Nat) : List Inst := (List.range m.length).map fun t => if t < k then insAt l (xAt y t).toNat else insAt m t
def dupC (c d : Code) (b : Nat) (y : List Int) (k : Nat) : Code := setB d ((cB d).set b (dupL (blkAt c b).1 (blkAt d b).1 y k, (blkAt d b).2))
end Sp
namespace Go.User
open Go.Lf
noncomputable section
def S25 : FSpec := { args := [.val .bool], multi := false, res := tCode, mode := .shr, pre := fun _ => True, fn := fun x => Sp.exC x.1 }
def C25 : Ctx := { mkC 41 [(54, S54), (55, S55)] with mds := [(2, .shr), (3, .shr), (4, .shr), (40, .shr)], frz := [35, 39], fzs := [5] }
def L25 (x : kdens S25.args) : List LoopI := []
def S10 : FSpec := { args := [.val tCode], multi := false, res := tDone, mode := .shr, pre := fun x => vOK x.1, fn := fun x => (Sp.runC Sp.depP x.1, (Sp.runX Sp.depP x.1, ()), ()) }
def C10 : Ctx := { mkC 13 [(28, S28)] with mds := [(2, .shr), (3, .shr), (4, .shr)] }
def L10 (x : kdens S10.args) : List LoopI := []
def S8 : FSpec := { args := [], multi := false, res := .bool, mode := .shr, pre := fun _ => True, fn := fun _ => true }
def C8 : Ctx := { mkC 104 [(25, S25), (10, S10), (18, S18), (26, S26), (14, S14)] with mds := [(1, .shr), (2, .shr), (3, .shr), (99, .own .shr)], frz := [49, 63, 71, 98, 99, 100] }
def L8 (x : kdens S8.args) : List LoopI := []
abbrev mOO : Md := .pair (.own (.own .shr)) .shr
def S16 : FSpec := { args := [.val tOrd, .val tChg], multi := false, res := tOrd, mode := mOO, pre := fun x => List.length x.1.1 <= 3000 /\ ∀ l ∈ (x.1.1 : List (List Int)), l.length <= 3000, fn := fun x => (Sp.chgX x.1.1 x.2.1, ()) }
def C16 : Ctx := { mkC 89 [] with mds := [(4, mOO), (5, mOO), (11, mOO), (28, .own (.own .shr))], wrp := [86] }
def L16 (x : kdens S16.args) : List LoopI := [{ ι := Nat, inv := fun b => b <= List.length x.1.1, dec := fun b => List.length x.1.1 - b, ovr := fun b => [(5, .box tOrd mOO ((List.take b x.1.1 : List (List Int)), ())), (6, .shr tI (b : Int))], keep := [2, 3, 4] }]
def C7 : Ctx := { mkC 296 [(8, S8), (21, S21), (10, S10), (18, S18), (20, S20), (16, S16)] with mds := [(6, .shr), (7, .shr), (9, mCp), (10, mCp), (11, mCp), (16, mCp), (12, mOO), (14, mOO), (15, mOO)], frz := [178, 179, 180], gow := [173, 177, 179] }
def ks (l : List Nat) (o : List (Nat × Ent)) : LoopI := { ι := Unit, inv := fun _ => True, dec := fun _ => 0, ovr := fun _ => o, keep := l }
def S7 : FSpec := { args := [.val tRaw, .val (.arr 2 tU8)], multi := false, res := .bool, mode := .shr, pre := fun _ => True, fn := fun _ => true }
def rb7 (L : List Int) (z : List Int) : Int := Int.tmod (z.getD 0 0) ((Sp.cB (Sp.madeC L)).length : Int)
def S4 : FSpec := { args := [.val tRaw, .val .bool, .val (.arr 2 tU8)], multi := false, res := .bool, mode := .shr, pre := fun _ => True, fn := fun _ => true }
def S3 : FSpec := { args := [.val tRaw, .val .bool, .val (.arr 2 tChg)], multi := false, res := .bool, mode := .shr, pre := fun _ => True, fn := fun _ => true }
end
end Go.User
namespace Go.User
open Go.Proofs Go.Lf
set_option maxRecDepth 100000
theorem vc25 : (funI C25 (stpS C25) S25 L25 Try.f25) = (
let q0 : Prop := (True /\ True) /\ True;
let q1 : Prop := True /\ True /\ True;
let q2 : Prop := q1 /\ True /\ True;
let q3 : Prop := True /\ q1;
let q4 : Prop := True /\ True /\ True /\ True /\ q3;
let q5 : Int := (1 : Int);
let q6 : Int := (0 : Int);
let q7 : Sp.Opd := Sp.regO q6;
let q8 : Sp.Opd := (q6, q6, q6, ());
let q9 : Sp.Opd × Unit := (q8, ());
let q10 : Sp.Opd × Sp.Opd × Unit := (q8, q9);
let q11 : Int := (8 : Int);
let q12 : List Sp.Inst := (q5, q6, q6, q7, Sp.conO q5, q10) :: (q11, q6, q6, q8, q7, q7, q9) :: ([] : List tInst.den);
let q13 : Nat := q12.length;
let q14 : Int := (10 : Int);
let q15 : List Sp.Inst := (q14, q5, q6, q8, q8, q10) :: ([] : List tInst.den);
let q16 : Prop := True /\ q4;
let q17 : Prop := True /\ True /\ True /\ True /\ q16;
let q18 : List Sp.Inst := q12 ++ q15;
let q19 : Int := (7 : Int);
let q20 : Sp.Opd := Sp.regO q5;
let q21 : Sp.Opd × Sp.Opd × Sp.Opd × Unit := (q7, q10);
let q22 : Sp.Opd := Sp.regO (2 : Int);
let q23 : Int := (3 : Int);
let q24 : List Sp.Inst := (q19, q6, q5, q20, q21) :: (q19, q6, q6, q22, q21) :: (q23, q14, q6, Sp.regO q23, q20, q22, q9) :: ([] : List tInst.den);
let q25 : Nat := q24.length;
let q26 : Prop := q16 /\ True /\ True;
let q27 : Int := (4 : Int);
let q28 : Sp.Opd := (q5, q5, q11, ());
let q29 : List Sp.Arr := (((97 : UInt8) :: ([] : List UInt8)), q28) :: (((98 : UInt8) :: ([] : List UInt8)), q28) :: ([] : List tArr.den);
let q30 : Sp.Term × Unit := (((5 : Int), q6, q8, q8, q8, List.replicate (2 : Nat) q6, ()), ());
∀ (x : Bool × Unit), True -> dFact Ty.bool x.1 /\ True -> q0 /\ q2 /\ q2 /\ (q4 /\ True /\ True) /\ q0 /\ (x.1 = true -> (q3 /\ (↑(q13 + q15.length) : Int) <= maxNew /\ True /\ True) /\ (q17 /\ (↑(q18.length + q25) : Int) <= maxNew /\ True /\ True) /\ q26 /\ (q5, q5, q27, q6, q6, q29, ([] : List tLoop.den), (q18 ++ q24, q30) :: ([] : List tBlk.den), ()) = Sp.exC x.1) /\ (x.1 = false -> (q17 /\ (↑(q13 + q25) : Int) <= maxNew /\ True /\ True) /\ q26 /\ (q5, q5, q27, q6, q6, q29, ([] : List tLoop.den), (q12 ++ q24, q30) :: ([] : List tBlk.den), ()) = Sp.exC x.1)) := by kernel_rfl
theorem vc10 : (funI C10 (stpS C10) S10 L10 Try.f10) = (
let q0 : Nat := (3000 : Nat);
let q1 : Prop := True /\ True /\ True;
let q2 : Prop := True /\ q1;
∀ (x : Sp.Code × Unit),
 let q3 : Nat := (Sp.cA x.1).length;
 let q4 : Prop := (q3 <= q0 /\ (Sp.cL x.1).length <= q0 /\ (Sp.cB x.1).length <= q0 /\ ∀ (b : Sp.Block), b ∈ Sp.cB x.1 -> b.1.length <= q0) /\ ∀ (b : Sp.Block), b ∈ Sp.cB x.1 -> ∀ (i : Sp.Inst), i ∈ b.1 -> Sp.opI i = (7 : Int) ∨ Sp.opI i = (8 : Int) ∨ Sp.opI i = (9 : Int) -> (0 : Int) <= Sp.nI i /\ Sp.nI i < (↑q3 : Int);
 let q5 : Sp.Done := (Sp.runC Sp.depP x.1, (Sp.runX Sp.depP x.1, ()), ());
 q4 -> dFact tCode x.1 /\ True -> (q1 /\ True) /\ ((True /\ q4 /\ True /\ True /\ q2) /\ q1) /\ (q2 /\ True /\ True) /\ q5 = q5) := by kernel_rfl
theorem vc8 : (funI C8 (stpS C8) S8 L8 Try.f8) = (
let q0 : Prop := (True /\ True) /\ True;
let q1 : Prop := True /\ True /\ True;
let q2 : Nat := (Sp.cA (Sp.exC false)).length;
let q3 : Nat := (3000 : Nat);
let q4 : Nat := (Sp.cB (Sp.exC false)).length;
let q5 : Int := (7 : Int);
let q6 : Int := (8 : Int);
let q7 : Int := (9 : Int);
let q8 : Int := (0 : Int);
let q9 : Int := (↑q2 : Int);
let q10 : Prop := (q2 <= q3 /\ (Sp.cL (Sp.exC false)).length <= q3 /\ q4 <= q3 /\ ∀ (b : Sp.Block), b ∈ Sp.cB (Sp.exC false) -> b.1.length <= q3) /\ ∀ (b : Sp.Block), b ∈ Sp.cB (Sp.exC false) -> ∀ (i : Sp.Inst), i ∈ b.1 -> Sp.opI i = q5 ∨ Sp.opI i = q6 ∨ Sp.opI i = q7 -> q8 <= Sp.nI i /\ Sp.nI i < q9;
let q11 : Nat := (Sp.cA (Sp.exC true)).length;
let q12 : Prop := (true && true) = true;
let q13 : Prop := q12 -> True;
let q14 : Prop := q12 -> q10;
let q15 : List (List Int) := Sp.runX Sp.depP (Sp.exC false);
let q16 : Nat := q15.length;
let q17 : Int := (1 : Int);
let q18 : List (List Int) := Sp.runX Sp.depP (Sp.exC true);
let q19 : Nat := q18.length;
let q20 : Bool := bif bif bif (↑q16 : Int) != q17 then true else (↑q19 : Int) != q17 then true else (↑(Sp.reoN (Sp.exC false) q15 q4).length : Int) != q17 then true else Sp.chkP (Sp.exC false) (Sp.runC Sp.depP (Sp.exC false)) q15 != q8;
let q21 : Prop := (true && bif q20 then false else true) = true;
let q22 : Prop := q21 -> True;
let q23 : Int := (100 : Int);
let q24 : Bool := bif q20 then true else Sp.chkP (Sp.exC false) (Sp.exC false) q15 != q23;
let q25 : Prop := (true && bif q24 then false else true) = true;
let q26 : Prop := q25 -> True;
let q27 : List (List Int) := ([] : List tI.slice.den);
let q28 : Bool := bif q24 then true else Sp.chkP (Sp.exC false) (Sp.exC false) q27 != q23;
let q29 : Int := (5 : Int);
let q30 : Nat := (Sp.exL false).length;
let q31 : Prop := q12 -> inN q17 q30;
let q32 : Int := (3 : Int);
let q33 : Sp.Opd := (q8, q8, q8, ());
let q34 : Sp.Inst := (q8, q8, q8, q33, q33, q33, q33, ());
let q35 : Sp.Inst := (Sp.exL false).getD q17.toNat q34;
let q36 : Int := Sp.opI q35;
let q37 : Int := Sp.nI q35;
let q38 : Prop := q36 = q5 ∨ q36 = q6 ∨ q36 = q7 -> q8 <= q37 /\ q37 < q9;
let q39 : Sp.Inst := (Sp.exL false).getD q32.toNat q34;
let q40 : Int := Sp.opI q39;
let q41 : Int := Sp.nI q39;
let q42 : Int := (2 : Int);
let q43 : Sp.Inst := (Sp.exL false).getD q42.toNat q34;
let q44 : Int := Sp.opI q43;
let q45 : Int := Sp.nI q43;
let q46 : Nat := q8.toNat;
let q47 : Int := (4 : Int);
let q48 : List Int := q32 :: q47 :: ([] : List tI.den);
∀ (x : Unit), True -> True -> q0 /\ (q1 /\ True /\ True) /\ ((True /\ q10 /\ True /\ True) /\ True /\ True) /\ ((True /\ ((q11 <= q3 /\ (Sp.cL (Sp.exC true)).length <= q3 /\ (Sp.cB (Sp.exC true)).length <= q3 /\ ∀ (b : Sp.Block), b ∈ Sp.cB (Sp.exC true) -> b.1.length <= q3) /\ ∀ (b : Sp.Block), b ∈ Sp.cB (Sp.exC true) -> ∀ (i : Sp.Inst), i ∈ b.1 -> Sp.opI i = q5 ∨ Sp.opI i = q6 ∨ Sp.opI i = q7 -> q8 <= Sp.nI i /\ Sp.nI i < (↑q11 : Int)) /\ True /\ True) /\ True /\ True) /\ ((True /\ True /\ True /\ True /\ True /\ True /\ q13 /\ q13 /\ q13 /\ q13 /\ q13 /\ True /\ True /\ q13 /\ q13 /\ q13 /\ q13 /\ q13 /\ True /\ True /\ q13 /\ q13 /\ q13 /\ q13 /\ q13 /\ q14 /\ q13 /\ True /\ True /\ q22 /\ q22 /\ q22 /\ q22 /\ (q21 -> q10) /\ q22 /\ True /\ True /\ q26 /\ q26 /\ q26 /\ (q25 -> q10) /\ q26 /\ True /\ True) /\ True) /\ (q28 = true -> q0 /\ false = true) /\ (q28 = false -> ((True /\ True /\ inN q8 ((Sp.exL false, (q29, q8, Sp.opd0, Sp.opd0, Sp.opd0, q8 :: q8 :: ([] : List Int), ()), ()) :: ([] : List Sp.Block)).length /\ True /\ q1) /\ True) /\ ((True /\ True /\ True /\ inN q8 q16 /\ True /\ True /\ True /\ True /\ q13 /\ q13 /\ q13 /\ (q12 -> inN q8 q19) /\ q13 /\ q13 /\ q13 /\ True /\ True /\ q13 /\ q13 /\ q31 /\ q13 /\ q13 /\ (q12 -> inN q32 q30) /\ q13 /\ (q12 -> q38 /\ (q40 = q5 ∨ q40 = q6 ∨ q40 = q7 -> q8 <= q41 /\ q41 < q9)) /\ True /\ True /\ q13 /\ q13 /\ q31 /\ q13 /\ q13 /\ (q12 -> inN q42 q30) /\ q13 /\ (q12 -> q38 /\ (q44 = q5 ∨ q44 = q6 ∨ q44 = q7 -> q8 <= q45 /\ q45 < q9)) /\ q13 /\ True /\ True /\ q13 /\ q13 /\ q13 /\ q13 /\ q13 /\ q14 /\ q13 /\ q1) /\ True) /\ (bif bif bif bif Sp.eqInt (q15.getD q46 (([] : List tI.den))) (q8 :: q42 :: q17 :: q48) then Sp.eqInt (q18.getD q46 (([] : List tI.den))) (q8 :: q17 :: q42 :: q32 :: q47 :: q29 :: ([] : List tI.den)) else false then Sp.depP (Sp.exC false) q35 q39 else false then !Sp.depP (Sp.exC false) q35 q43 else false then Sp.chkP (Sp.exC false) (Sp.exC false) ((q8 :: q17 :: q42 :: q48) :: q27) == q8 else false) = true)) := by kernel_rfl
theorem vc16 : (funI C16 (stpS C16) S16 L16 Try.f16) = (
let q0 : Nat := (3000 : Nat);
let q1 : Prop := True /\ True /\ True;
let q2 : Prop := True /\ q1;
let q3 : Prop := q2 /\ True;
let q4 : List (List Int) := ([] : List tI.slice.den);
let q5 : Sp.Ord := (q4, ());
let q6 : Int := (0 : Int);
let q7 : Prop := q5 = q5 /\ True;
let q8 : Prop := True /\ q2;
let q9 : List Step := Step.fst :: ([] : List Step);
let q10 : Int := (1 : Int);
let q11 : Prop := (True /\ True) /\ True /\ True;
∀ (x : Sp.Ord × (Int × Int × Int × Int × Bool × Unit) × Unit),
 let q12 : Nat := x.1.1.length;
 let q13 : Prop := x.1 = x.1 /\ x.2.1 = x.2.1 /\ q7;
 let q14 : Sp.Ord := (Sp.chgX x.1.1 x.2.1, ());
 let q15 : Int × Bool × Unit := x.2.1.2.2.2;
 let q16 : Bool := q15.2.1;
 (q12 <= q0 /\ ∀ (l : List Int), l ∈ x.1.1 -> l.length <= q0) ->
 dFact tOrd x.1 /\ dFact (tU8.prod (tU8.prod (tU8.prod (tI.prod (Ty.bool.prod Ty.unit))))) x.2.1 /\ True ->
 q3 /\
 (q1 /\ True /\ True) /\
 ((True /\ True) /\ True) /\
 (∃ (x_1 : Nat), x_1 <= q12 /\ q5 = (List.take x_1 x.1.1, ()) /\ q6 = (↑x_1 : Int) /\ q13) /\
 ∀ (x_1 : Nat),
 let q17 : List (List Int) := List.take x_1 x.1.1;
 let q18 : Sp.Ord := (q17, ());
 let q19 : Bool := decide ((↑x_1 : Int) < (↑q12 : Int));
 let q20 : List Int := x.1.1.getD (↑x_1 : Int).toNat (([] : List tI.den));
 let q21 : Nat := q17.length;
 let q22 : List (List Int) := q20 :: q4;
 let q23 : Int := (↑x_1 : Int) + q10;
 let q24 : Int := (↑q21 : Int);
 let q25 : Bool := q24 == q6;
 let q26 : Prop := q11 /\ q18 = q14;
 let q27 : Int := x.2.1.1.tmod q24;
 let q28 : Nat := q27.toNat;
 let q29 : List Int := q17.getD q28 (([] : List tI.den));
 let q30 : Nat := q29.length;
 let q31 : Int := (↑q30 : Int);
 let q32 : Bool := q31 == q6;
 let q33 : Prop := (True /\ True /\ True /\ True /\ True /\ q31 ≠ q6 /\ True /\ True) /\ True;
 let q34 : Int := x.2.1.2.1.tmod q31;
 let q35 : Prop := inN q34 q30;
 let q36 : Int := x.2.1.2.2.1.tmod q31;
 let q37 : Prop := True /\ q35 /\ True;
 let q38 : Nat := q34.toNat;
 let q39 : Nat := q36.toNat;
 let q40 : List (List Int) := q17.set q28 (q29.set q38 (q29.getD q39 q6));
 let q41 : List Int := q40.getD q28 (([] : List tI.den));
 let q42 : Int := q29.getD q38 q6;
 x_1 <= q12 -> dFact tOrd q18 /\ dFact tI (↑x_1 : Int) /\ True -> ((True /\ q8) /\ True) /\ (q19 = true -> ((True /\ True /\ True /\ True /\ True /\ True /\ inN (↑x_1 : Int) q12 /\ True /\ (↑((0 : Nat) + q20.length) : Int) <= maxNew /\ True /\ True) /\ (↑(q21 + q22.length) : Int) <= maxNew /\ True /\ q9 = q9 /\ True) /\ ((True /\ inK IntKind.i64 q23 /\ True /\ True) /\ True) /\ ∃ (y : Nat), y <= q12 /\ q12 - y < q12 - x_1 /\ (q17 ++ q22, ()) = (List.take y x.1.1, ()) /\ q23 = (↑y : Int) /\ q13) /\ (q19 = false -> (q8 /\ True) /\ (q25 = true -> q26) /\ (q25 = false -> ((True /\ True /\ True /\ True /\ True /\ True /\ True /\ True /\ q24 ≠ q6 /\ inN q27 q21 /\ q1) /\ True) /\ q3 /\ (q32 = true -> q26) /\ (q32 = false -> q33 /\ q33 /\ (q1 /\ True) /\ (q16 = true -> ((True /\ True /\ q35 /\ q1) /\ True) /\ ((True /\ True /\ True /\ True /\ inN q36 q30 /\ q37) /\ True /\ True) /\ ((True /\ True /\ True /\ inN q36 q41.length /\ True) /\ True /\ True) /\ q11 /\ (q40.set q28 (q41.set q39 q42), ()) = q14) /\ (q16 = false -> ((True /\ True /\ q35 /\ True /\ True /\ True /\ q37) /\ True /\ True) /\ q11 /\ (q17.set q28 (q29.set q38 (IntKind.i64.wrap (q42 + q15.1))), ()) = q14))))) := by kernel_rfl
end Go.User
namespace Sp
structure wI (i : Inst) : Prop where
 arr : opI i = 7 ∨ opI i = 8 ∨ opI i = 9 -> 0 <= nI i /\ nI i < 5
 pri : opI i = 9 -> nI i ≠ 3
 slt : opI i = 11 ∨ opI i = 12 -> 0 <= nI i
 reg : (dI i).1 = 2 -> 0 <= (dI i).2.1
 wr : opI i = 7 ∨ opI i = 11 -> (dI i).1 = 2
structure VI (s : Mk) : Prop where
 byt : Byt s
 ins : ∀ b ∈ cB s.2.2.1, ∀ i ∈ b.1, wI i
theorem wI.plain {i : Inst} (h : opI i < 7 ∨ opI i = 10) (hd : (dI i).1 = 2 -> 0 <= (dI i).2.1) : wI i :=
 ⟨fun h' => by omega, fun h' => by omega, fun h' => by omega, hd, fun h' => by omega⟩
theorem VI.nx {s : Mk} (h : VI s) : VI (nxM s) := ⟨h.byt, h.ins⟩
theorem VI.reg {s : Mk} (h : VI s) : 0 <= (regV s).2.1 := (tmod_bd (nxV_bd s h.byt).1 (by decide)).1
theorem VI.put {s : Mk} (h : VI s) {i : Inst} (hi : wI i) : VI (putM s i) := by
 refine ⟨h.byt, ?_⟩
 intro b hb j hj
 rcases mem_set_cases (show b ∈ List.set _ _ _ from hb) with hb | rfl
 ·exact h.ins b hb j hj
 ·rcases List.mem_append.1 (show j ∈ _ ++ [i] from hj) with hj | hj
  ·rcases Nat.lt_or_ge ((cB s.2.2.1).length - 1) (cB s.2.2.1).length with hl | hl
   ·rw [List.getD_eq_getElem?_getD, List.getElem?_eq_getElem hl] at hj; exact h.ins _ (List.getElem_mem hl) j hj
   ·rw [List.getD_eq_getElem?_getD, List.getElem?_eq_none hl] at hj; exact (List.not_mem_nil hj).elim
  ·rw [List.mem_singleton.1 hj]; exact hi
theorem VI.bl {s : Mk} (h : VI s) : VI (blkM s) := by
 refine ⟨h.byt, ?_⟩
 intro b hb j hj
 rcases List.mem_append.1 (show b ∈ cB s.2.2.1 ++ [blk0] from hb) with hb | hb
 ·exact h.ins b hb j hj
 ·rw [List.mem_singleton.1 hb] at hj; exact (List.not_mem_nil hj).elim
theorem VI.wR {s : Mk} (h : VI s) (k : Int) : VI (wR s k) := ⟨h.byt, h.ins⟩
theorem VI.wL {s : Mk} (h : VI s) (l : Loop) : VI (wL s l) := ⟨h.byt, h.ins⟩
theorem VI.wS {s : Mk} (h : VI s) (k : Int) : VI (wS s k) := ⟨h.byt, h.ins⟩
theorem VI.wT {s : Mk} (h : VI s) (b : Int) (t : Term) : VI (wT s b t) := by
 refine ⟨h.byt, ?_⟩
 intro c hc j hj
 rcases mem_set_cases (show c ∈ List.set _ _ _ from hc) with hc | rfl
 ·exact h.ins c hc j hj
 ·have hj : j ∈ ((cB s.2.2.1).getD b.toNat blk0).1 := hj
  rcases Nat.lt_or_ge b.toNat (cB s.2.2.1).length with hl | hl
  ·rw [List.getD_eq_getElem?_getD, List.getElem?_eq_getElem hl] at hj; exact h.ins _ (List.getElem_mem hl) j hj
  ·rw [List.getD_eq_getElem?_getD, List.getElem?_eq_none hl] at hj; exact (List.not_mem_nil hj).elim
theorem VI.pl {s : Mk} (h : VI s) (p : Bool) : VI (plM s p) := h.nx.nx.nx.put (.plain (.inl (by show (3 : Int) < 7; decide)) fun _ => h.nx.reg)
theorem plN_bd {s : Mk} (h : VI s) (p : Bool) : 0 <= plN s p /\ plN s p < 5 := by
 unfold plN
 split
 ·omega
 ·exact tmod_bd (nxV_bd s h.byt).1 (by decide)
theorem plN_pri {s : Mk} : plN s false ≠ 3 := by
 unfold plN
 split
 ·decide
 ·rename_i h
  exact fun e => h ⟨e, rfl⟩
theorem VI.inst {s : Mk} (h : VI s) : VI (instM s) := by
 unfold instM instF
 have h1 := h.nx
 split
 ·exact h1.nx.nx.put (.plain (.inl (by show (5 : Int) < 7; decide)) fun _ => h1.nx.reg)
 split
 ·exact h1.nx.nx.nx.nx.put (.plain (.inl (by show (3 : Int) < 7; decide)) fun _ => h1.nx.reg)
 split
 ·exact h1.nx.nx.nx.put (.plain (.inl (by show (2 : Int) < 7; decide)) fun _ => h1.nx.reg)
 split
 ·exact h1.nx.nx.nx.nx.put (.plain (.inl (by show (4 : Int) < 7; decide)) fun _ => h1.reg)
 split
 ·exact h1.nx.nx.put (.plain (.inl (by show (1 : Int) < 7; decide)) fun _ => h1.reg)
 split
 ·exact h1.nx.nx.put (.plain (.inl (by show (6 : Int) < 7; decide)) fun _ => h1.nx.reg)
 split
 ·exact h1.nx.put (.plain (.inr rfl) fun e => by exact absurd (show (0 : Int) = 2 from e) (by decide))
 split
 ·refine (h1.pl false).nx.nx.put ⟨fun _ => plN_bd h1 false, fun _ => plN_pri, fun e => ?_, fun e => by exact absurd (show (0 : Int) = 2 from e) (by decide), fun e => ?_⟩
  ·have e : (9 : Int) = 11 ∨ (9 : Int) = 12 := e; omega
  ·have e : (9 : Int) = 7 ∨ (9 : Int) = 11 := e; omega
 split
 ·refine (h1.pl true).nx.put ⟨fun _ => plN_bd h1 true, fun e => ?_, fun e => ?_, fun _ => (h1.pl true).reg, fun _ => rfl⟩
  ·have e : (7 : Int) = 9 := e; omega
  ·have e : (7 : Int) = 11 ∨ (7 : Int) = 12 := e; omega
 ·refine (h1.pl true).nx.put ⟨fun _ => plN_bd h1 true, fun e => ?_, fun e => ?_, fun e => by exact absurd (show (0 : Int) = 2 from e) (by decide), fun e => ?_⟩
  ·have e : (8 : Int) = 9 := e; omega
  ·have e : (8 : Int) = 11 ∨ (8 : Int) = 12 := e; omega
  ·have e : (8 : Int) = 7 ∨ (8 : Int) = 11 := e; omega
theorem VI.instN : ∀ {k : Nat} {s : Mk}, VI s -> VI (instN k s)
 | 0, s, h => h
 | k + 1, s, h => VI.instN (k := k) (s := instM s) h.inst
theorem VI.insM {s : Mk} (h : VI s) : VI (insM s) := VI.instN h.nx
theorem lpN_nn (s : Mk) : 0 <= lpN s := by unfold lpN; omega
theorem VI.lp6 {s : Mk} (h : VI s) : VI (lp6 s) := by
 have a1 : VI (lp1 s) := VI.put (i := i3 1 0 0 (regO (lpN s)) (conO 0) opd0) (h.nx.wR _) (.plain (.inl (by show (1 : Int) < 7; decide)) fun _ => lpN_nn s)
 have a2 : VI (lp2 s) := ((a1.wT _ _).wL _).bl
 have a3 : VI (lp3 s) := a2.put (.plain (.inl (by show (3 : Int) < 7; decide)) fun _ => by have := lpN_nn s; show 0 <= lpN s + 1; omega)
 have a4 : VI (lp4 s) := (a3.wT _ _).bl
 have a5 : VI (lp5 s) := (VI.put (i := i3 3 10 0 (regO (lpN s)) (regO (lpN s)) (conO 1)) a4 (.plain (.inl (by show (3 : Int) < 7; decide)) fun _ => lpN_nn s)).insM
 exact a5.wT _ _
theorem VI.lp {s : Mk} (h : VI s) : VI (lpM s) := by
 unfold lpM
 split
 ·exact h.lp6.nx.nx.wT _ _
 ·exact h.lp6.nx
theorem VI.rg2 {s : Mk} (h : VI s) (b last : Int) : VI (rg2 b last s) := by
 unfold Sp.rg2
 split
 ·exact h.nx.nx.nx.nx.wT _ _
 ·exact h.nx
theorem VI.rgN {last : Int} : ∀ {k : Nat} {s : Mk}, VI s -> VI (rgN last k s)
 | 0, s, h => h
 | k + 1, s, h => VI.rgN (k := k) (s := rgS (last - ((k + 1 : Nat) : Int)) last s) (((h.insM.wT _ _).rg2 _ _).bl)
theorem VI.rg {s : Mk} (h : VI s) (n : Int) : VI (rgM s n) := (VI.rgN h.bl).insM
theorem VI.sbN : ∀ {k : Nat} {s : Mk}, VI s -> VI (sbN k s)
 | 0, s, h => h
 | k + 1, s, h => by
  show VI (if _ then _ else _)
  split
  ·exact VI.sbN (h.wS _)
  ·exact h
theorem VI.q2 {s : Mk} (h : VI s) : VI (q2 s) := by
 unfold Sp.q2
 split
 ·exact h.nx.lp.bl
 ·exact h.nx
theorem VI.q4 {s : Mk} (h : VI s) (b : Int) : VI (q4 b s) := by
 unfold Sp.q4
 split
 ·exact h.nx.nx.nx.nx.nx.wT _ _
 ·exact h.nx
theorem VI.mdS {s : Mk} (h : VI s) : VI (mdS s) := ((h.nx.rg _).q2.wT _ _).q4 _
theorem VI.mdN : ∀ {k : Nat} {s : Mk}, VI s -> VI (mdN k s)
 | 0, s, h => h
 | k + 1, s, h => @VI.mdN k (Sp.mdS s) h.mdS
theorem VI.q5 {s : Mk} (h : VI s) : VI (q5 s) := by
 unfold Sp.q5
 split
 ·exact h.nx.lp.bl.insM
 ·exact h.nx
theorem VI.md5 (L : List Int) (hb : Byt (md0 L)) : VI (md5 L) := by
 have a1 : VI (md1 L) := ⟨hb, fun b hb => (List.not_mem_nil hb).elim⟩
 have a2 : VI (md2 L) := VI.sbN a1.nx
 have a3 : VI (md3 L) := VI.mdN a2.nx
 exact ((a3.nx.rg _).q5).wT _ _
theorem made_wI (L : List Int) (hb : Byt (md0 L)) : ∀ b ∈ cB (madeC L), ∀ i ∈ b.1, wI i := (VI.md5 L hb).ins
theorem made_ne (L : List Int) (hb : Byt (md0 L)) : 0 < (cB (madeC L)).length := by
 have h := (MkOK.md4 L hb).2.1
 show 0 < (setT _ _ _).length
 unfold setT
 rw [List.length_set]; exact h
structure wC (c : Code) : Prop where
 arr : cA c = arrs
 ne : 0 < (cB c).length
 bd : (cB c).length <= 800 /\ (cL c).length <= 800 /\ ∀ b ∈ cB c, b.1.length <= 2400
 ins : ∀ b ∈ cB c, ∀ i ∈ b.1, wI i
end Sp
namespace Go.User
open Sp
theorem wC_made (L : List Int) (hb : Byt (md0 L)) : wC (madeC L) := by
 obtain ⟨_, g2, g3, g4⟩ := made_ok L hb
 have g5 := ((made_ok L hb).mono (show 800 <= 2400 by omega)).2.2.2
 exact ⟨made_arr L hb, made_ne L hb, ⟨g3, g2, g5⟩, made_wI L hb⟩
theorem cB_setB (c : Sp.Code) (B : List Sp.Block) : Sp.cB (Sp.setB c B) = B := rfl
theorem _root_.Sp.wC.v {c : Sp.Code} (h : Sp.wC c) : vOK c := by
 refine ⟨⟨by rw [h.arr]; decide, by have := h.bd.2.1; omega, by have := h.bd.1; omega, fun b hb => by have := h.bd.2.2 b hb; omega⟩, ?_⟩
 intro b hb i hi hop
 rw [h.arr]
 exact (h.ins b hb i hi).arr hop
end Go.User
namespace Sp
theorem spc_arr {c : Code} (h : cA c = arrs) {n : Int} (h0 : 0 <= n) (h5 : n < 5) (h3 : n ≠ 3) : spc c n ≠ 3 := by
 unfold spc
 rw [h]
 have hc : n = 0 ∨ n = 1 ∨ n = 2 ∨ n = 4 := by omega
 rcases hc with rfl | rfl | rfl | rfl <;> decide
theorem depP_eq {c : Code} (ha : cA c = arrs) {i j : Inst} (hi : wI i) (hj : wI j) : depP c i j = depR c i j := by
 unfold depP depR
 have key : accB (accI c i) (accI c j) = (arrB i && arrB j && decide (nI i = nI j) && (!decide (opI i = 7) || !decide (opI j = 7) || visB c i) || sltB i && sltB j && decide (nI i = nI j) && (!decide (opI i = 11) || !decide (opI j = 11)) || strB i && visB c j || strB j && visB c i) := by
  have hcase : ∀ i : Inst, wI i -> (opI i = 7 /\ 0 <= nI i) ∨ (opI i = 8 /\ 0 <= nI i) ∨ (opI i = 9 /\ 0 <= nI i /\ spc c (nI i) ≠ 3) ∨ opI i = 10 ∨ (opI i = 11 /\ 0 <= nI i) ∨ (opI i = 12 /\ 0 <= nI i) ∨ (opI i ≠ 7 /\ opI i ≠ 8 /\ opI i ≠ 9 /\ opI i ≠ 10 /\ opI i ≠ 11 /\ opI i ≠ 12) := by
   intro i hi;have hA := hi.arr;have hS := hi.slt;by_cases e7 : opI i = 7
   ·exact .inl ⟨e7, (hA (.inl e7)).1⟩
   by_cases e8 : opI i = 8
   ·exact .inr (.inl ⟨e8, (hA (.inr (.inl e8))).1⟩)
   by_cases e9 : opI i = 9
   ·exact .inr (.inr (.inl ⟨e9, (hA (.inr (.inr e9))).1, spc_arr ha (hA (.inr (.inr e9))).1 (hA (.inr (.inr e9))).2 (hi.pri e9)⟩))
   by_cases e10 : opI i = 10
   ·exact .inr (.inr (.inr (.inl e10)))
   by_cases e11 : opI i = 11
   ·exact .inr (.inr (.inr (.inr (.inl ⟨e11, hS (.inl e11)⟩))))
   by_cases e12 : opI i = 12
   ·exact .inr (.inr (.inr (.inr (.inr (.inl ⟨e12, hS (.inr e12)⟩)))))
   exact .inr (.inr (.inr (.inr (.inr (.inr ⟨e7, e8, e9, e10, e11, e12⟩)))))
  unfold accB accI arrB sltB visB strB;rcases hcase i hi with ⟨hi1, hi2⟩ | ⟨hi1, hi2⟩ | ⟨hi1, hi2, hi3⟩ | hi1 | ⟨hi1, hi2⟩ | ⟨hi1, hi2⟩ | ⟨g1, g2, g3, g4, g5, g6⟩ <;>
  rcases hcase j hj with ⟨hj1, hj2⟩ | ⟨hj1, hj2⟩ | ⟨hj1, hj2, hj3⟩ | hj1 | ⟨hj1, hj2⟩ | ⟨hj1, hj2⟩ | ⟨k1, k2, k3, k4, k5, k6⟩ <;>
  (try simp [*, ac0, strB, arrB]) <;> (try (intros; omega))
 rw [key]
 generalize hitB i j = x1
 generalize hitB j i = x2
 simp only [Bool.or_assoc]
end Sp
namespace Sp
theorem visB_arr {c : Code} (ha : cA c = arrs) {i : Inst} (hi : wI i) (hA : arrB i = true) : visB c i = !decide (spc c (nI i) = 3) := by
 unfold visB
 rw [hA, Bool.true_and]
 cases hs : strB i
 ·rfl
 ·have h9 : opI i = 9 := by
   unfold strB at hs; unfold arrB at hA;simp only [Bool.or_eq_true, decide_eq_true_eq] at hs hA;omega
  have hb := hi.arr (.inr (.inr h9))
  rw [decide_eq_false (spc_arr ha hb.1 hb.2 (hi.pri h9))]; rfl
theorem bool6 : ∀ a b s t p q : Bool, (a || b || s || t || p || q) = (b || a || s || t || q || p) := by decide
theorem depR_symm {c : Code} (ha : cA c = arrs) {i j : Inst} (hi : wI i) (hj : wI j) : depR c i j = depR c j i := by
 have h1 : (arrB i && arrB j && decide (nI i = nI j) && (!decide (opI i = 7) || !decide (opI j = 7) || visB c i)) = (arrB j && arrB i && decide (nI j = nI i) && (!decide (opI j = 7) || !decide (opI i = 7) || visB c j)) := by
  cases hA : arrB i
  ·cases arrB j <;> rfl
  ·cases hB : arrB j
   ·rfl
   ·by_cases h : nI i = nI j
    ·rw [visB_arr ha hi hA, visB_arr ha hj hB, h, Bool.or_comm (!decide (opI i = 7))]
    ·rw [show decide (nI i = nI j) = false from decide_eq_false h, show decide (nI j = nI i) = false from decide_eq_false (fun e => h e.symm)]; rfl
 have h2 : (sltB i && sltB j && decide (nI i = nI j) && (!decide (opI i = 11) || !decide (opI j = 11))) = (sltB j && sltB i && decide (nI j = nI i) && (!decide (opI j = 11) || !decide (opI i = 11))) := by
  rw [Bool.and_comm (sltB i), Bool.or_comm (!decide (opI i = 11)), decide_eq_decide.2 (eq_comm (a := nI i))]
 unfold depR
 rw [h1, h2]
 exact bool6 _ _ _ _ _ _
theorem insAt_mem {l : List Inst} {n : Nat} (h : n < l.length) : insAt l n ∈ l := by
 unfold insAt
 rw [List.getD_eq_getElem?_getD, List.getElem?_eq_getElem h]
 exact List.getElem_mem h
theorem ordN_take (f : List Int -> Int) : ∀ {n k : Nat}, k <= n -> (ordN f n).take k = ordN f k
 | 0, k, h => by
  have : k = 0 := by omega
  subst this; rfl
 | n + 1, k, h => by
  rcases Nat.lt_or_ge n k with g | g
  ·have : k = n + 1 := by omega
   subst this;exact List.take_of_length_le (by rw [ordN_len]; exact Nat.le_refl _)
  ·show (ordN f n ++ [f (ordN f n)]).take k = _
   rw [List.take_append_of_le_length (by rw [ordN_len]; exact g), ordN_take f g]
theorem ordN_at (f : List Int -> Int) {n k : Nat} (h : k < n) : xAt (ordN f n) k = f (ordN f k) := by
 have h1 : xAt (ordN f n) k = xAt ((ordN f n).take (k + 1)) k := by
  unfold xAt;rw [List.getD_eq_getElem?_getD, List.getD_eq_getElem?_getD, List.getElem?_take, if_pos (Nat.lt_succ_self k)]
 rw [h1, ordN_take f h]
 show xAt (ordN f k ++ [f (ordN f k)]) k = _
 unfold xAt
 rw [List.getD_eq_getElem?_getD, List.getElem?_append_right (by rw [ordN_len]; exact Nat.le_refl _), ordN_len, Nat.sub_self]; rfl
theorem take_not {x : List Int} (hn : x.Nodup) {i j : Nat} (hij : i <= j) (hj : j < x.length) : xAt x j ∉ x.take i := by
 intro h
 obtain ⟨p, hp, e⟩ := List.mem_iff_getElem.1 h
 rw [List.length_take] at hp
 have hp2 : p < x.length := by omega
 have e2 : xAt x p = xAt x j := by
  rw [<- e, List.getElem_take];unfold xAt;rw [List.getD_eq_getElem?_getD, List.getElem?_eq_getElem hp2]; rfl
 have a1 := idx_of_at hn hp2
 have a2 := idx_of_at hn hj
 rw [e2, a2] at a1
 omega
theorem rgt_of_rdy {dep : Inst -> Inst -> Bool} {l : List Inst} {x : List Int} (hl : x.length = l.length) (hr : ∀ k, k < l.length -> 0 <= xAt x k /\ xAt x k < (l.length : Int) /\ rdyB dep l (x.take k) (xAt x k).toNat = true) :
  rgtB (fun a b => dep b a) l x = true := by
 have hnot : ∀ k, k < l.length -> xAt x k ∉ x.take k := by
  intro k hk;obtain ⟨h0, _, h2⟩ := hr k hk;have := ((rdyB_iff dep l _ _).1 h2).1
  rwa [Int.toNat_of_nonneg h0] at this
 have hnd : ∀ k, k <= l.length -> (x.take k).Nodup := by
  intro k
  induction k with
  | zero => intro _; exact List.nodup_nil
  | succ k ih =>
   intro hk;exact nodup_take_succ (d := 0) (by omega) (ih (by omega)) (hnot k (by omega))
 have hn : x.Nodup := by
  have := hnd l.length (Nat.le_refl _)
  rwa [List.take_of_length_le (by omega)] at this
 have hrange : ∀ v ∈ x, 0 <= v /\ v < (l.length : Int) := by
  intro v hv;have h1 := idx_at hv;have h2 := List.idxOf_lt_length_of_mem hv;obtain ⟨g1, g2, _⟩ := hr _ (by omega : x.idxOf v < l.length);rw [h1] at g1 g2;exact ⟨g1, g2⟩
 refine (rgtB_iff _ l x).2 ⟨hl, in_perm hl hn hrange, fun i hi j hj => ?_⟩
 cases hb : badP (fun a b => dep b a) l x i j
 ·rfl
 ·exfalso
  obtain ⟨b1, b2, b3⟩ := (badP_iff _ _ _ _ _).1 hb;obtain ⟨g1, g2, g3⟩ := hr i (by omega);obtain ⟨k1, k2, _⟩ := hr j (by omega);rcases ((rdyB_iff dep l _ _).1 g3).2 (xAt x j).toNat (by omega) with h | h
  ·rw [Int.toNat_of_nonneg k1] at h
   exact take_not hn (Nat.le_of_lt b1) hj h
  ·rw [h] at b3; cases b3
theorem lst_rdy (dep : Inst -> Inst -> Bool) (l : List Inst) {k : Nat} (hk : k < l.length) : 0 <= xAt (lstO dep l) k /\ xAt (lstO dep l) k < (l.length : Int) /\ rdyB dep l ((lstO dep l).take k) (xAt (lstO dep l) k).toNat = true := by
 obtain ⟨m, hm, e, hr, _⟩ := stpO_spec dep l (out := ordN (stpO dep l) k) (by rw [ordN_len]; exact hk)
 unfold lstO
 rw [ordN_at _ hk, ordN_take _ (Nat.le_of_lt hk), e, Int.toNat_natCast]
 exact ⟨by omega, by omega, hr⟩
theorem lst_rgt (dep : Inst -> Inst -> Bool) (l : List Inst) : rgtB (fun a b => dep b a) l (lstO dep l) = true := rgt_of_rdy (lstO_len dep l) fun k hk => lst_rdy dep l hk
theorem reoL_len (l : List Inst) (x : List Int) : (reoL l x).length = x.length := by unfold reoL; rw [List.length_map]
theorem reoL_at (l : List Inst) (x : List Int) {p : Nat} (h : p < x.length) : insAt (reoL l x) p = insAt l (xAt x p).toNat := by
 unfold reoL xAt
 show List.getD _ _ _ = _
 rw [List.getD_eq_getElem?_getD, List.getElem?_map, List.getElem?_eq_getElem h, List.getD_eq_getElem?_getD, List.getElem?_eq_getElem h]; rfl
theorem ins_ext {a b : List Inst} (hl : a.length = b.length) (h : ∀ i, i < a.length -> insAt a i = insAt b i) : a = b := ext_getD inst0 hl h
theorem idL_len (n : Nat) : (idL n).length = n := by unfold idL; rw [List.length_map, List.length_range]
theorem idL_at {n i : Nat} (h : i < n) : xAt (idL n) i = (i : Int) := getD_map_range _ h 0
theorem idL_mem {n : Nat} {v : Int} : v ∈ idL n ↔ 0 <= v /\ v < (n : Int) := by
 unfold idL
 rw [List.mem_map]
 constructor
 ·rintro ⟨i, hi, rfl⟩
  have := List.mem_range.1 hi
  omega
 ·rintro ⟨h1, h2⟩
  exact ⟨v.toNat, List.mem_range.2 (by omega), by omega⟩
theorem reoL_id (l : List Inst) : reoL l (idL l.length) = l := by
 refine ins_ext (by rw [reoL_len, idL_len]) fun i hi => ?_
 rw [reoL_len, idL_len] at hi
 rw [reoL_at _ _ (by rw [idL_len]; exact hi), idL_at hi, Int.toNat_natCast]
theorem idL_rgt (dep : Inst -> Inst -> Bool) (l : List Inst) : rgtB dep l (idL l.length) = true := by
 refine (rgtB_iff _ _ _).2 ⟨idL_len _, fun n hn => idL_mem.2 ⟨by omega, by omega⟩, fun i hi j hj => ?_⟩
 rw [idL_len] at hi hj
 unfold badP
 rw [idL_at hi, idL_at hj]
 by_cases h : i < j
 ·rw [decide_eq_false (by omega : ¬ (j : Int) < (i : Int)), Bool.and_false]; rfl
 ·rw [decide_eq_false h]; rfl
end Sp
namespace Sp
theorem cB_reo (c : Code) (X : List (List Int)) : cB (reoC c X) = reoN c X (cB c).length := rfl
theorem cB_reo_len (c : Code) (X : List (List Int)) : (cB (reoC c X)).length = (cB c).length := reoN_len c X _
theorem blkAt_reo (c : Code) (X : List (List Int)) {b : Nat} (h : b < (cB c).length) : blkAt (reoC c X) b = reoK c X b := by
 unfold blkAt
 rw [cB_reo, reoN_at c X _ h, if_pos h]
theorem mem_blkAt {c : Code} {b : Block} (h : b ∈ cB c) : ∃ k, k < (cB c).length /\ b = blkAt c k := by
 obtain ⟨k, hk, e⟩ := List.mem_iff_getElem.1 h
 refine ⟨k, hk, ?_⟩
 unfold blkAt
 rw [List.getD_eq_getElem?_getD, List.getElem?_eq_getElem hk]; exact e.symm
theorem wC.reo {c : Code} {X : List (List Int)} (h : wC c) (hX : ∀ b, b < (cB c).length -> (xsAt X b).length <= 2400 /\ ∀ k ∈ xsAt X b, 0 <= k /\ k < ((blkAt c b).1.length : Int)) : wC (reoC c X) := by
 refine ⟨h.arr, by rw [cB_reo_len]; exact h.ne, ⟨by rw [cB_reo_len]; exact h.bd.1, h.bd.2.1, ?_⟩, ?_⟩
 ·intro b hb
  obtain ⟨k, hk, rfl⟩ := mem_blkAt hb;rw [cB_reo_len] at hk;rw [blkAt_reo c X hk];show (reoL _ _).length <= _;rw [reoL_len]; exact (hX k hk).1
 ·intro b hb i hi
  obtain ⟨k, hk, rfl⟩ := mem_blkAt hb;rw [cB_reo_len] at hk;rw [blkAt_reo c X hk] at hi;obtain ⟨v, hv, rfl⟩ := List.mem_map.1 (show i ∈ List.map _ _ from hi);have := (hX k hk).2 v hv;exact h.ins _ (blkAt_mem hk) _ (insAt_mem (by omega))
theorem wC.rgt {c : Code} {X : List (List Int)} {dep : Inst -> Inst -> Bool} (h : wC c) (hX : ∀ b, b < (cB c).length -> rgtB dep (blkAt c b).1 (xsAt X b) = true) : wC (reoC c X) :=
 h.reo fun b hb => by
  obtain ⟨h1, _, h3, _⟩ := rgtB_perm (hX b hb);exact ⟨by rw [h1]; exact h.bd.2.2 _ (blkAt_mem hb), h3⟩
def okX (c : Code) (X : List (List Int)) : Prop := X.length = (cB c).length /\ ∀ b, b < (cB c).length -> rgtB (depQ c) (blkAt c b).1 (xsAt X b) = true
theorem rgtA_iff (c : Code) (X : List (List Int)) : rgtA depQ c X = true ↔ okX c X := by
 unfold rgtA okX
 rw [Bool.and_eq_true, decide_eq_true_iff, all_range]
theorem chkP_if (c d : Code) (X : List (List Int)) : chkP c d X = @ite _ (okX c X /\ reoC c X = d) (Classical.propDecidable _) 0 100 := by
 unfold chkP
 by_cases h : okX c X /\ reoC c X = d
 ·rw [if_pos h, if_pos (by rw [Bool.and_eq_true, rgtA_iff, eqCode_iff']; exact h)]
 ·rw [if_neg h, if_neg (by rw [Bool.and_eq_true, rgtA_iff, eqCode_iff']; exact h)]
theorem chkP_ok {c d : Code} {X : List (List Int)} (h1 : okX c X) (h2 : reoC c X = d) : chkP c d X = 0 := by rw [chkP_if, if_pos ⟨h1, h2⟩]
theorem chkP_no {c d : Code} {X : List (List Int)} (h : ¬ (okX c X /\ reoC c X = d)) : chkP c d X = 100 := by rw [chkP_if, if_neg h]
theorem run_okX (c : Code) : okX c (runX depP c) := ⟨runX_len _ _, fun b hb => by rw [runX_at depP c hb]; exact lst_rgt (depP c) _⟩
theorem run_chk (c : Code) : chkP c (runC depP c) (runX depP c) = 0 := chkP_ok (run_okX c) rfl
theorem wC.run {c : Code} (h : wC c) : wC (runC depP c) := h.rgt (run_okX c).2
theorem wC.dep {c : Code} (h : wC c) {b : Nat} (hb : b < (cB c).length) : ∀ i ∈ (blkAt c b).1, ∀ j ∈ (blkAt c b).1, depP c i j = depR c i j :=
 fun i hi j hj => depP_eq h.arr (h.ins _ (blkAt_mem hb) i hi) (h.ins _ (blkAt_mem hb) j hj)
theorem wC.depQ {c : Code} (h : wC c) {b : Nat} (hb : b < (cB c).length) : ∀ i ∈ (blkAt c b).1, ∀ j ∈ (blkAt c b).1, Sp.depQ c i j = depR c i j :=
 fun i hi j hj => by
  show depP c j i = _
  rw [h.dep hb j hj i hi, depR_symm h.arr (h.ins _ (blkAt_mem hb) j hj) (h.ins _ (blkAt_mem hb) i hi)]
theorem okX.w {c : Code} {X : List (List Int)} (h : wC c) (g : okX c X) : wC (reoC c X) := h.rgt g.2
theorem idX_len (c : Code) (n : Nat) : (idX c n).length = n := by unfold idX; rw [List.length_map, List.length_range]
theorem idX_at (c : Code) {n b : Nat} (h : b < n) : xsAt (idX c n) b = idL (blkAt c b).1.length := getD_map_range _ h _
theorem code_blk {a b : Code} (h : headB a b = true) (hl : (cB a).length = (cB b).length) (hB : ∀ k, k < (cB a).length -> blkAt a k = blkAt b k) : a = b := code_ext' h (ext_getD blk0 hl hB)
theorem id_okX (c : Code) : okX c (idX c (cB c).length) := ⟨idX_len _ _, fun b hb => by rw [idX_at c hb]; exact idL_rgt _ _⟩
theorem reoC_id (c : Code) : reoC c (idX c (cB c).length) = c := by
 refine code_blk ((headB_iff' _ _).2 ⟨rfl, rfl, rfl, rfl, rfl, rfl, rfl⟩) (cB_reo_len _ _) fun b hb => ?_
 rw [cB_reo_len] at hb
 rw [blkAt_reo c _ hb]
 unfold reoK
 rw [idX_at c hb, reoL_id]
end Sp
namespace Go.User
open Go.Lf Go.Proofs
theorem ok25 : FOk Try.prog 25 S25 := by
 have hC : CtxOK Try.prog C25 := okC (fns_cons ok54 (fns_cons ok55 fns_nil)) rfl rfl rfl rfl rfl rfl rfl
 refine FOk.intro hC (stpS_ok hC) Try.call25 Try.func25 (by kernel_rfl) (by kernel_rfl) L25 ?_
 rw [vc25]
 simp only [zz, zy]
 rintro ⟨f, u⟩ _
 dsimp only
 refine ⟨fun h => ?_, fun h => ?_⟩
 ·subst h; exact ⟨by decide, by decide, rfl⟩
 ·subst h; exact ⟨by decide, rfl⟩
theorem ok10 : FOk Try.prog 10 S10 := by
 have hC : CtxOK Try.prog C10 := okC (fns_cons (ok28 ok65) fns_nil) rfl rfl rfl rfl rfl rfl rfl
 refine FOk.intro hC (stpS_ok hC) Try.call10 Try.func10 (by kernel_rfl) (by kernel_rfl) L10 ?_
 rw [vc10]
 simp only [zz, zy]
 intro x hv _
 first | exact ⟨hv, rfl⟩ | exact hv
set_option maxHeartbeats 1000000 in
theorem ok16 : FOk Try.prog 16 S16 := by
 have hC : CtxOK Try.prog C16 := okC fns_nil rfl rfl rfl rfl rfl rfl rfl
 refine FOk.intro hC (stpS_ok hC) Try.call16 Try.func16 (by kernel_rfl) (by kernel_rfl) L16 ?_
 rw [vc16]
 simp only [zz, zy]
 rintro ⟨X, z, u⟩ hx hd
 obtain ⟨X, u2⟩ := X
 dsimp only at hx hd ⊢
 have hX : List.length X <= 3000 := hx.1
 refine ⟨⟨0, Nat.zero_le _, rfl, rfl⟩, ?_⟩
 intro b hb _
 have hb : b <= List.length X := hb
 have hbl : (List.take b X).length = b := by rw [List.length_take]; omega
 refine ⟨fun hlt => ?_, fun hge => ?_⟩
 ·have hlt : (b : Int) < (List.length X : Int) := hlt
  have hbX : b < List.length X := by omega
  have hm : X.getD b [] ∈ X := by
   rw [List.getD_eq_getElem?_getD, List.getElem?_eq_getElem hbX]; exact List.getElem_mem hbX
  have := hx.2 _ hm
  refine ⟨⟨⟨inN_of hlt, maxN (by omega)⟩, maxN (by omega)⟩, inK_mid (by omega) (by omega), b + 1, by show b + 1 <= List.length X; omega, by show List.length X - (b + 1) < List.length X - b; omega, ?_, rfl⟩
  rw [List.take_add_one, List.getElem?_eq_getElem hbX, List.getD_eq_getElem?_getD, List.getElem?_eq_getElem hbX]; rfl
 ·have hge : (List.length X : Int) <= (b : Int) := hge
  have e : List.take b X = X := List.take_of_length_le (by omega)
  rw [e];have e8 : ∀ v : Int, Go.Lf.inK .u8 v -> 0 <= v := fun v h => h.1
  obtain ⟨z1, z2, z3, z4, z5, _⟩ := z;have d1 : 0 <= z1 := hd.2.1.1;have d2 : 0 <= z2 := hd.2.2.1.1;have d3 : 0 <= z3 := hd.2.2.2.1.1
  dsimp only
  refine ⟨fun h0 => ?_, fun h0 => ?_⟩
  ·have : X = [] := List.eq_nil_of_length_eq_zero (by omega)
   subst this; rfl
  ·have hpos : 0 < List.length X := by omega
   have hB := Sp.tmod_bd d1 (k := (List.length X : Int)) (by omega)
   have ec : Sp.chgX X (z1, z2, z3, z4, z5, ()) = if (X.getD (Int.tmod z1 (List.length X : Int)).toNat []).length = 0 then X
     else X.set (Int.tmod z1 (List.length X : Int)).toNat (Sp.chgL (X.getD (Int.tmod z1 (List.length X : Int)).toNat []) (Int.tmod z2 ((X.getD (Int.tmod z1 (List.length X : Int)).toNat []).length : Int)) (Int.tmod z3 ((X.getD (Int.tmod z1 (List.length X : Int)).toNat []).length : Int)) z4 z5) := by
    unfold Sp.chgX;rw [if_neg (by omega)]
   rw [ec];have hin : inN (Int.tmod z1 (List.length X : Int)) (List.length X) := ⟨hB.1, hB.2⟩;generalize Int.tmod z1 (List.length X : Int) = B at *;have hBn : B.toNat < List.length X := by omega
   have hgs : ∀ v : List Int, (X.set B.toNat v).getD B.toNat [] = v := fun v => by rw [Sp.getD_set _ _ _ _ _ hBn, if_pos rfl]
   have hss : ∀ v w : List Int, (X.set B.toNat v).set B.toNat w = X.set B.toNat w := fun v w => Sp.set_set' _ _ _ _
   generalize X.getD B.toNat [] = l at *
   refine ⟨⟨h0, hin⟩, fun h1 => ?_, fun h1 => ?_⟩
   ·rw [if_pos (by omega)]
   ·have hlp : 0 < List.length l := by omega
    have hI := Sp.tmod_bd d2 (k := (List.length l : Int)) (by omega)
    have hJ := Sp.tmod_bd d3 (k := (List.length l : Int)) (by omega)
    rw [if_neg (by omega), hgs];have hii : inN (Int.tmod z2 (List.length l : Int)) (List.length l) := ⟨hI.1, hI.2⟩;have hjj : inN (Int.tmod z3 (List.length l : Int)) (List.length l) := ⟨hJ.1, hJ.2⟩;generalize Int.tmod z2 (List.length l : Int) = I at *;generalize Int.tmod z3 (List.length l : Int) = J at *;refine ⟨h1, h1, fun h5 => ?_, fun h5 => ?_⟩
    ·subst h5
     exact ⟨hii, ⟨hjj, hii⟩, by rw [List.length_set]; exact hjj, by rw [hss]; rfl⟩
    ·subst h5
     exact ⟨hii, rfl⟩
end Go.User
namespace Sp
theorem ex_run0 : runX depP (exC false) = [[0, 2, 1, 3, 4]] := by kernel_rfl
theorem ex_run1 : runX depP (exC true) = [[0, 1, 2, 3, 4, 5]] := by kernel_rfl
theorem ex_dep3 : depP (exC false) (insAt (exL false) 1) (insAt (exL false) 3) = true := by kernel_rfl
theorem ex_dep2 : depP (exC false) (insAt (exL false) 1) (insAt (exL false) 2) = false := by kernel_rfl
theorem ex_chk2 : chkP (exC false) (exC false) (runX depP (exC false)) = 100 := by
 refine chkP_no ?_
 rintro ⟨_, h⟩
 have h1 := congrArg (fun c => opI (insAt (blkAt c 0).1 1)) h
 rw [ex_run0] at h1
 have e1 : opI (insAt (blkAt (reoC (exC false) [[0, 2, 1, 3, 4]]) 0).1 1) = 7 := by kernel_rfl
 have e2 : opI (insAt (blkAt (exC false) 0).1 1) = 8 := by kernel_rfl
 have h1 : opI (insAt (blkAt (reoC (exC false) [[0, 2, 1, 3, 4]]) 0).1 1) = opI (insAt (blkAt (exC false) 0).1 1) := h1
 rw [e1, e2] at h1
 cases h1
theorem ex_chk3 : chkP (exC false) (exC false) [] = 100 := by
 refine chkP_no ?_
 rintro ⟨⟨h, _⟩, _⟩
 cases h
theorem ex_chk4 : chkP (exC false) (exC false) [[0, 1, 2, 3, 4]] = 0 := chkP_ok (id_okX (exC false)) (reoC_id (exC false))
end Sp
namespace Go.User
open Go.Lf Go.Proofs
theorem ex_v (f : Bool) : vOK (Sp.exC f) := by
 have h : ∀ i ∈ Sp.exL f, (Sp.opI i = 7 ∨ Sp.opI i = 8 ∨ Sp.opI i = 9 -> 0 <= Sp.nI i /\ Sp.nI i < 2) /\ (Sp.exL f).length <= 3000 := by
  cases f <;> decide
 refine ⟨⟨by show 2 <= 3000; omega, by show 0 <= 3000; omega, by show 1 <= 3000; omega, ?_⟩, ?_⟩
 ·intro b hb
  rw [List.mem_singleton.1 (show b ∈ [_] from hb)];exact (h _ (List.mem_cons_self ..)).2
 ·intro b hb i hi
  rw [List.mem_singleton.1 (show b ∈ [_] from hb)] at hi;exact (h i hi).1
set_option maxHeartbeats 1000000 in
theorem ok8 : FOk Try.prog 8 S8 := by
 have hC : CtxOK Try.prog C8 := okC (fns_cons ok25 (fns_cons ok10 (fns_cons (ok18 ok65) (fns_cons ok26 (fns_cons ok14' fns_nil))))) rfl rfl rfl rfl rfl rfl rfl
 refine FOk.intro hC (stpS_ok hC) Try.call8 Try.func8 (by kernel_rfl) (by kernel_rfl) L8 ?_
 rw [vc8]
 simp only [zz, zy]
 have v0 := ex_v false
 have v1 := ex_v true
 have hl : (Sp.exL false).length = 5 := rfl
 have hin : ∀ n : Nat, n < 5 -> inN (n : Int) (Sp.exL false).length := fun n hn => ⟨by omega, by rw [hl]; omega⟩
 have hi : ∀ n : Nat, n < 5 -> (Sp.opI ((Sp.exL false).getD n Sp.inst0) = 7 ∨ Sp.opI ((Sp.exL false).getD n Sp.inst0) = 8 ∨ Sp.opI ((Sp.exL false).getD n Sp.inst0) = 9 ->
   0 <= Sp.nI ((Sp.exL false).getD n Sp.inst0) /\ Sp.nI ((Sp.exL false).getD n Sp.inst0) < ((Sp.cA (Sp.exC false)).length : Int)) := fun n hn => v0.2 _ (List.mem_singleton.2 rfl) _ (Sp.insAt_mem (l := Sp.exL false) hn)
 rw [Sp.run_chk, Sp.ex_chk2, Sp.ex_chk3, Sp.ex_chk4, Sp.ex_run0, Sp.ex_run1]
 refine ⟨v0, v1, ⟨v0, fun _ => v0, fun _ => v0⟩, fun h => ?_, fun _ => ?_⟩
 ·exact absurd h (by decide)
 ·refine ⟨⟨by decide, by decide⟩, ⟨⟨by decide, by decide⟩, ⟨by decide, by decide⟩, hin 1 (by omega), hin 3 (by omega), ⟨hi 1 (by omega), hi 3 (by omega)⟩, hin 1 (by omega), hin 2 (by omega), ⟨hi 1 (by omega), hi 2 (by omega)⟩, v0⟩, ?_⟩
  have d3 := Sp.ex_dep3
  have d2 := Sp.ex_dep2
  unfold Sp.insAt at d3 d2;exact ⟨⟨⟨⟨by decide, by decide⟩, d3⟩, d2⟩, rfl⟩
end Go.User
namespace Go.User
open Go.Proofs Go.Lf
set_option maxRecDepth 100000
end Go.User
namespace Sp
theorem bd_mem {X : List (List Int)} {n : Nat} (h : ∀ b, (xsAt X b).length <= n) : ∀ l ∈ X, l.length <= n := by
 intro l hl
 obtain ⟨k, hk, e⟩ := List.mem_iff_getElem.1 hl
 have := h k
 unfold xsAt at this
 rwa [List.getD_eq_getElem?_getD, List.getElem?_eq_getElem hk, Option.getD_some, e] at this
theorem run_at_len (dep : Code -> Inst -> Inst -> Bool) (c : Code) (b : Nat) : (xsAt (runX dep c) b).length = (blkAt c b).1.length := by
 rcases Nat.lt_or_ge b (cB c).length with h | h
 ·rw [runX_at dep c h, lstO_len]
 ·have e1 : xsAt (runX dep c) b = [] := by
   unfold xsAt;rw [List.getD_eq_getElem?_getD, List.getElem?_eq_none (by rw [runX_len]; exact h)]; rfl
  have e2 : blkAt c b = blk0 := by
   unfold blkAt;rw [List.getD_eq_getElem?_getD, List.getElem?_eq_none h]; rfl
  rw [e1, e2]; rfl
theorem blk_len {c : Code} (h : wC c) (b : Nat) : (blkAt c b).1.length <= 2400 := by
 rcases Nat.lt_or_ge b (cB c).length with g | g
 ·exact h.bd.2.2 _ (blkAt_mem g)
 ·have e2 : blkAt c b = blk0 := by
   unfold blkAt;rw [List.getD_eq_getElem?_getD, List.getElem?_eq_none g]; rfl
  rw [e2]; exact Nat.zero_le _
end Sp
namespace Go.User
open Go.Lf Go.Proofs
theorem _root_.Sp.wC.inst {c : Sp.Code} (h : Sp.wC c) {b : Nat} (hb : b < (Sp.cB c).length) {n : Nat} (hn : n < (Sp.blkAt c b).1.length) : instOK c (Sp.insAt (Sp.blkAt c b).1 n) := h.v.2 _ (Sp.blkAt_mem hb) _ (Sp.insAt_mem hn)
end Go.User
namespace Go.User
open Go.Lf Go.Proofs
end Go.User
namespace Go.User
open Go.Lf Go.Proofs
theorem byte_at {l : List Int} (h : ∀ v ∈ l, 0 <= v /\ v <= 255) (i : Nat) : 0 <= l.getD i 0 /\ l.getD i 0 <= 255 := by
 rw [List.getD_eq_getElem?_getD]
 rcases Nat.lt_or_ge i l.length with g | g
 ·rw [List.getElem?_eq_getElem g]; exact h _ (List.getElem_mem g)
 ·rw [List.getElem?_eq_none g]; exact ⟨Int.le_refl _, by decide⟩
theorem codeOK5 {c : Sp.Code} (h : Sp.wC c) : codeOK 5000 c := h.v.1.mono (by omega)
end Go.User
namespace Sp
def fence : Inst := (10, 1, 0, opd0, opd0, opd0, opd0, ())
def moreC (d : Code) (b : Nat) : Code := setB d ((cB d).set b ((blkAt d b).1 ++ [fence], (blkAt d b).2))
def longX (X : List (List Int)) (b : Nat) : List (List Int) := X.set b (xsAt X b ++ [((xsAt X b).length : Int)])
def shortX (X : List (List Int)) (b : Nat) : List (List Int) := X.set b ((xsAt X b).drop 1)
def twX (X : List (List Int)) (b : Nat) (a : Int) : List (List Int) := X.set b (twL (xsAt X b) a)
end Sp
namespace Go.User
open Go.Lf
noncomputable section
abbrev S7o : FSpec := S7
def ksp (p : Prop) (l : List Nat) (o : List (Nat × Ent)) : LoopI := { ι := Unit, inv := fun _ => p, dec := fun _ => 0, ovr := fun _ => o, keep := l }
abbrev C7o : Ctx := C7
def T7o (x : kdens S7.args) : KT :=
 let L := x.1.1
 let c := Sp.madeC L
 let D := Sp.runC Sp.depP c
 let X := Sp.runX Sp.depP c
 let b := rb7 L x.2.1
 let a := (x.2.1 : List Int).getD 1 0
 let e : Nat × Ent := (8, .shr tI b)
 let n : Nat × Ent := (13, .shr tI ((List.length (Sp.xsAt X b.toNat) : Nat) : Int))
 (.s (.i []) (.s (.i []) (.s (.i []) (.s (.i []) (.s (.i []) (.s (.i []) (.s (.i []) (.s (.i []) (.s (.i []) (.s (.i []) (.s (.i []) (.c (ks [3, 5, 6, 7, 9] [e, (10, .box tCode mCp (Sp.endC c D b.toNat))]) (.i []) (fun _ => (.s (.i []) (.s (.i []) (.s (.i []) (.c (ks [3, 5, 6, 7, 10] [e, (9, .box tCode mCp (Sp.wRg D (D.2.2.1 + 1))), (11, .box tCode mCp (Sp.moreC D b.toNat)), (12, .box tOrd mOO (Sp.longX X b.toNat, ()))]) (.i []) (fun _ => (.c (ks [3, 5, 6, 7] [e]) (.i []) (fun _ => (.s (.i []) (.c (ksp (List.length (Sp.xsAt X b.toNat) ≠ 0) [3, 5, 6, 7] [e, n]) (.i []) (fun _ => (.s (.i []) (.c (ks [3, 5, 6, 7] [e, n, (14, .box tOrd (.pair (.own .shr) .shr) (Sp.shortX X b.toNat, ()))]) (.y 14 (.pair (.own .shr) .shr) []) (fun _ => (.s (.i []) (.c (ks [5, 6, 7, 14] [e, n, (15, .box tOrd mOO (Sp.twX X b.toNat a, ()))]) (.i []) (fun _ => (.s (.i []) (.s (.i [{ ι := Nat, inv := fun k => k <= List.length (Sp.xsAt X b.toNat), dec := fun k => List.length (Sp.xsAt X b.toNat) - k, ovr := fun k => [(16, .box tCode mCp (Sp.dupC c D b.toNat (Sp.xsAt (Sp.twX X b.toNat a) b.toNat) k)), (17, .shr tI (k : Int))], keep := [5, 6, 7, 8, 13, 14, 15] }]) (.i []))))))))))))))))))))))))))))))))
end
end Go.User
namespace Sp
def RI (s : Mk) : Prop := 0 <= s.2.2.1.2.2.1 /\ s.2.2.1.2.2.1 <= 8 + 2 * ((cL s.2.2.1).length : Int)
theorem RI.nx {s : Mk} (h : RI s) : RI (nxM s) := h
theorem RI.put {s : Mk} (h : RI s) (i : Inst) : RI (putM s i) := h
theorem RI.bl {s : Mk} (h : RI s) : RI (blkM s) := h
theorem RI.wT {s : Mk} (h : RI s) (b : Int) (t : Term) : RI (wT s b t) := h
theorem RI.wS {s : Mk} (h : RI s) (n : Int) : RI (wS s n) := h
theorem RI.wL {s : Mk} (h : RI s) (l : Loop) : RI (wL s l) := by
 refine ⟨h.1, ?_⟩
 have := h.2
 show s.2.2.1.2.2.1 <= 8 + 2 * ((cL s.2.2.1 ++ [l]).length : Int)
 rw [List.length_append, List.length_singleton]
 omega
theorem RI.pl {s : Mk} (h : RI s) (p : Bool) : RI (plM s p) := h
theorem RI.inst {s : Mk} (h : RI s) : RI (instM s) := by
 unfold instM instF
 repeat' split
 all_goals exact h
theorem RI.instN : ∀ {k : Nat} {s : Mk}, RI s -> RI (instN k s)
 | 0, s, h => h
 | k + 1, s, h => RI.instN (k := k) (s := instM s) h.inst
theorem RI.insM {s : Mk} (h : RI s) : RI (insM s) := RI.instN h.nx
theorem RI.lp6 {s : Mk} (h : RI s) : RI (lp6 s) := by
 have a0 : RI (Sp.wR (nxM s) (lpN s + 2)) := by
  refine ⟨?_, ?_⟩
  ·show 0 <= lpN s + 2
   have := lpN_nn s; omega
  ·show lpN s + 2 <= 8 + 2 * ((cL s.2.2.1).length : Int)
   unfold lpN; omega
 have a1 : RI (lp1 s) := a0.put _
 have a2 : RI (lp2 s) := ((a1.wT _ _).wL _).bl
 have a3 : RI (lp3 s) := a2.put _
 have a4 : RI (lp4 s) := (a3.wT _ _).bl
 have a5 : RI (lp5 s) := (a4.put _).insM
 exact a5.wT _ _
theorem RI.lp {s : Mk} (h : RI s) : RI (lpM s) := by
 unfold lpM
 split
 ·exact h.lp6.nx.nx.wT _ _
 ·exact h.lp6.nx
theorem RI.rg2 {s : Mk} (h : RI s) (b last : Int) : RI (rg2 b last s) := by
 unfold Sp.rg2
 split
 ·exact h.nx.nx.nx.nx.wT _ _
 ·exact h.nx
theorem RI.rgN {last : Int} : ∀ {k : Nat} {s : Mk}, RI s -> RI (rgN last k s)
 | 0, s, h => h
 | k + 1, s, h => RI.rgN (k := k) (s := rgS (last - ((k + 1 : Nat) : Int)) last s) (((h.insM.wT _ _).rg2 _ _).bl)
theorem RI.rg {s : Mk} (h : RI s) (n : Int) : RI (rgM s n) := (RI.rgN h.bl).insM
theorem RI.sbN : ∀ {k : Nat} {s : Mk}, RI s -> RI (sbN k s)
 | 0, s, h => h
 | k + 1, s, h => by
  show RI (if _ then _ else _)
  split
  ·exact RI.sbN (h.wS _)
  ·exact h
theorem RI.q2 {s : Mk} (h : RI s) : RI (q2 s) := by
 unfold Sp.q2
 split
 ·exact h.nx.lp.bl
 ·exact h.nx
theorem RI.q4 {s : Mk} (h : RI s) (b : Int) : RI (q4 b s) := by
 unfold Sp.q4
 split
 ·exact h.nx.nx.nx.nx.nx.wT _ _
 ·exact h.nx
theorem RI.mdS {s : Mk} (h : RI s) : RI (mdS s) := ((h.nx.rg _).q2.wT _ _).q4 _
theorem RI.mdN : ∀ {k : Nat} {s : Mk}, RI s -> RI (mdN k s)
 | 0, s, h => h
 | k + 1, s, h => @RI.mdN k (Sp.mdS s) h.mdS
theorem RI.q5 {s : Mk} (h : RI s) : RI (q5 s) := by
 unfold Sp.q5
 split
 ·exact h.nx.lp.bl.insM
 ·exact h.nx
theorem RI.md5 (L : List Int) : RI (md5 L) := by
 have a1 : RI (md1 L) := ⟨by show (0 : Int) <= 6; decide, by show (6 : Int) <= 8 + 2 * ((0 : Nat) : Int); decide⟩
 have a2 : RI (md2 L) := RI.sbN a1.nx
 have a3 : RI (md3 L) := RI.mdN a2.nx
 exact ((a3.nx.rg _).q5).wT _ _
theorem made_regs (L : List Int) (hb : Byt (md0 L)) : 0 <= (madeC L).2.2.1 /\ (madeC L).2.2.1 <= 2000 := by
 obtain ⟨h1, h2⟩ := RI.md5 L
 have h3 : (cL (madeC L)).length <= 800 := (Go.User.made_ok L hb).2.1
 have h2 : (madeC L).2.2.1 <= 8 + 2 * ((cL (madeC L)).length : Int) := h2
 exact ⟨h1, by omega⟩
theorem xs_set {X : List (List Int)} {b : Nat} (h : b < X.length) (v : List Int) : xsAt (X.set b v) b = v := by
 unfold xsAt
 rw [getD_set _ _ _ _ _ h, if_pos rfl]
theorem blk_set {c : Code} {b : Nat} (h : b < (cB c).length) (v : Block) : blkAt (setB c ((cB c).set b v)) b = v := by
 unfold blkAt
 rw [Go.User.cB_setB, getD_set _ _ _ _ _ h, if_pos rfl]
theorem chk_wide (c : Code) (X : List (List Int)) (D : Code) (hD : D.2.2.1 = c.2.2.1) : chkP c (wRg D (D.2.2.1 + 1)) X = 100 := by
 refine chkP_no ?_
 rintro ⟨_, h⟩
 have h2 := congrArg (fun c : Code => c.2.2.1) h
 have h2 : c.2.2.1 = D.2.2.1 + 1 := h2
 omega
theorem endT_ne (t : Term) : endT t ≠ t := by
 unfold endT
 by_cases h : t = (1, 0, opd0, opd0, opd0, [0, 0], ())
 ·rw [if_pos h, h]
  intro e;have := congrArg (fun t : Term => t.1) e
  exact absurd this (by decide)
 ·rw [if_neg h]
  exact fun e => h e.symm
theorem chk_end (c : Code) (X : List (List Int)) {D : Code} {b : Nat} (hb : b < (cB c).length) (hD : (cB D).length = (cB c).length) : chkP c (endC c D b) X = 100 := by
 refine chkP_no ?_
 rintro ⟨_, h⟩
 have h2 := congrArg (fun c : Code => (blkAt c b).2.1) h
 have h2 : (blkAt (reoC c X) b).2.1 = (blkAt (endC c D b) b).2.1 := h2
 unfold endC at h2
 rw [blkAt_reo c X hb, blk_set (by omega)] at h2
 exact endT_ne _ h2.symm
theorem chk_more (c : Code) {X : List (List Int)} {D : Code} {b : Nat} (hb : b < (cB c).length) (hD : D = reoC c X) : chkP c (moreC D b) X = 100 := by
 refine chkP_no ?_
 rintro ⟨_, h⟩
 rw [<- hD] at h
 have h2 := congrArg (fun c : Code => (blkAt c b).1.length) h
 have h2 : (blkAt D b).1.length = (blkAt (moreC D b) b).1.length := h2
 unfold moreC at h2
 rw [blk_set (by rw [hD, cB_reo_len]; exact hb)] at h2
 dsimp only at h2
 rw [List.length_append, List.length_singleton] at h2
 omega
theorem chk_len (c d : Code) {X : List (List Int)} {b : Nat} (hb : b < (cB c).length) (h : (xsAt X b).length ≠ (blkAt c b).1.length) : chkP c d X = 100 := by
 refine chkP_no ?_
 rintro ⟨h1, _⟩
 exact h (rgtB_perm (h1.2 b hb)).1
theorem chk_app (c d : Code) {X : List (List Int)} (h : X.length ≠ (cB c).length) : chkP c d X = 100 := by
 refine chkP_no ?_
 rintro ⟨h1, _⟩
 exact h h1.1
theorem next_ne {a n : Int} (h0 : 0 <= a) (hn : 2 <= n) : Int.tmod a n ≠ Int.tmod (a + 1) n := by
 rw [Int.tmod_eq_emod_of_nonneg h0, Int.tmod_eq_emod_of_nonneg (by omega)]
 intro h
 have h1 := Int.mul_ediv_add_emod a n
 have h2 := Int.mul_ediv_add_emod (a + 1) n
 rw [<- h] at h2
 have h3 : n * ((a + 1) / n) - n * (a / n) = 1 := by omega
 rw [<- Int.mul_sub] at h3
 generalize (a + 1) / n - a / n = q at h3
 rcases (show 0 < q ∨ q <= 0 by omega) with hq | hq
 ·have := Int.mul_le_mul_of_nonneg_left (show 1 <= q by omega) (show 0 <= n by omega)
  omega
 ·have := Int.mul_le_mul_of_nonneg_left (show q <= 0 by omega) (show 0 <= n by omega)
  omega
theorem tw_dup {y : List Int} {a : Int} (h0 : 0 <= a) (hn : 2 <= y.length) : ¬ (twL y a).Nodup := by
 intro hnd
 have hI := tmod_bd h0 (k := (y.length : Int)) (by omega)
 have hJ := tmod_bd (a := a + 1) (by omega) (k := (y.length : Int)) (by omega)
 have hne := next_ne h0 (n := (y.length : Int)) (by omega)
 unfold twL at hnd
 generalize Int.tmod a (y.length : Int) = I at *
 generalize Int.tmod (a + 1) (y.length : Int) = J at *
 have hlen : (y.set I.toNat (xAt y J.toNat)).length = y.length := List.length_set ..
 have e1 : xAt (y.set I.toNat (xAt y J.toNat)) I.toNat = xAt y J.toNat := by
  show List.getD _ _ _ = _
  rw [getD_set _ _ _ _ _ (by omega), if_pos rfl]
 have e2 : xAt (y.set I.toNat (xAt y J.toNat)) J.toNat = xAt y J.toNat := by
  show List.getD _ _ _ = _
  rw [getD_set _ _ _ _ _ (by omega), if_neg (by omega)]; rfl
 have a1 := idx_of_at hnd (p := I.toNat) (by omega)
 have a2 := idx_of_at hnd (p := J.toNat) (by omega)
 rw [e1] at a1
 rw [e2, a1] at a2
 omega
theorem chk_tw (c d : Code) {X : List (List Int)} {b : Nat} {a : Int} (hb : b < (cB c).length) (hX : X.length = (cB c).length) (h0 : 0 <= a) (hn : 2 <= (xsAt X b).length) : chkP c d (twX X b a) = 100 := by
 refine chkP_no ?_
 rintro ⟨h1, _⟩
 have h2 := (rgtB_perm (h1.2 b hb)).2.1
 unfold twX at h2
 rw [xs_set (by omega)] at h2
 exact tw_dup h0 hn h2
theorem chg_none {X : List (List Int)} (hX : ∀ b, ∀ v ∈ xsAt X b, 0 <= v /\ v < 1000000) : chgX X z0 = X := by
 unfold chgX
 split
 ·rename_i h
  exact (List.eq_nil_of_length_eq_zero h).symm
 ·rename_i h
  split
  ·rfl
  ·rename_i h1
   show X.set (Int.tmod 0 _).toNat (chgL _ (Int.tmod 0 _) (Int.tmod 0 _) 0 false) = X
   have e0 : ∀ n : Int, Int.tmod 0 n = 0 := fun n => Int.zero_tmod n
   have h1 : ¬ (X.getD (Int.tmod 0 _).toNat []).length = 0 := h1
   rw [e0] at h1;simp only [e0];show X.set 0 (chgL (X.getD 0 []) 0 0 0 false) = X;have h1 : ¬ (X.getD 0 []).length = 0 := h1;have hv := hX 0 ((X.getD 0 []).getD 0 0) (by
    show _ ∈ X.getD 0 []
    generalize X.getD 0 [] = y at *
    rw [List.getD_eq_getElem?_getD, List.getElem?_eq_getElem (by omega)];exact List.getElem_mem _)
   unfold chgL;rw [if_neg (by decide)];show X.set 0 ((X.getD 0 []).set 0 (Go.IntKind.wrap .i64 ((X.getD 0 []).getD 0 0 + 0))) = X;have hw : Go.IntKind.wrap .i64 ((X.getD 0 []).getD 0 0 + 0) = (X.getD 0 []).getD 0 0 := by
    rw [Int.add_zero];exact Go.Lf.inK_wrap (k := .i64) (Go.User.inK_mid (by omega) (by omega))
   rw [hw];have e1 : (X.getD 0 []).set 0 ((X.getD 0 []).getD 0 0) = X.getD 0 [] := by
    refine ext_getD 0 (List.length_set ..) fun i hi => ?_
    rw [getD_set _ _ _ _ _ (by omega)];split
    ·rename_i e; rw [e]
    ·rfl
   rw [e1];refine ext_getD [] (List.length_set ..) fun i hi => ?_
   rw [getD_set _ _ _ _ _ (by omega)];split
   ·rename_i e; rw [e]
   ·rfl
end Sp
namespace Sp
theorem term_1 (t : Term) (h : t.1 = 1 /\ t.2.1 = 0 /\ (t.2.2.1.1 = 0 /\ t.2.2.1.2.1 = 0 /\ t.2.2.1.2.2.1 = 0) /\ (t.2.2.2.1.1 = 0 /\ t.2.2.2.1.2.1 = 0 /\ t.2.2.2.1.2.2.1 = 0) /\ (t.2.2.2.2.1.1 = 0 /\ t.2.2.2.2.1.2.1 = 0 /\ t.2.2.2.2.1.2.2.1 = 0) /\ t.2.2.2.2.2.1 = List.replicate 2 0) :
  t = (1, 0, opd0, opd0, opd0, [0, 0], ()) := by
 obtain ⟨a, b, ⟨c1, c2, c3, _⟩, ⟨d1, d2, d3, _⟩, ⟨e1, e2, e3, _⟩, f, _⟩ := t
 obtain ⟨h1, h2, ⟨h3, h4, h5⟩, ⟨h6, h7, h8⟩, ⟨h9, h10, h11⟩, h12⟩ := h
 dsimp only at *
 subst h1 h2 h3 h4 h5 h6 h7 h8 h9 h10 h11 h12
 rfl
theorem endT_1 {t : Term} (h : t = (1, 0, opd0, opd0, opd0, [0, 0], ())) : endT t = (5, 0, opd0, opd0, opd0, [0, 0], ()) := by
 unfold endT; rw [if_pos h]
theorem endT_0 {t : Term} (h : t ≠ (1, 0, opd0, opd0, opd0, [0, 0], ())) : endT t = (1, 0, opd0, opd0, opd0, [0, 0], ()) := by
 unfold endT; rw [if_neg h]
theorem dupL_len (l m : List Inst) (y : List Int) (k : Nat) : (dupL l m y k).length = m.length := by unfold dupL; rw [List.length_map, List.length_range]
theorem dupL_at (l m : List Inst) (y : List Int) (k : Nat) {t : Nat} (h : t < m.length) (d : Inst) : (dupL l m y k).getD t d = if t < k then insAt l (xAt y t).toNat else insAt m t := getD_map_range _ h d
theorem dupL_zero (l m : List Inst) (y : List Int) : dupL l m y 0 = m := by
 refine ext_getD inst0 (dupL_len ..) fun t ht => ?_
 rw [dupL_len] at ht
 rw [dupL_at _ _ _ _ ht, if_neg (by omega)]; rfl
theorem dupL_succ (l m : List Inst) (y : List Int) {k : Nat} (h : k < m.length) : (dupL l m y k).set k (insAt l (xAt y k).toNat) = dupL l m y (k + 1) := by
 refine ext_getD inst0 (by rw [List.length_set, dupL_len, dupL_len]) fun t ht => ?_
 rw [List.length_set, dupL_len] at ht
 rw [getD_set _ _ _ _ _ (by rw [dupL_len]; exact h), dupL_at _ _ _ _ ht, dupL_at _ _ _ _ ht]
 by_cases e : k = t
 ·subst e
  rw [if_pos rfl, if_pos (by omega)]
 ·rw [if_neg e]
  by_cases e2 : t < k
  ·rw [if_pos e2, if_pos (by omega)]
  ·rw [if_neg e2, if_neg (by omega)]
theorem dup_zero (c d : Code) (b : Nat) (y : List Int) (hb : b < (cB d).length) : dupC c d b y 0 = d := by
 refine code_blk ((headB_iff' _ _).2 ⟨rfl, rfl, rfl, rfl, rfl, rfl, rfl⟩) (by unfold dupC; rw [Go.User.cB_setB, List.length_set]) fun k hk => ?_
 show List.getD (cB (dupC c d b y 0)) k blk0 = _
 unfold dupC
 rw [Go.User.cB_setB, getD_set _ _ _ _ _ hb, dupL_zero]
 by_cases e : b = k
 ·subst e; rw [if_pos rfl]
 ·rw [if_neg e]; rfl
theorem twL_len (y : List Int) (a : Int) : (twL y a).length = y.length := by unfold twL; rw [List.length_set]
end Sp
