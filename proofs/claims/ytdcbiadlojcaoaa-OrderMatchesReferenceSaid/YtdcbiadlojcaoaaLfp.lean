/- What is made has instructions that are right. -/
import Derived.Test.YtdcbiadlojcaoaaLfo
set_option linter.unusedVariables false
set_option linter.unusedSimpArgs false
namespace Go.User
open Go.Lf Go.Proofs
theorem ins_at {c : Sp.Code} {l : List Sp.Inst} (h : ∀ i ∈ l, gA c i) {n : Nat} (hn : n < l.length) : gA c (l.getD n (0, 0, 0, (0, 0, 0, ()), (0, 0, 0, ()), (0, 0, 0, ()), (0, 0, 0, ()), ())) := by
 refine h _ ?_
 rw [List.getD_eq_getElem?_getD, List.getElem?_eq_getElem hn]
 exact List.getElem_mem hn
set_option maxHeartbeats 1000000 in
theorem ok53 : FOk Try.prog 53 S53 := by
 have hC : aF Try.prog C53 := okA (aE ok38 (aE ok15 aO))
 refine FOk.intro hC (aR hC) Try.call53 Try.func53 (by kernel_rfl) (by kernel_rfl) L53 ?_
 rw [vc53]
 simp only [zz, zy]
 rintro ⟨c, l, o, n, u⟩ ⟨hl, h0, h1⟩ _
 dsimp only at hl h0 h1 ⊢
 have h0 : (0 : Int) <= n := h0
 obtain ⟨N, rfl⟩ := Int.eq_ofNat_of_zero_le h0
 have h1 : (N : Int) < (List.length l : Int) := h1
 have hlen : List.length l <= 3000 := hl.1
 simp only [Int.toNat_natCast]
 refine ⟨fun h => Sp.eX fun e => ((Sp.rdyB_iff _ _ _ _).1 e).1 ((Sp.mem_of _ _).1 h), fun hm => ⟨⟨0, ⟨Nat.zero_le _, rfl⟩, rfl⟩, ?_⟩⟩
 intro i hi _
 obtain ⟨g1, g2⟩ := hi
 have g1 : i <= N := g1
 have g2 := Sp.bC.1 g2
 refine ⟨fun hlt => ?_, fun hge => Sp.tr_of ((Sp.rdyB_iff _ _ _ _).2 ⟨Sp.nmem_of hm, fun j hj => ?_⟩)⟩
 ·have hlt : (i : Int) < (N : Int) := hlt
  have q1 : inN (i : Int) (List.length l) := ⟨by omega, by omega⟩
  have q2 : inN (N : Int) (List.length l) := ⟨by omega, by omega⟩
  refine ⟨⟨fun _ => q1, fun _ => q2, fun _ => ⟨ins_at hl.2 (by omega), ins_at hl.2 (by omega)⟩⟩, fun hd => Sp.eX fun e => ?_, fun hd => ⟨aS (by omega) (by omega), i + 1, ⟨by show i + 1 <= N; omega, Sp.bC.2 fun j hj => ?_⟩, by show N - (i + 1) < N - i; omega, rfl⟩⟩
  ·have := ((Sp.rdyB_iff _ _ _ _).1 e).2 i (by omega)
   rcases this with h | h
   ·exact Sp.nmem_of hd.1 h
   ·have hd : Sp.bM c (Sp.aV l i) (Sp.aV l N) = true := hd.2
    rw [hd] at h; cases h
  ·rcases Nat.lt_succ_iff_lt_or_eq.1 hj with h | h
   ·exact g2 j h
   ·subst h
    show (Sp.mem o (j : Int) || !Sp.bM c (Sp.aV l j) (Sp.aV l N)) = true
    cases hmi : Sp.mem o (j : Int)
    ·rw [hmi] at hd
     have hd : Sp.bM c (Sp.aV l j) (Sp.aV l N) = false := hd
     rw [hd]; rfl
    ·rfl
 ·have hge : (N : Int) <= (i : Int) := hge
  have := g2 j (by omega)
  rw [Bool.or_eq_true, Sp.mem_of, Bool.not_eq_true'] at this;exact this
set_option maxHeartbeats 1000000 in
theorem ok29 : FOk Try.prog 29 S29 := by
 have hC : aF Try.prog C29 := okA (aE ok53 aO)
 refine FOk.intro hC (aR hC) Try.call29 Try.func29 (by kernel_rfl) (by kernel_rfl) L29 ?_
 rw [vc29]
 simp only [zz, zy]
 rintro ⟨c, l, u⟩ hl _
 dsimp only at hl ⊢
 have hlen : List.length l <= 3000 := hl.1
 refine ⟨⟨0, Nat.zero_le _, rfl⟩, ?_⟩
 intro k hk _
 have hk : k <= List.length l := hk
 have hol := Sp.fG (Sp.d5 (Sp.bM c) l) k
 refine ⟨fun hlt => ⟨⟨0, Nat.zero_le _, rfl, rfl⟩, ?_⟩, fun hge => ?_⟩
 ·rw [hol] at hlt
  have hlt : (k : Int) < (List.length l : Int) := hlt
  intro n hn _;have hn : n <= List.length l := hn;have e : Sp.nxS (Sp.dL (Sp.bM c) l (Sp.cY (Sp.d5 (Sp.bM c) l) k)) (Sp.ldB l) (n + 1) = if (Sp.dL (Sp.bM c) l (Sp.cY (Sp.d5 (Sp.bM c) l) k) n && (decide (Sp.nxS (Sp.dL (Sp.bM c) l (Sp.cY (Sp.d5 (Sp.bM c) l) k)) (Sp.ldB l) n < 0) || Sp.ldB l n && !Sp.ldB l (Sp.nxS (Sp.dL (Sp.bM c) l (Sp.cY (Sp.d5 (Sp.bM c) l) k)) (Sp.ldB l) n).toNat)) = true then (n : Int) else Sp.nxS (Sp.dL (Sp.bM c) l (Sp.cY (Sp.d5 (Sp.bM c) l) k)) (Sp.ldB l) n := rfl;have hb := Sp.nxS_bd (Sp.dL (Sp.bM c) l (Sp.cY (Sp.d5 (Sp.bM c) l) k)) (Sp.ldB l) n;refine ⟨fun hnl => ?_, fun hge => ?_⟩
  ·have hnl : (n : Int) < (List.length l : Int) := hnl
   refine ⟨⟨hl, Int.natCast_nonneg _, hnl⟩, ⟨fun _ => bB hnl, fun h => ⟨h.1.2, Int.lt_trans hb.2 hnl⟩⟩, fun hc => ⟨aS (by omega) (by omega), n + 1, by show n + 1 <= List.length l; omega, by show List.length l - (n + 1) < List.length l - n; omega, ?_, rfl⟩, fun hc => ⟨aS (by omega) (by omega), n + 1, by show n + 1 <= List.length l; omega, by show List.length l - (n + 1) < List.length l - n; omega, ?_, rfl⟩⟩
   ·rw [e, if_pos]
    rw [Bool.and_eq_true];exact hc
   ·rw [e, if_neg]
    intro h;have hc : (Sp.dL (Sp.bM c) l (Sp.cY (Sp.d5 (Sp.bM c) l) k) n && (decide (Sp.nxS (Sp.dL (Sp.bM c) l (Sp.cY (Sp.d5 (Sp.bM c) l) k)) (Sp.ldB l) n < 0) || Sp.ldB l n && !Sp.ldB l (Sp.nxS (Sp.dL (Sp.bM c) l (Sp.cY (Sp.d5 (Sp.bM c) l) k)) (Sp.ldB l) n).toNat)) = false := hc;rw [hc] at h; cases h
  ·have hge : (List.length l : Int) <= (n : Int) := hge
   have : n = List.length l := by omega
   subst this;refine ⟨maxN (by rw [hol]; omega), k + 1, by show k + 1 <= List.length l; omega, by show List.length l - (k + 1) < List.length l - k; omega, rfl⟩
 ·rw [hol] at hge
  have hge : (List.length l : Int) <= (k : Int) := hge
  have : k = List.length l := by omega
  rw [this]; rfl
set_option maxHeartbeats 1000000 in
theorem ok43 : FOk Try.prog 43 S43 := by
 have hC : aF Try.prog C43 := okA aO
 refine FOk.intro hC (aR hC) Try.call43 Try.func43 (by kernel_rfl) (by kernel_rfl) L43 ?_
 rw [vc43]
 simp only [zz, zy]
 rintro ⟨l, x, u⟩ ⟨hx, hr⟩ _
 dsimp only at hx hr ⊢
 have hx : List.length x <= 5000 := hx
 have hr : ∀ k ∈ (x : List Int), 0 <= k /\ k < (List.length l : Int) := hr
 refine ⟨⟨Int.natCast_nonneg _, Int.le_refl _, maxN (by omega)⟩, ⟨0, Nat.zero_le _, rfl, rfl⟩, ?_⟩
 intro i hi _
 have hi : i <= List.length x := hi
 have el : (Sp.fC l (List.take i x) ++ List.replicate (List.length x - i) Sp.inst0).length = List.length x := by
  unfold Sp.fC;rw [List.length_append, List.length_map, List.length_replicate, List.length_take];omega
 refine ⟨fun hlt => ?_, fun hge => ?_⟩
 ·have hlt : (i : Int) < (List.length x : Int) := hlt
  have hil : i < List.length x := by omega
  refine ⟨bB hlt, ⟨hr _ (Sp.mem_getD hlt), by rw [el]; exact bB hlt⟩, aS (by omega) (by omega), i + 1, by show i + 1 <= List.length x; omega, by show List.length x - (i + 1) < List.length x - i; omega, rfl, ?_⟩
  have e1 : Sp.fC l (List.take (i + 1) x) = Sp.fC l (List.take i x) ++ [Sp.aV l (x[i]'hil).toNat] := by
   unfold Sp.fC;rw [List.take_add_one, List.getElem?_eq_getElem hil, List.map_append]; rfl
  have e2 : List.length x - i = List.length x - (i + 1) + 1 := by omega
  have e3 : (Sp.fC l (List.take i x)).length = i := by
   unfold Sp.fC;rw [List.length_map, List.length_take]; omega
  have e4 : List.getD x i 0 = x[i]'hil := by rw [List.getD_eq_getElem?_getD, List.getElem?_eq_getElem hil]; rfl
  rw [e1, e2, List.replicate_succ, List.set_append_right _ _ (by omega), e3, Nat.sub_self, List.set_cons_zero, List.append_assoc];refine congrArg (fun v => Sp.fC l (List.take i x) ++ v) ?_
  show _ = Sp.aV l (x[i]'hil).toNat :: _
  rw [<- e4]
  rfl
 ·have hge : (List.length x : Int) <= (i : Int) := hge
  have e : List.length x - i = 0 := by omega
  rw [e, List.take_of_length_le (by omega)];exact List.append_nil _
set_option maxHeartbeats 1000000 in
theorem ok23 : FOk Try.prog 23 S23 := by
 have hC : aF Try.prog C23 := okC (aE ok20 aO) rfl rfl rfl rfl rfl rfl rfl
 refine FOk.intro hC (aR hC) Try.call23 Try.func23 (by kernel_rfl) (by kernel_rfl) L23 ?_
 rw [vc23]
 simp only [zz, zy]
 rintro ⟨c, X, u⟩ ⟨hc, hX⟩ _
 obtain ⟨X, u2⟩ := X
 dsimp only at hc hX ⊢
 have hX : orOK c X := hX
 have hB : (Sp.cB c).length <= 3000 := hc.2.2.1
 refine ⟨⟨Nat.le_trans hc.1 (by decide), Nat.le_trans hc.2.1 (by decide), Nat.le_trans hc.2.2.1 (by decide), fun b hb => Nat.le_trans (hc.2.2.2 b hb) (by decide)⟩, ⟨0, Nat.zero_le _, by rw [Sp.reoN_zero]; rfl, rfl⟩, ?_⟩
 intro b hb _
 have hb : b <= (Sp.cB c).length := hb
 refine ⟨fun hlt => ?_, fun hge => ?_⟩
 ·have hlt : (b : Int) < ((Sp.cB c).length : Int) := hlt
  have hbl : b < (Sp.cB c).length := by omega
  obtain ⟨x1, x2, x3⟩ := hX b hbl;refine ⟨by rw [Sp.dW]; exact bB hlt, ⟨0, Nat.zero_le _, ?_, rfl⟩, ?_⟩
  ·rw [Sp.reoM_zero c X hbl]; rfl
  intro k hk _;have hk : k <= (Sp.cF X b).length := hk;have hin : inN (b : Int) (Sp.reoM c X b k).length := by rw [Sp.reoM_len]; exact bB hlt
  have hbx : inN (b : Int) (List.length X) := ⟨by omega, by omega⟩
  refine ⟨hbx, fun hkl => ?_, fun hkg => ?_⟩
  ·have hkl : (k : Int) < ((Sp.cF X b).length : Int) := hkl
   refine ⟨⟨hin, bB hlt, hbx, bB hkl, x3 _ (Sp.mem_getD hkl), ?_, hin⟩, aS (by omega) (by omega), k + 1, by show k + 1 <= (Sp.cF X b).length; omega, by show (Sp.cF X b).length - (k + 1) < (Sp.cF X b).length - k; omega, ?_, rfl⟩
   ·refine maxN ?_
    rw [Sp.reoM_at c X k hbl];unfold Sp.fC;rw [List.length_map, List.length_take];omega
   ·rw [<- Sp.reoM_succ c X hbl hkl ([], (0, 0, (0, 0, 0, ()), (0, 0, 0, ()), (0, 0, 0, ()), List.replicate 2 0, ()), ()) 0 (0, 0, 0, (0, 0, 0, ()), (0, 0, 0, ()), (0, 0, 0, ()), (0, 0, 0, ()), ()) rfl]
    rfl
  ·have hkg : ((Sp.cF X b).length : Int) <= (k : Int) := hkg
   refine ⟨aS (by omega) (by omega), b + 1, by show b + 1 <= (Sp.cB c).length; omega, by show (Sp.cB c).length - (b + 1) < (Sp.cB c).length - b; omega, ?_, rfl⟩
   rw [Sp.reoM_end c X hbl hkg]
 ·have hge : ((Sp.cB c).length : Int) <= (b : Int) := hge
  have : b = (Sp.cB c).length := by omega
  rw [this]; rfl
set_option maxHeartbeats 1000000 in
theorem ok11 : FOk Try.prog 11 S11 := by
 have hC : aF Try.prog C11 := okC (aE ok29 (aE ok23 aO)) rfl rfl rfl rfl rfl rfl rfl
 refine FOk.intro hC (aR hC) Try.call11 Try.func11 (by kernel_rfl) (by kernel_rfl) L11 ?_
 rw [vc11]
 simp only [zz, zy]
 rintro ⟨c, u⟩ hv _
 dsimp only at hv ⊢
 have hB : (Sp.cB c).length <= 3000 := hv.1.2.2.1
 refine ⟨⟨0, Nat.zero_le _, rfl, rfl⟩, ?_⟩
 intro b hb _
 have hb : b <= (Sp.cB c).length := hb
 refine ⟨fun hlt => ?_, fun hge => ?_⟩
 ·have hlt : (b : Int) < ((Sp.cB c).length : Int) := hlt
  have hbl : b < (Sp.cB c).length := by omega
  have hxl : (Sp.xsR Sp.bM c b).length <= b := by
   unfold Sp.xsR;rw [List.length_map, List.length_take]; omega
  refine ⟨⟨⟨bB hlt, vOK.blk hv hbl⟩, maxN (by omega)⟩, aS (by omega) (by omega), b + 1, by show b + 1 <= (Sp.cB c).length; omega, by show (Sp.cB c).length - (b + 1) < (Sp.cB c).length - b; omega, ?_, rfl⟩
  rw [<- Sp.xsR_succ Sp.bM c hbl ([], (0, 0, (0, 0, 0, ()), (0, 0, 0, ()), (0, 0, 0, ()), List.replicate 2 0, ()), ()) rfl]
  rfl
 ·have hge : ((Sp.cB c).length : Int) <= (b : Int) := hge
  rw [Sp.xsR_end Sp.bM c (by omega)];exact ⟨⟨hv.1, run_orOK hv.1⟩, rfl⟩
set_option maxHeartbeats 1000000 in
theorem ok44 : FOk Try.prog 44 S44 := by
 have hC : aF Try.prog C44 := okA (aE ok38 (aE ok15 aO))
 refine FOk.intro hC (aR hC) Try.call44 Try.func44 (by kernel_rfl) (by kernel_rfl) L44 ?_
 rw [vc44]
 simp only [zz, zy]
 rintro ⟨c, l, x, u⟩ hl _
 dsimp only at hl ⊢
 have hlen : List.length l <= 3000 := hl.1
 have hl2 : ∀ i ∈ l, gA c i := hl.2
 have NR : ∀ {p : Prop}, (Sp.eE (Sp.bM c) l x = true -> p) -> ¬ p -> false = Sp.eE (Sp.bM c) l x := fun h1 h2 => Sp.eX fun e => h2 (h1 e)
 refine ⟨fun h => NR (fun e => ((Sp.fE _ _ _).1 e).1) (fun e => h (congrArg _ e)), fun h => ⟨⟨0, ⟨Nat.zero_le _, Int.ofNat.inj h, rfl⟩, rfl⟩, ?_⟩⟩
 intro n hn _
 obtain ⟨h1, h2, h3⟩ := hn
 have h1 : n <= List.length l := h1
 have h2 : List.length x = List.length l := h2
 have h3 := Sp.bC.1 h3
 refine ⟨fun hlt => ?_, fun hge => ?_⟩
 ·have hlt : (n : Int) < (List.length l : Int) := hlt
  refine ⟨fun hm => NR (fun e => ((Sp.fE _ _ _).1 e).2.1 n (by omega)) (Sp.nmem_of hm), fun hm => ⟨aS (by omega) (by omega), n + 1, ⟨by show n + 1 <= List.length l; omega, h2, Sp.bC.2 fun j hj => ?_⟩, by show List.length l - (n + 1) < List.length l - n; omega, rfl⟩⟩
  rcases Nat.lt_succ_iff_lt_or_eq.1 hj with h | h
  ·exact h3 j h
  ·rw [h]; exact hm
 have hge : (List.length l : Int) <= (n : Int) := hge
 have hnl : n = List.length l := by omega
 subst hnl
 have hall : ∀ i, i < List.length l -> (i : Int) ∈ x := fun i hi => (Sp.mem_of _ _).1 (h3 i hi)
 obtain ⟨p1, p2⟩ := Sp.perm_in h2 hall
 have hxin : ∀ i : Nat, (i : Int) < (List.length x : Int) -> inN (List.getD x i 0) (List.length l) := fun i hi => p2 _ (Sp.mem_getD hi)
 have hins : ∀ i : Nat, (i : Int) < (List.length x : Int) -> gA c (l.getD (Int.toNat (List.getD x i 0)) (0, 0, 0, (0, 0, 0, ()), (0, 0, 0, ()), (0, 0, 0, ()), (0, 0, 0, ()), ())) := fun i hi => ins_at hl2 (by have := hxin i hi; unfold inN at this; omega)
 refine ⟨⟨0, ⟨Nat.zero_le _, h2, Sp.bC.2 h3, rfl⟩, rfl⟩, ?_⟩
 intro i hi _
 obtain ⟨g1, _, _, g4⟩ := hi
 have g1 : i <= List.length l := g1
 have g4 := Sp.bC.1 g4
 refine ⟨fun hlt => ?_, fun hge => Sp.tr_of ((Sp.fE _ _ _).2 ⟨h2, hall, fun a ha b hb => ?_⟩)⟩
 ·have hlt : (i : Int) < (List.length x : Int) := hlt
  have B0 : ∀ j, j <= i -> Sp.badP (Sp.bM c) l x i j = false := by
   intro j hj;rw [<- Bool.not_eq_true, Sp.badP_iff];omega
  refine ⟨aS (by omega) (by omega), ⟨i + 1, ⟨Nat.le_refl _, by show i + 1 <= List.length l; omega, Sp.bC.2 fun j hj => by rw [B0 j (by omega)]; rfl⟩, rfl⟩, ?_⟩
  intro j hj _;obtain ⟨k1, k2, k3⟩ := hj;have k1 : i + 1 <= j := k1;have k2 : j <= List.length l := k2;have k3 := Sp.bC.1 k3;refine ⟨fun hjl => ?_, fun hjg => ⟨aS (by omega) (by omega), i + 1, ⟨by show i + 1 <= List.length l; omega, h2, Sp.bC.2 h3, Sp.bC.2 fun a ha => ?_⟩, by show List.length l - (i + 1) < List.length l - i; omega, rfl⟩⟩
  ·have hjl : (j : Int) < (List.length x : Int) := hjl
   refine ⟨⟨bB hlt, bB hjl, fun _ => bB hlt, fun _ => hxin i hlt, fun _ => bB hjl, fun _ => hxin j hjl, fun _ => ⟨hins i hlt, hins j hjl⟩⟩, fun hb => ?_, fun hb => ⟨aS (by omega) (by omega), j + 1, ⟨by show i + 1 <= j + 1; omega, by show j + 1 <= List.length l; omega, Sp.bC.2 fun a ha => ?_⟩, by show List.length l - (j + 1) < List.length l - j; omega, rfl⟩⟩
   ·have hbad : Sp.badP (Sp.bM c) l x i j = true := by
     rw [Sp.badP_iff];exact ⟨by omega, hb.1, hb.2⟩
    exact NR (fun e => ((Sp.fE _ _ _).1 e).2.2 i (by omega) j (by omega)) (by rw [hbad]; decide)
   ·rcases Nat.lt_succ_iff_lt_or_eq.1 ha with h | h
    ·exact k3 a h
    ·rw [h, Bool.not_eq_true', <- Bool.not_eq_true, Sp.badP_iff]
     rintro ⟨_, q2, q3⟩
     have hd : decide (List.getD x j 0 < List.getD x i 0) = true := decide_eq_true q2
     rw [hd] at hb;have hb : Sp.bM c (Sp.aV l (Sp.xAt x i).toNat) (Sp.aV l (Sp.xAt x j).toNat) = false := hb;rw [hb] at q3; cases q3
  ·have hjg : (List.length x : Int) <= (j : Int) := hjg
   rcases Nat.lt_succ_iff_lt_or_eq.1 ha with h | h
   ·exact g4 a h
   ·rw [h]
    have : j = List.length x := by omega
    rw [<- this];exact Sp.bC.2 k3
 ·have hge : (List.length x : Int) <= (i : Int) := hge
  have := Sp.bC.1 (g4 a (by omega)) b hb
  rwa [Bool.not_eq_true'] at this
set_option maxHeartbeats 1000000 in
theorem ok19 : FOk Try.prog 19 S19 := by
 have hC : aF Try.prog C19 := okA (aE ok44 (aE ok13 (aE ok23 aO)))
 refine FOk.intro hC (aR hC) Try.call19 Try.func19 (by kernel_rfl) (by kernel_rfl) L19 ?_
 rw [vc19]
 simp only [zz, zy]
 rintro ⟨c, d, X, u⟩ hv _
 obtain ⟨X, u2⟩ := X
 dsimp only at hv ⊢
 have hB : (Sp.cB c).length <= 3000 := hv.1.2.2.1
 have K0 : ¬ (Sp.rgtA Sp.bM c X && Sp.gC (Sp.reoC c X) d) = true -> (100 : Int) = Sp.chkR c d X := fun h => by unfold Sp.chkR; rw [if_neg h]
 refine ⟨fun h => K0 fun e => ?_, fun h => ⟨⟨0, ⟨Nat.zero_le _, Int.ofNat.inj h, rfl⟩, rfl⟩, ?_⟩⟩
 ·rw [Bool.and_eq_true] at e
  have e1 := e.1
  unfold Sp.rgtA at e1;rw [Bool.and_eq_true, decide_eq_true_iff] at e1;exact h (congrArg _ e1.1)
 intro b hb _
 obtain ⟨h1, h2, h3⟩ := hb
 have h1 : b <= (Sp.cB c).length := h1
 have h2 : List.length X = (Sp.cB c).length := h2
 have h3 := Sp.bC.1 h3
 refine ⟨fun hlt => ?_, fun hge => ?_⟩
 ·have hlt : (b : Int) < ((Sp.cB c).length : Int) := hlt
  have hbl : b < (Sp.cB c).length := by omega
  refine ⟨⟨bB hlt, ⟨by omega, by omega⟩, vOK.blk hv hbl⟩, fun hr => K0 fun e => ?_, fun hr => ⟨aS (by omega) (by omega), b + 1, ⟨by show b + 1 <= (Sp.cB c).length; omega, h2, Sp.bC.2 fun a ha => ?_⟩, by show (Sp.cB c).length - (b + 1) < (Sp.cB c).length - b; omega, rfl⟩⟩
  ·rw [Bool.and_eq_true] at e
   have e1 := e.1
   unfold Sp.rgtA at e1;rw [Bool.and_eq_true] at e1;have := Sp.bC.1 e1.2 b hbl;have hr : Sp.eE (Sp.bM c) (Sp.aH c b).1 (Sp.cF X b) = false := hr;rw [hr] at this; cases this
  ·rcases Nat.lt_succ_iff_lt_or_eq.1 ha with g | g
   ·exact h3 a g
   ·rw [g]; exact hr
 ·have hge : ((Sp.cB c).length : Int) <= (b : Int) := hge
  have hbe : b = (Sp.cB c).length := by omega
  subst hbe;have hA : Sp.rgtA Sp.bM c X = true := by
   unfold Sp.rgtA;rw [Bool.and_eq_true, decide_eq_true_iff];exact ⟨h2, Sp.bC.2 h3⟩
  refine ⟨⟨hv.1, rgt_orOK (dep := Sp.bM) hv.1 h2 h3⟩, fun he => K0 fun e => ?_, fun he => ?_⟩
  ·rw [Bool.and_eq_true] at e
   rw [he] at e; cases e.2
  ·show (0 : Int) = Sp.chkR c d X
   unfold Sp.chkR;rw [hA, he]; rfl
end Go.User
namespace Sp
theorem fU (o : List Int) (n : Nat) : (doneL o n).length = n := by unfold doneL; rw [List.length_map, List.length_range]
theorem doneL_at (o : List Int) {n i : Nat} (h : i < n) (d : Bool) : (doneL o n).getD i d = mem o (i : Int) := dG _ h d
theorem doneL_nil (n : Nat) : List.replicate n false = doneL [] n := by
 refine eK false (by rw [List.length_replicate, fU]) fun i hi => ?_
 rw [List.length_replicate] at hi
 rw [doneL_at _ hi, List.getD_eq_getElem?_getD, List.getElem?_replicate, if_pos hi]; rfl
theorem doneL_set (o : List Int) {n m : Nat} (h : m < n) : (doneL o n).set m true = doneL (o ++ [(m : Int)]) n := by
 refine eK false (by rw [List.length_set, fU, fU]) fun i hi => ?_
 rw [List.length_set, fU] at hi
 rw [getD_set _ _ _ _ _ (by rw [fU]; exact h), doneL_at _ hi, doneL_at _ hi]
 unfold mem
 rcases Nat.decEq m i with hne | rfl
 ·rw [if_neg hne]
  refine decide_eq_decide.2 ?_
  rw [List.mem_append, List.mem_singleton];exact ⟨.inl, fun h => h.elim id fun h => absurd (by omega) hne⟩
 ·rw [if_pos rfl]
  exact (decide_eq_true (List.mem_append.2 (.inr (List.mem_singleton.2 rfl)))).symm
theorem mskL_len (dep : Inst -> Inst -> Bool) (l : List Inst) : (mskL dep l).length = l.length := by unfold mskL; rw [List.length_map, List.length_range]
theorem mskL_at (dep : Inst -> Inst -> Bool) (l : List Inst) {i : Nat} (h : i < l.length) (d : List Bool) : (mskL dep l).getD i d = mskI dep l i := dG _ h d
theorem mskI_len (dep : Inst -> Inst -> Bool) (l : List Inst) (i : Nat) : (mskI dep l i).length = i := by unfold mskI; rw [List.length_map, List.length_range]
theorem mskI_at (dep : Inst -> Inst -> Bool) (l : List Inst) {i j : Nat} (h : j < i) (d : Bool) : (mskI dep l i).getD j d = dep (aV l j) (aV l i) := dG _ h d
theorem nxS_skip {rdy ld : Nat -> Bool} {i : Nat} (h : rdy i = false) : nxS rdy ld i = nxS rdy ld (i + 1) := by
 show _ = (if _ then _ else _)
 rw [h]; rfl
theorem nxS_take {rdy ld : Nat -> Bool} {i : Nat} (h : rdy i = true) (h2 : nxS rdy ld i < 0) : (i : Int) = nxS rdy ld (i + 1) := by
 show _ = (if _ then _ else _)
 rw [h, decide_eq_true h2]; rfl
theorem nxS_stay2 {rdy ld : Nat -> Bool} {i : Nat} (h : ld i = false) (h2 : 0 <= nxS rdy ld i) : nxS rdy ld i = nxS rdy ld (i + 1) := by
 show _ = (if _ then _ else _)
 rw [h, decide_eq_false (by omega)]
 simp
theorem atL_len (x : List Int) (n k : Nat) : (atL x n k).length = n := by unfold atL; rw [List.length_map, List.length_range]
theorem atL_at (x : List Int) {n i : Nat} (k : Nat) (h : i < n) (d : Int) : (atL x n k).getD i d = if (i : Int) ∈ x.take k then (((x.take k).idxOf (i : Int) : Nat) : Int) else -1 := dG _ h d
theorem atL_zero (x : List Int) (n : Nat) : List.replicate n (-1) = atL x n 0 := by
 refine eK 0 (by rw [List.length_replicate, atL_len]) fun i hi => ?_
 rw [List.length_replicate] at hi
 rw [atL_at _ _ hi, List.getD_eq_getElem?_getD, List.getElem?_replicate, if_pos hi]
 simp
theorem atL_mem {x : List Int} {n k : Nat} {v d : Int} (h0 : 0 <= v) (h1 : v < (n : Int)) : 0 <= (atL x n k).getD v.toNat d ↔ v ∈ x.take k := by
 rw [atL_at x k (by omega)]
 have e : ((v.toNat : Nat) : Int) = v := by omega
 rw [e]
 split
 ·rename_i h; exact ⟨fun _ => h, fun _ => by omega⟩
 ·rename_i h; exact ⟨fun h' => by omega, fun h' => absurd h' h⟩
theorem take_succ_at {x : List Int} {k : Nat} {d : Int} (h : k < x.length) : x.take (k + 1) = x.take k ++ [x.getD k d] := by
 rw [List.take_add_one, List.getElem?_eq_getElem h, List.getD_eq_getElem?_getD, List.getElem?_eq_getElem h]
 rfl
theorem atL_set {x : List Int} {n k : Nat} {d : Int} (hk : k < x.length) (h0 : 0 <= x.getD k d) (h1 : x.getD k d < (n : Int)) (hn : x.getD k d ∉ x.take k) : (atL x n k).set (x.getD k d).toNat (k : Int) = atL x n (k + 1) := by
 generalize hv : x.getD k d = v at *
 refine eK 0 (by rw [List.length_set, atL_len, atL_len]) fun i hi => ?_
 rw [List.length_set, atL_len] at hi
 rw [getD_set _ _ _ _ _ (by rw [atL_len]; omega), atL_at _ _ hi, atL_at _ _ hi, take_succ_at (d := d) hk, hv]
 have hlk : (x.take k).length = k := by rw [List.length_take]; omega
 rcases Nat.decEq v.toNat i with hne | he
 ·rw [if_neg hne]
  have hiv : (i : Int) ≠ v := fun e => hne (by omega)
  rcases Classical.em ((i : Int) ∈ x.take k) with hm | hm
  ·rw [if_pos hm, if_pos (List.mem_append.2 (.inl hm)), List.idxOf_append, if_pos hm]
  ·rw [if_neg hm, if_neg]
   rw [List.mem_append, List.mem_singleton];exact fun h => h.elim hm hiv
 ·rw [if_pos he]
  have hiv : (i : Int) = v := by omega
  rw [hiv, if_pos (List.mem_append.2 (.inr (List.mem_singleton.2 rfl))), List.idxOf_append, if_neg hn, hlk]
  simp
theorem nodup_take_succ {x : List Int} {k : Nat} {d : Int} (hk : k < x.length) (h : (x.take k).Nodup) (hn : x.getD k d ∉ x.take k) : (x.take (k + 1)).Nodup := by
 rw [take_succ_at (d := d) hk]
 refine List.nodup_append.2 ⟨h, List.nodup_cons.2 ⟨List.not_mem_nil, List.nodup_nil⟩, ?_⟩
 intro a ha b hb hab
 rw [List.mem_singleton] at hb
 rw [hab, hb] at ha
 exact hn ha
theorem idx_at {x : List Int} {v : Int} (h : v ∈ x) : xAt x (x.idxOf v) = v := by
 have hl := List.idxOf_lt_length_of_mem h
 unfold xAt
 rw [List.getD_eq_getElem?_getD, List.getElem?_eq_getElem hl]
 exact List.getElem_idxOf hl
theorem idx_of_at {x : List Int} (hn : x.Nodup) {p : Nat} (hp : p < x.length) : x.idxOf (xAt x p) = p := by
 unfold xAt
 rw [List.getD_eq_getElem?_getD, List.getElem?_eq_getElem hp]
 exact List.Nodup.idxOf_getElem hn p hp
theorem mem_getD' {x : List Int} {p : Nat} (hp : p < x.length) : xAt x p ∈ x := by
 unfold xAt
 rw [List.getD_eq_getElem?_getD, List.getElem?_eq_getElem hp]
 exact List.getElem_mem hp
theorem rgt_at {dep : Inst -> Inst -> Bool} {l : List Inst} {x : List Int} (hl : x.length = l.length) (hn : x.Nodup) (hr : ∀ k ∈ x, 0 <= k /\ k < (l.length : Int)) :
  eE (fun a b => dep b a) l x = true ↔ ∀ k, k < l.length -> ∀ j, j < k -> dep (aV l j) (aV l k) = true -> xAt (atL x l.length x.length) j <= xAt (atL x l.length x.length) k := by
 have hin := in_perm hl hn hr
 have hpos : ∀ i, i < l.length -> xAt (atL x l.length x.length) i = ((x.idxOf (i : Int) : Nat) : Int) := by
  intro i hi;unfold xAt;rw [atL_at x x.length hi, List.take_length, if_pos (hin i hi)]
 rw [fE]
 constructor
 ·rintro ⟨_, _, h⟩ k hk j hj hd
  rw [hpos k hk, hpos j (by omega)]
  apply Classical.byContradiction
  intro hc;have hb := h (x.idxOf (k : Int)) (List.idxOf_lt_length_of_mem (hin k hk)) (x.idxOf (j : Int)) (List.idxOf_lt_length_of_mem (hin j (by omega)));rw [<- Bool.not_eq_true, badP_iff] at hb
  apply hb
  rw [idx_at (hin k hk), idx_at (hin j (by omega))];exact ⟨by omega, by omega, hd⟩
 ·intro h
  refine ⟨hl, hin, fun p hp q hq => ?_⟩
  rw [<- Bool.not_eq_true, badP_iff];rintro ⟨h1, h2, h3⟩;have hxp : xAt x p ∈ x := mem_getD' hp;have hxq : xAt x q ∈ x := mem_getD' hq;have rp := hr _ hxp;have rq := hr _ hxq;have := h (xAt x p).toNat (by omega) (xAt x q).toNat (by omega) h3;rw [hpos _ (by omega), hpos _ (by omega)] at this;have ep : (((xAt x p).toNat : Nat) : Int) = xAt x p := by omega
  have eq : (((xAt x q).toNat : Nat) : Int) = xAt x q := by omega
  rw [ep, eq, idx_of_at hn hp, idx_of_at hn hq] at this;omega
end Sp
namespace Go.User
open Go.Lf Go.Proofs
theorem mem_b {l : List Int} {n : Int} : Sp.mem l n = false ↔ n ∉ l := by rw [<- Bool.not_eq_true, Sp.mem_of]
set_option maxHeartbeats 4000000 in
theorem ok59 (h65 : FOk Try.prog 65 S65) : FOk Try.prog 59 S59 := by
 have hC : aF Try.prog C59 := okA (aE h65 aO)
 refine FOk.introT hC (aR hC) Try.call59 Try.func59 rfl (by kernel_rfl) T59 ?_
 rw [vc59]
 simp only [zz, zy]
 rintro ⟨c, l, u⟩ hl _
 dsimp only at hl ⊢
 have hlen : List.length l <= 3000 := hl.1
 refine ⟨hl, ⟨Int.natCast_nonneg _, Int.le_refl _, maxN (by omega)⟩, ⟨0, Nat.zero_le _, rfl, Sp.doneL_nil _⟩, ?_⟩
 intro k hk _
 have hk : k <= List.length l := hk
 have hol := Sp.fG (Sp.d5 (Sp.aY c) l) k
 have hst : ∀ o, Sp.d5 (Sp.aY c) l o = Sp.nxS (Sp.dL (Sp.aY c) l o) (Sp.ldB l) (List.length l) := fun _ => rfl
 have hord : ∀ k, Sp.cY (Sp.d5 (Sp.aY c) l) (k + 1) = Sp.cY (Sp.d5 (Sp.aY c) l) k ++ [Sp.d5 (Sp.aY c) l (Sp.cY (Sp.d5 (Sp.aY c) l) k)] := fun _ => rfl
 refine ⟨fun hlt => ?_, fun hge => ?_⟩
 ·rw [hol] at hlt
  have hlt : (k : Int) < (List.length l : Int) := hlt
  have hsp := Sp.stpO_spec (Sp.aY c) l (out := Sp.cY (Sp.d5 (Sp.aY c) l) k) (by rw [hol]; omega)
  have hk1 := hord k
  clear hord;generalize hO : Sp.cY (Sp.d5 (Sp.aY c) l) k = O at *;have hR : ∀ i, Sp.dL (Sp.aY c) l O i = true ↔ (i : Int) ∉ O /\ ∀ j, j < i -> (j : Int) ∈ O ∨ Sp.aY c (Sp.aV l j) (Sp.aV l i) = false := fun i => Sp.rdyB_iff _ _ _ _
  refine ⟨⟨⟨0, ⟨Nat.zero_le _, fun k hk => absurd hk (Nat.not_lt_zero k)⟩, rfl, rfl⟩, ?_⟩, fun _ => ?_⟩
  ·intro i hi _
   obtain ⟨h1, h2⟩ := hi;have h1 : i <= List.length l := h1;refine ⟨fun hil => ?_, fun hge => ⟨(), ?_⟩⟩
   ·have hil : (i : Int) < (List.length l : Int) := hil
    have hin : inN (i : Int) (Sp.doneL O (List.length l)).length := by rw [Sp.fU]; exact bB hil
    have hK : inK .i64 ((i : Int) + 1) := aS (by omega) (by omega)
    have hdec : List.length l - (i + 1) < List.length l - i := by omega
    have NEXT : ¬ (Sp.dL (Sp.aY c) l O i = true /\ Sp.ldB l i = true) -> ∀ k, k < i + 1 -> ¬ (Sp.dL (Sp.aY c) l O k = true /\ Sp.ldB l k = true) := by
     intro h k hk;rcases Nat.lt_succ_iff_lt_or_eq.1 hk with g | g
     ·exact h2 k g
     ·rw [g]; exact h
    have SKIP : Sp.dL (Sp.aY c) l O i = false -> ∃ (y : Nat), (y <= List.length l /\ ∀ (k : Nat), k < y -> ¬(Sp.dL (Sp.aY c) l O k = true /\ Sp.ldB l k = true)) /\ List.length l - y < List.length l - i /\ (i : Int) + 1 = (y : Int) /\ Sp.nxS (Sp.dL (Sp.aY c) l O) (Sp.ldB l) i = Sp.nxS (Sp.dL (Sp.aY c) l O) (Sp.ldB l) y :=
     fun h => ⟨i + 1, ⟨by omega, NEXT (by rw [h]; exact fun h => by cases h.1)⟩, hdec, rfl, Sp.nxS_skip h⟩
    refine ⟨hin, fun hd => ⟨hK, SKIP ?_⟩, fun hd => ?_⟩
    ·rw [Sp.doneL_at _ (by omega)] at hd
     rw [<- Bool.not_eq_true, hR];exact fun h => h.1 ((Sp.mem_of _ _).1 hd)
    ·rw [Sp.doneL_at _ (by omega)] at hd
     have hd := mem_b.1 hd
     have em : (Sp.mskL (Sp.aY c) l).getD i [] = Sp.mskI (Sp.aY c) l i := Sp.mskL_at _ _ (by omega) _
     rw [em, Sp.mskI_len];refine ⟨by rw [Sp.mskL_len]; exact bB hil, ⟨0, ⟨Nat.zero_le _, rfl⟩, rfl, rfl⟩, ?_⟩;intro j hj _;obtain ⟨g1, g2⟩ := hj;have g1 : j <= i := g1;have g2 := Sp.bC.1 g2;refine ⟨fun hji => ?_, fun hjg => ?_⟩
     ·have hji : (j : Int) < (i : Int) := hji
      have ej : (Sp.mskI (Sp.aY c) l i).getD j false = Sp.aY c (Sp.aV l j) (Sp.aV l i) := Sp.mskI_at _ _ (by omega) _
      have edj : (Sp.doneL O (List.length l)).getD j false = Sp.mem O (j : Int) := Sp.doneL_at _ (by omega) _
      rw [ej, edj, Sp.fU];refine ⟨bB hji, fun _ => ⟨by omega, by omega⟩, fun hc => ⟨hK, SKIP ?_⟩, fun hc => ⟨aS (by omega) (by omega), j + 1, ⟨by show j + 1 <= i; omega, Sp.bC.2 fun a ha => ?_⟩, by show i - (j + 1) < i - j; omega, rfl⟩⟩
      ·rw [<- Bool.not_eq_true, hR]
       intro h;rcases h.2 j (by omega) with h | h
       ·exact (mem_b.1 hc.2) h
       ·rw [hc.1] at h; cases h
      ·rcases Nat.lt_succ_iff_lt_or_eq.1 ha with g | g
       ·exact g2 a g
       ·rw [g]
        revert hc
        cases Sp.aY c (Sp.aV l j) (Sp.aV l i) <;> cases Sp.mem O (j : Int) <;> simp
     ·have hjg : (i : Int) <= (j : Int) := hjg
      have hready : Sp.dL (Sp.aY c) l O i = true := by
       rw [hR];refine ⟨hd, fun a ha => ?_⟩
       have := g2 a (by omega)
       rw [Bool.or_eq_true, Sp.mem_of, Bool.not_eq_true'] at this;exact this
      refine ⟨bB hil, fun hop => ⟨(), ?_⟩, fun hop => ?_⟩
      ·rw [hst]
       exact (Sp.nxS_stay _ _ hready (decide_eq_true hop) h2 _ (by omega)).symm
      ·have hldf : Sp.ldB l i = false := decide_eq_false hop
       have hno : ¬ (Sp.dL (Sp.aY c) l O i = true /\ Sp.ldB l i = true) := by rw [hldf]; exact fun h => by cases h.2
       refine ⟨fun hneg => ⟨hK, i + 1, ⟨by show i + 1 <= List.length l; omega, NEXT hno⟩, hdec, rfl, Sp.nxS_take hready hneg⟩, fun hpos => ⟨hK, i + 1, ⟨by show i + 1 <= List.length l; omega, NEXT hno⟩, hdec, rfl, Sp.nxS_stay2 hldf hpos⟩⟩
   ·have hge : (List.length l : Int) <= (i : Int) := hge
    have : i = List.length l := by omega
    rw [this, hst]
  ·obtain ⟨m, hm, em, _⟩ := hsp
   rw [em] at hk1 ⊢;refine ⟨by rw [Sp.fU]; exact ⟨by omega, by omega⟩, maxN (by omega), k + 1, by show k + 1 <= List.length l; omega, by show List.length l - (k + 1) < List.length l - k; omega, ?_, ?_⟩
   ·rw [hk1]
   ·rw [hk1, Int.toNat_natCast]
    exact Sp.doneL_set _ hm
 ·rw [hol] at hge
  have hge : (List.length l : Int) <= (k : Int) := hge
  have : k = List.length l := by omega
  rw [this]; rfl
set_option maxHeartbeats 4000000 in
theorem ok41 (h65 : FOk Try.prog 65 S65) : FOk Try.prog 41 S41 := by
 have hC : aF Try.prog C41 := okA (aE h65 aO)
 refine FOk.intro hC (aR hC) Try.call41 Try.func41 (by kernel_rfl) (by kernel_rfl) L41 ?_
 rw [vc41]
 simp only [zz, zy]
 rintro ⟨c, l, x, u⟩ hl hfx
 dsimp only at hl ⊢
 have hlen : List.length l <= 3000 := hl.1
 have NR : ∀ {p : Prop}, (Sp.eE (Sp.depQ c) l x = true -> p) -> ¬ p -> false = Sp.eE (Sp.depQ c) l x := fun h1 h2 => Sp.eX fun e => h2 (h1 e)
 have RP : Sp.eE (Sp.depQ c) l x = true -> List.length x = List.length l /\ List.Nodup x /\ (∀ k ∈ (x : List Int), 0 <= k /\ k < (List.length l : Int)) := fun h => by
  obtain ⟨h1, h2, h3, _⟩ := Sp.rgtB_perm h;exact ⟨h1, h2, h3⟩
 refine ⟨⟨Int.natCast_nonneg _, Int.le_refl _, maxN (by omega)⟩, ⟨0, Nat.zero_le _, rfl, congrArg _ List.length_replicate, rfl⟩, ?_⟩
 intro n hn _
 have hn : n <= List.length l := hn
 refine ⟨fun hlt => ?_, fun hge => ?_⟩
 ·have hlt : (n : Int) < (List.length l : Int) := hlt
  refine ⟨?_, aS (by omega) (by omega), n + 1, by show n + 1 <= List.length l; omega, by show List.length l - (n + 1) < List.length l - n; omega, rfl, ?_⟩
  ·rw [List.length_append, List.length_replicate, List.length_replicate]
   exact ⟨by omega, by omega⟩
  ·have e2 : List.length l - n = List.length l - (n + 1) + 1 := by omega
   rw [e2, List.replicate_succ, List.set_append_right _ _ (by rw [List.length_replicate]; exact Nat.le_refl _), List.length_replicate, Nat.sub_self, List.set_cons_zero, List.replicate_succ' (n := n), List.append_assoc]
   rfl
 have hge : (List.length l : Int) <= (n : Int) := hge
 have hnl : n = List.length l := by omega
 subst hnl
 refine ⟨⟨0, ⟨Nat.zero_le _, List.nodup_nil, fun k hk => (List.not_mem_nil hk).elim⟩, rfl, ?_⟩, ?_⟩
 ·rw [Nat.sub_self, <- Sp.atL_zero]
  exact List.append_nil _
 intro k hk _
 obtain ⟨h1, h2, h3⟩ := hk
 have h1 : k <= List.length x := h1
 have h2 : List.Nodup (List.take k x) := h2
 have h3 : ∀ v ∈ (List.take k x : List Int), 0 <= v /\ v < (List.length l : Int) := h3
 refine ⟨fun hlt => ?_, fun hge => ?_⟩
 ·have hlt : (k : Int) < (List.length x : Int) := hlt
  have hkx : k < List.length x := by omega
  have hm := Sp.mem_getD (d := 0) hlt
  refine ⟨bB hlt, fun hb => by rw [Sp.atL_len]; exact hb, fun hb => NR RP ?_, fun hb => ?_⟩
  ·rintro ⟨r1, r2, r3⟩
   have hv := r3 _ hm
   have hv1 : ¬ (List.getD x k 0 < 0) := by omega
   have hv2 : ¬ ((List.length l : Int) <= List.getD x k 0) := by omega
   have hb : (decide (List.getD x k 0 < 0) || decide ((List.length l : Int) <= List.getD x k 0) || decide (0 <= (Sp.atL x (List.length l) k).getD (Int.toNat (List.getD x k 0)) 0)) = true := hb
   rw [decide_eq_false hv1, decide_eq_false hv2, Bool.false_or, Bool.false_or] at hb;have hin := (Sp.atL_mem hv.1 hv.2).1 (of_decide_eq_true hb);have hnd := List.Sublist.nodup (List.take_sublist (k + 1) x) r2;rw [Sp.take_succ_at (d := 0) hkx] at hnd;exact (List.nodup_append.1 hnd).2.2 _ hin _ (List.mem_singleton.2 rfl) rfl
  ·obtain ⟨⟨v0, v1⟩, v2⟩ := hb
   have v0 : 0 <= List.getD x k 0 := v0
   have v1 : List.getD x k 0 < (List.length l : Int) := v1
   have hnin : List.getD x k 0 ∉ List.take k x := fun hc => by
    have := (Sp.atL_mem (d := 0) v0 v1).2 hc
    have v2 : (Sp.atL x (List.length l) k).getD (Int.toNat (List.getD x k 0)) 0 < 0 := v2
    omega
   refine ⟨by rw [Sp.atL_len]; exact ⟨v0, v1⟩, d9 hlt ?_, k + 1, ⟨by show k + 1 <= List.length x; omega, Sp.nodup_take_succ (d := 0) hkx h2 hnin, fun v hv => ?_⟩, by show List.length x - (k + 1) < List.length x - k; omega, rfl, Sp.atL_set (d := 0) hkx v0 v1 hnin⟩
   ·exact hfx.2.2.1
   ·rcases (Sp.mem_take_succ (d := 0) hlt).1 hv with h | h
    ·exact h3 v h
    ·rw [<- h]; exact ⟨v0, v1⟩
 have hge : (List.length x : Int) <= (k : Int) := hge
 have hkx : k = List.length x := by omega
 subst hkx
 rw [List.take_length] at h2 h3
 refine ⟨fun hne => NR RP fun h => hne (congrArg _ h.1), fun he => ?_⟩
 have he : List.length x = List.length l := Int.ofNat.inj he
 have hrg := Sp.rgt_at (dep := Sp.aY c) he h2 h3
 have hrg : Sp.eE (Sp.depQ c) l x = true ↔ _ := hrg
 refine ⟨hl, ⟨0, ⟨Nat.zero_le _, fun k hk => absurd hk (Nat.not_lt_zero k)⟩, rfl, congrArg _ (Sp.mskL_len _ _)⟩, ?_⟩
 intro i hi _
 obtain ⟨g1, g2⟩ := hi
 have g1 : i <= List.length l := g1
 refine ⟨fun hil => ?_, fun hig => Sp.tr_of (hrg.2 fun k hk j hj hd => g2 k ?_ j hj hd)⟩
 ·have hil : (i : Int) < (List.length l : Int) := hil
  have em : (Sp.mskL (Sp.aY c) l).getD i [] = Sp.mskI (Sp.aY c) l i := Sp.mskL_at _ _ (by omega) _
  rw [em, Sp.mskI_len, Sp.mskL_len, Sp.atL_len];refine ⟨bB hil, ⟨0, ⟨Nat.zero_le _, fun k hk => absurd hk (Nat.not_lt_zero k)⟩, rfl, rfl⟩, ?_⟩
  intro j hj _;obtain ⟨k1, k2⟩ := hj;have k1 : j <= i := k1;refine ⟨fun hji => ?_, fun hjg => ⟨aS (by omega) (by omega), i + 1, ⟨by show i + 1 <= List.length l; omega, fun k hk a ha hd => ?_⟩, by show List.length l - (i + 1) < List.length l - i; omega, rfl⟩⟩
  ·have hji : (j : Int) < (i : Int) := hji
   have ej : (Sp.mskI (Sp.aY c) l i).getD j false = Sp.aY c (Sp.aV l j) (Sp.aV l i) := Sp.mskI_at _ _ (by omega) _
   rw [ej];refine ⟨bB hji, ⟨fun _ => ⟨by omega, by omega⟩, fun _ => bB hil⟩, fun hb => NR hrg.1 fun h => ?_, fun hb => ⟨aS (by omega) (by omega), j + 1, ⟨by show j + 1 <= i; omega, fun k hk hd => ?_⟩, by show i - (j + 1) < i - j; omega, rfl⟩⟩
   ·have := h i (by omega) j (by omega) hb.1
    have h2 := hb.2
    unfold Sp.xAt at this;have h2 : (Sp.atL x (List.length l) (List.length x)).getD i 0 < (Sp.atL x (List.length l) (List.length x)).getD j 0 := h2;omega
   ·rcases Nat.lt_succ_iff_lt_or_eq.1 hk with g | g
    ·exact k2 k g hd
    ·subst g
     have hb : (Sp.aY c (Sp.aV l k) (Sp.aV l i) && decide ((Sp.atL x (List.length l) (List.length x)).getD i 0 < (Sp.atL x (List.length l) (List.length x)).getD k 0)) = false := hb
     have hd : Sp.aY c (Sp.aV l k) (Sp.aV l i) = true := hd
     rw [hd, Bool.true_and] at hb;have := of_decide_eq_false hb;show (Sp.atL x (List.length l) (List.length x)).getD k 0 <= (Sp.atL x (List.length l) (List.length x)).getD i 0;omega
  ·have hjg : (i : Int) <= (j : Int) := hjg
   rcases Nat.lt_succ_iff_lt_or_eq.1 hk with g | g
   ·exact g2 k g a ha hd
   ·subst g; exact k2 a (by omega) hd
 ·have hig : (List.length l : Int) <= (i : Int) := hig
  omega
end Go.User
namespace Sp
theorem fJ (c : Code) (n : Nat) : (slB c n).length = (cB c).length := by unfold slB; rw [List.length_map, List.length_range]
theorem slB_at (c : Code) (n : Nat) {b : Nat} (h : b < (cB c).length) (d : Block) : (slB c n).getD b d = if b < n then (slL (b : Int) (aH c b).1 (aH c b).1.length, (aH c b).2) else aH c b := dG _ h d
theorem slB_zero (c : Code) : slB c 0 = cB c := by
 refine eK blk0 (fJ c 0) fun b hb => ?_
 rw [fJ] at hb
 rw [slB_at c 0 hb, if_neg (by omega)]; rfl
theorem slB_succ (c : Code) {n : Nat} (h : n < (cB c).length) (d : Block) : (slB c n).set n (slL (n : Int) (aH c n).1 (aH c n).1.length, ((slB c n).getD n d).2) = slB c (n + 1) := by
 refine eK blk0 (by rw [List.length_set, fJ, fJ]) fun b hb => ?_
 rw [List.length_set, fJ] at hb
 rw [slB_at c (n + 1) hb, getD_set _ _ _ _ _ (by rw [fJ]; exact h), slB_at c n hb, slB_at c n h]
 rcases Nat.lt_trichotomy b n with g | g | g
 ·rw [if_neg (by omega), if_pos g, if_pos (by omega)]
 ·rw [if_pos g.symm, if_neg (by omega), if_pos (by omega), g]
 ·rw [if_neg (by omega), if_neg (by omega), if_neg (by omega)]
theorem slL_len (b : Int) (l : List Inst) : ∀ k, (slL b l k).length <= 3 * k
 | 0 => Nat.le_refl _
 | k + 1 => by
  have := slL_len b l k
  show (slL b l k ++ [aV l k] ++ slI b k).length <= _
  have h2 : (slI b k).length <= 2 := by
   unfold slI;split
   ·exact Nat.le_refl _
   ·exact Nat.zero_le _
  rw [List.length_append, List.length_append, List.length_singleton];omega
theorem headB_iff' (a b : Code) : headB a b = true ↔ a.1 = b.1 /\ a.2.1 = b.2.1 /\ a.2.2.1 = b.2.2.1 /\ a.2.2.2.1 = b.2.2.2.1 /\ a.2.2.2.2.1 = b.2.2.2.2.1 /\ cA a = cA b /\ cL a = cL b := by
 unfold headB
 simp only [Bool.and_eq_true, decide_eq_true_iff, and_assoc]
theorem code_ext' {a b : Code} (h : headB a b = true) (hB : cB a = cB b) : a = b := by
 obtain ⟨h1, h2, h3, h4, h5, h6, h7⟩ := (headB_iff' a b).1 h
 obtain ⟨a1, a2, a3, a4, a5, a6, a7, a8, _⟩ := a
 obtain ⟨b1, b2, b3, b4, b5, b6, b7, b8, _⟩ := b
 unfold cA at h6; unfold cL at h7; unfold cB at hB
 dsimp only at h1 h2 h3 h4 h5 h6 h7 hB
 rw [h1, h2, h3, h4, h5, h6, h7, hB]
theorem eqCode_iff' (a b : Code) : gC a b = true ↔ a = b := by unfold gC; exact @decide_eq_true_iff _ (Classical.propDecidable _)
theorem reoC_eq (c d : Code) (X : List (List Int)) : reoC c X = d ↔ headB c d = true /\ (cB d).length = (cB c).length /\ ∀ k, k < (cB c).length -> reoK c X k = aH d k := by
 constructor
 ·rintro rfl
  refine ⟨(headB_iff' _ _).2 ⟨rfl, rfl, rfl, rfl, rfl, rfl, rfl⟩, dW c X _, fun k hk => ?_⟩
  show _ = (reoN c X (cB c).length).getD k blk0
  rw [reoN_at c X _ hk, if_pos hk]
 ·rintro ⟨h1, h2, h3⟩
  refine code_ext' ?_ ?_
  ·obtain ⟨g1, g2, g3, g4, g5, g6, g7⟩ := (headB_iff' c d).1 h1
   exact (headB_iff' _ _).2 ⟨g1, g2, g3, g4, g5, g6, g7⟩
  ·show reoN c X (cB c).length = cB d
   refine eK blk0 (by rw [dW, h2]) fun k hk => ?_
   rw [dW] at hk;rw [reoN_at c X _ hk, if_pos hk, h3 k hk]; rfl
theorem chk_iff (dep : Code -> Inst -> Inst -> Bool) (c d : Code) (X : List (List Int)) : (rgtA dep c X && gC (reoC c X) d) = true ↔ headB c d = true /\ (cB d).length = (cB c).length /\ X.length = (cB c).length /\ ∀ k, k < (cB c).length -> eE (dep c) (aH c k).1 (cF X k) = true /\ reoK c X k = aH d k := by
 rw [Bool.and_eq_true, eqCode_iff', reoC_eq]
 unfold rgtA
 rw [Bool.and_eq_true, decide_eq_true_iff, bC]
 constructor
 ·rintro ⟨⟨h1, h2⟩, h3, h4, h5⟩
  exact ⟨h3, h4, h1, fun k hk => ⟨h2 k hk, h5 k hk⟩⟩
 ·rintro ⟨h1, h2, h3, h4⟩
  exact ⟨⟨h3, fun k hk => (h4 k hk).1⟩, h1, h2, fun k hk => (h4 k hk).2⟩
end Sp
namespace Go.User
theorem made_ok (L : List Int) (hb : Sp.Byt (Sp.md0 L)) : codeOK 800 (Sp.bQ L) := by
 have h := (Sp.aG.md4 L hb).1.wT (Sp.nB (Sp.md4 L) - 1) (Sp.tJ 5 0 0)
 refine ⟨?_, h.lps, h.blk, h.ins⟩
 have : Sp.cA (Sp.bQ L) = Sp.arrs := h.arr
 rw [this]; decide
theorem made_arr (L : List Int) (hb : Sp.Byt (Sp.md0 L)) : Sp.cA (Sp.bQ L) = Sp.arrs := ((Sp.aG.md4 L hb).1.wT (Sp.nB (Sp.md4 L) - 1) (Sp.tJ 5 0 0)).arr
theorem codeOK.mono {n m : Nat} {c : Sp.Code} (h : codeOK n c) (hm : n <= m) : codeOK m c := ⟨Nat.le_trans h.1 hm, Nat.le_trans h.2.1 hm, Nat.le_trans h.2.2.1 hm, fun b hb => Nat.le_trans (h.2.2.2 b hb) hm⟩
end Go.User
namespace Go.User
open Go.Lf Go.Proofs
set_option maxHeartbeats 1000000 in
theorem ok28 (h65 : FOk Try.prog 65 S65) : FOk Try.prog 28 S28 := by
 have hC : aF Try.prog C28 := okC (aE ok56 (aE ok57 (aE ok58 (aE (ok59 h65) (aE ok43 aO))))) rfl rfl rfl rfl rfl rfl rfl
 refine FOk.intro hC (aR hC) Try.call28 Try.func28 (by kernel_rfl) (by kernel_rfl) L28 ?_
 rw [vc28]
 simp only [zz, zy]
 rintro ⟨c, u⟩ hv _
 dsimp only at hv ⊢
 have hB : (Sp.cB c).length <= 3000 := hv.1.2.2.1
 refine ⟨⟨Nat.le_trans hv.1.1 (by decide), Nat.le_trans hv.1.2.1 (by decide), Nat.le_trans hv.1.2.2.1 (by decide)⟩, ⟨0, Nat.zero_le _, rfl, rfl, rfl, by rw [Sp.reoN_zero]; rfl⟩, ?_⟩
 intro b hb _
 have hb : b <= (Sp.cB c).length := hb
 refine ⟨fun hlt => ?_, fun hge => ?_⟩
 ·have hlt : (b : Int) < ((Sp.cB c).length : Int) := hlt
  have hbl : b < (Sp.cB c).length := by omega
  have hxl : (Sp.xsR Sp.aY c b).length <= b := by
   unfold Sp.xsR;rw [List.length_map, List.length_take]; omega
  have hbk := vOK.blk hv hbl
  have hxe : Sp.cF (Sp.eW Sp.aY c) b = Sp.lstO (Sp.aY c) (Sp.aH c b).1 := Sp.runX_at _ _ hbl
  refine ⟨⟨bB hlt, hbk⟩, maxN (by omega), ⟨bB hlt, ⟨?_, (Sp.lstO_ok _ _).2⟩, by rw [Sp.dW]; exact bB hlt⟩, aS (by omega) (by omega), b + 1, by show b + 1 <= (Sp.cB c).length; omega, by show (Sp.cB c).length - (b + 1) < (Sp.cB c).length - b; omega, rfl, ?_, ?_⟩
  ·rw [Sp.lstO_len]; exact Nat.le_trans hbk.1 (by decide)
  ·rw [<- Sp.xsR_succ Sp.aY c hbl ([], (0, 0, (0, 0, 0, ()), (0, 0, 0, ()), (0, 0, 0, ()), List.replicate 2 0, ()), ()) rfl]
   rfl
  ·rw [Sp.reoN_succ c _ hbl, Sp.reoN_at c _ b hbl, if_neg (Nat.lt_irrefl b)]
   unfold Sp.reoK;rw [hxe]
   rfl
 ·have hge : ((Sp.cB c).length : Int) <= (b : Int) := hge
  rw [Sp.xsR_end Sp.aY c (by omega)];have : b = (Sp.cB c).length := by omega
  rw [this]; rfl
set_option maxHeartbeats 1000000 in
theorem ok27 : FOk Try.prog 27 S27 := by
 have hC : aF Try.prog C27 := okC (aE ok20 (aE ok21 (aE ok54 aO))) rfl rfl rfl rfl rfl rfl rfl
 refine FOk.intro hC (aR hC) Try.call27 Try.func27 (by kernel_rfl) (by kernel_rfl) L27 ?_
 rw [vc27]
 simp only [zz, zy]
 rintro ⟨L, u⟩ hd
 obtain ⟨L, u2⟩ := L
 dsimp only at hd ⊢
 have hb : Sp.Byt (Sp.md0 L) := dM hd.1
 have hc := made_ok L hb
 have hB : (Sp.cB (Sp.bQ L)).length <= 800 := hc.2.2.1
 refine ⟨hc.mono (by decide), ⟨0, Nat.zero_le _, by rw [Sp.slB_zero]; rfl, rfl⟩, ?_⟩
 intro b hbb _
 have hbb : b <= (Sp.cB (Sp.bQ L)).length := hbb
 refine ⟨fun hlt => ?_, fun hge => ?_⟩
 ·rw [Sp.fJ] at hlt
  have hlt : (b : Int) < ((Sp.cB (Sp.bQ L)).length : Int) := hlt
  have hbl : b < (Sp.cB (Sp.bQ L)).length := by omega
  have hsb : (Sp.slB (Sp.bQ L) b).getD b ([], (0, 0, (0, 0, 0, ()), (0, 0, 0, ()), (0, 0, 0, ()), List.replicate 2 0, ()), ()) = Sp.aH (Sp.bQ L) b := by rw [Sp.slB_at _ _ hbl, if_neg (Nat.lt_irrefl b)]
  have hin : inN (b : Int) (Sp.slB (Sp.bQ L) b).length := by rw [Sp.fJ]; exact bB hlt
  have hl8 : (Sp.aH (Sp.bQ L) b).1.length <= 800 := hc.2.2.2 _ (Sp.dC hbl)
  refine ⟨⟨0, Nat.zero_le _, rfl, rfl⟩, ?_⟩
  intro i hi _;have hi : i <= (Sp.aH (Sp.bQ L) b).1.length := hi;rw [hsb];have hsl := Sp.slL_len (b : Int) (Sp.aH (Sp.bQ L) b).1 i;refine ⟨hin, fun hil => ?_, fun hig => ?_⟩
  ·have hil : (i : Int) < ((Sp.aH (Sp.bQ L) b).1.length : Int) := hil
   have hsu : Sp.slL (b : Int) (Sp.aH (Sp.bQ L) b).1 (i + 1) = Sp.slL (b : Int) (Sp.aH (Sp.bQ L) b).1 i ++ [Sp.aV (Sp.aH (Sp.bQ L) b).1 i] ++ Sp.slI (b : Int) i := rfl
   have hm : Int.tmod (i : Int) 2 = ((i % 2 : Nat) : Int) := rfl
   refine ⟨⟨⟨hin, bB hil⟩, maxN (by omega)⟩, by decide, fun hz => ⟨⟨⟨by decide, by decide, by decide, aS (by omega) (by omega), by decide⟩, maxN ?_⟩, aS (by omega) (by omega), i + 1, by show i + 1 <= (Sp.aH (Sp.bQ L) b).1.length; omega, by show (Sp.aH (Sp.bQ L) b).1.length - (i + 1) < (Sp.aH (Sp.bQ L) b).1.length - i; omega, ?_, rfl⟩, fun hz => ⟨aS (by omega) (by omega), i + 1, by show i + 1 <= (Sp.aH (Sp.bQ L) b).1.length; omega, by show (Sp.aH (Sp.bQ L) b).1.length - (i + 1) < (Sp.aH (Sp.bQ L) b).1.length - i; omega, ?_, rfl⟩⟩
   ·rw [List.length_append, List.length_cons, List.length_cons, List.length_nil, List.length_cons, List.length_nil]
    omega
   ·rw [hsu]
    have : i % 2 = 0 := by omega
    unfold Sp.slI;rw [if_pos this]
    rfl
   ·rw [hsu]
    have : ¬ i % 2 = 0 := by omega
    unfold Sp.slI;rw [if_neg this, List.append_nil]
    rfl
  ·have hig : ((Sp.aH (Sp.bQ L) b).1.length : Int) <= (i : Int) := hig
   have hie : i = (Sp.aH (Sp.bQ L) b).1.length := by omega
   refine ⟨hin, aS (by omega) (by omega), b + 1, by show b + 1 <= (Sp.cB (Sp.bQ L)).length; omega, by show (Sp.cB (Sp.bQ L)).length - (b + 1) < (Sp.cB (Sp.bQ L)).length - b; omega, ?_, rfl⟩
   rw [<- Sp.slB_succ (Sp.bQ L) hbl ([], (0, 0, (0, 0, 0, ()), (0, 0, 0, ()), (0, 0, 0, ()), List.replicate 2 0, ()), ()), hie, hsb]
   rfl
 ·rw [Sp.fJ] at hge
  have hge : ((Sp.cB (Sp.bQ L)).length : Int) <= (b : Int) := hge
  have : b = (Sp.cB (Sp.bQ L)).length := by omega
  rw [this]; rfl
set_option maxHeartbeats 4000000 in
theorem ok18 (h65 : FOk Try.prog 65 S65) : FOk Try.prog 18 S18 := by
 have hC : aF Try.prog C18 := okA (aE ok39 (aE ok40 (aE (ok41 h65) (aE ok42 (aE ok43 aO)))))
 refine FOk.intro hC (aR hC) Try.call18 Try.func18 (by kernel_rfl) (by kernel_rfl) L18 ?_
 rw [vc18]
 simp only [zz, zy]
 rintro ⟨c, d, X, u⟩ hv _
 obtain ⟨X, u2⟩ := X
 dsimp only at hv ⊢
 have hB : (Sp.cB c).length <= 3000 := hv.1.2.2.1
 have CI := Sp.chk_iff Sp.depQ c d X
 have K0 : ¬ (Sp.rgtA Sp.depQ c X && Sp.gC (Sp.reoC c X) d) = true -> (100 : Int) = Sp.chkP c d X := fun h => by unfold Sp.chkP; rw [if_neg h]
 refine ⟨fun h => K0 fun e => ?_, fun h => ⟨⟨0, ⟨Nat.zero_le _, ?_, Int.ofNat.inj h.1.2, Int.ofNat.inj h.2, fun k hk => absurd hk (Nat.not_lt_zero k)⟩, rfl, rfl⟩, ?_⟩⟩
 ·obtain ⟨h1, h2, h3, _⟩ := CI.1 e
  obtain ⟨g1, g2, g3, g4, g5, g6, g7⟩ := (Sp.fR c d).1 h1;have e6 : Sp.eqArrs c.2.2.2.2.2.1 d.2.2.2.2.2.1 = true := (Sp.eqArrs_iff _ _).2 g6;have e7 : Sp.eqLps c.2.2.2.2.2.2.1 d.2.2.2.2.2.2.1 = true := (Sp.eqLps_iff _ _).2 g7;have h2 : d.2.2.2.2.2.2.2.1.length = c.2.2.2.2.2.2.2.1.length := h2;have h3 : List.length X = c.2.2.2.2.2.2.2.1.length := h3;rw [g1, g2, g3, g4, g5, e6, e7, h2, h3] at h;simp at h
 ·obtain ⟨⟨⟨⟨⟨⟨e1, e2⟩, e3⟩, e4⟩, e5⟩, e6⟩, e7⟩ := h.1.1
  exact (Sp.fR c d).2 ⟨e1, e2, e3, e4, e5, (Sp.eqArrs_iff _ _).1 e6, (Sp.eqLps_iff _ _).1 e7⟩
 intro b hbI _
 obtain ⟨h1, h2, h3, h4, h5⟩ := hbI
 have h1 : b <= (Sp.cB c).length := h1
 have h4 : List.length X = (Sp.cB c).length := h4
 refine ⟨fun hlt => ?_, fun hge => ?_⟩
 ·have hlt : (b : Int) < ((Sp.cB c).length : Int) := hlt
  have hbl : b < (Sp.cB c).length := by omega
  have hbk := vOK.blk hv hbl
  have iX : inN (b : Int) (List.length X) := ⟨by omega, by omega⟩
  have iD : inN (b : Int) (Sp.cB d).length := ⟨by omega, by omega⟩
  refine ⟨bB hlt, ⟨bB hlt, iD, fun _ => iX, fun _ => hbk, fun _ => iX, fun g => ?_, fun _ => iD⟩, fun hbad => K0 fun e => ?_, fun hg => ⟨aS (by omega) (by omega), b + 1, ⟨by show b + 1 <= (Sp.cB c).length; omega, h2, h3, h4, fun k hk => ?_⟩, by show (Sp.cB c).length - (b + 1) < (Sp.cB c).length - b; omega, rfl⟩⟩
  ·obtain ⟨p1, p2, p3, p4⟩ := Sp.rgtB_perm g.2
   exact ⟨by rw [p1]; exact Nat.le_trans hbk.1 (by decide), p3⟩
  ·obtain ⟨r1, r2⟩ := (CI.1 e).2.2.2 b hbl
   have hDB : d.2.2.2.2.2.2.2.1.getD b ([], (0, 0, (0, 0, 0, ()), (0, 0, 0, ()), (0, 0, 0, ()), List.replicate 2 0, ()), ()) = (Sp.fC (c.2.2.2.2.2.2.2.1.getD b ([], (0, 0, (0, 0, 0, ()), (0, 0, 0, ()), (0, 0, 0, ()), List.replicate 2 0, ()), ())).1 (List.getD X b []), (c.2.2.2.2.2.2.2.1.getD b ([], (0, 0, (0, 0, 0, ()), (0, 0, 0, ()), (0, 0, 0, ()), List.replicate 2 0, ()), ())).2) := r2.symm
   have r1 : Sp.eE (Sp.depQ c) (c.2.2.2.2.2.2.2.1.getD b ([], (0, 0, (0, 0, 0, ()), (0, 0, 0, ()), (0, 0, 0, ()), List.replicate 2 0, ()), ())).1 (List.getD X b []) = true := r1
   rw [hDB] at hbad
   dsimp only at hbad
   have hI : Sp.eqIns (Sp.fC (c.2.2.2.2.2.2.2.1.getD b ([], (0, 0, (0, 0, 0, ()), (0, 0, 0, ()), (0, 0, 0, ()), List.replicate 2 0, ()), ())).1 (List.getD X b [])) (Sp.fC (c.2.2.2.2.2.2.2.1.getD b ([], (0, 0, (0, 0, 0, ()), (0, 0, 0, ()), (0, 0, 0, ()), List.replicate 2 0, ()), ())).1 (List.getD X b [])) = true := (Sp.eqIns_iff _ _).2 rfl
   rw [r1, hI] at hbad;simp at hbad
  ·rcases Nat.lt_succ_iff_lt_or_eq.1 hk with g | g
   ·exact h5 k g
   ·subst g
    obtain ⟨⟨gT, gR⟩, gI⟩ := hg;refine ⟨gR, ?_⟩;have gI := (Sp.eqIns_iff _ _).1 gI;have gT2 : (Sp.aH c k).2.1 = (Sp.aH d k).2.1 := Sp.term_ext gT.1 gT.2.1 (Sp.eF gT.2.2.1.1 gT.2.2.1.2.1 gT.2.2.1.2.2) (Sp.eF gT.2.2.2.1.1 gT.2.2.2.1.2.1 gT.2.2.2.1.2.2) (Sp.eF gT.2.2.2.2.1.1 gT.2.2.2.2.1.2.1 gT.2.2.2.2.1.2.2) gT.2.2.2.2.2;have gI : Sp.fC (Sp.aH c k).1 (Sp.cF X k) = (Sp.aH d k).1 := gI;show (Sp.fC (Sp.aH c k).1 (Sp.cF X k), (Sp.aH c k).2.1, (Sp.aH c k).2.2) = ((Sp.aH d k).1, (Sp.aH d k).2.1, (Sp.aH d k).2.2);rw [gI, gT2]
 ·have hge : ((Sp.cB c).length : Int) <= (b : Int) := hge
  have hbe : b = (Sp.cB c).length := by omega
  subst hbe;show (0 : Int) = Sp.chkP c d X;unfold Sp.chkP;rw [if_pos (CI.2 ⟨h2, h3, h4, h5⟩)]
end Go.User
namespace Sp
open Go.Lib
theorem lt_ext : ∀ {l l' : List Int}, l.Pairwise (· < ·) -> l'.Pairwise (· < ·) -> (∀ v, v ∈ l ↔ v ∈ l') -> l = l'
 | [], [], _, _, _ => rfl
 | [], y :: l', _, _, h => by have := (h y).2 List.mem_cons_self; cases this
 | x :: l, [], _, _, h => by have := (h x).1 List.mem_cons_self; cases this
 | x :: l, y :: l', h1, h2, h => by
  obtain ⟨a1, a2⟩ := List.pairwise_cons.1 h1;obtain ⟨b1, b2⟩ := List.pairwise_cons.1 h2;have hxy : x = y := by
   rcases List.mem_cons.1 ((h x).1 List.mem_cons_self) with e | e
   ·exact e
   ·rcases List.mem_cons.1 ((h y).2 List.mem_cons_self) with e' | e'
    ·exact e'.symm
    ·have := a1 y e'
     have := b1 x e
     omega
  subst hxy;rw [lt_ext a2 b2 fun v => ?_]
  constructor
  ·intro hv
   rcases List.mem_cons.1 ((h v).1 (List.mem_cons_of_mem _ hv)) with e | e
   ·have := a1 v hv; omega
   ·exact e
  ·intro hv
   rcases List.mem_cons.1 ((h v).2 (List.mem_cons_of_mem _ hv)) with e | e
   ·have := b1 v hv; omega
   ·exact e
def putN (n : Int) (l : List Int) : List Int := l.takeWhile (fun v => decide (v < n)) ++ [n] ++ l.dropWhile (fun v => decide (v < n))
theorem putN_cons (n a : Int) (l : List Int) : putN n (a :: l) = if a < n then a :: putN n l else n :: a :: l := by
 unfold putN
 split
 ·rename_i h
  rw [List.takeWhile_cons_of_pos (by simpa using h), List.dropWhile_cons_of_pos (by simpa using h)]; rfl
 ·rename_i h
  rw [List.takeWhile_cons_of_neg (by simpa using h), List.dropWhile_cons_of_neg (by simpa using h)]; rfl
theorem putN_mem (n : Int) : ∀ (l : List Int) (v : Int), v ∈ putN n l ↔ v = n ∨ v ∈ l
 | [], v => by unfold putN; simp
 | a :: l, v => by
  rw [putN_cons];split
  ·rw [List.mem_cons, putN_mem n l v, List.mem_cons]
   constructor
   ·rintro (h | h | h)
    ·exact .inr (.inl h)
    ·exact .inl h
    ·exact .inr (.inr h)
   ·rintro (h | h | h)
    ·exact .inr (.inl h)
    ·exact .inl h
    ·exact .inr (.inr h)
  ·rw [List.mem_cons]
theorem putN_lt (n : Int) : ∀ {l : List Int}, l.Pairwise (· < ·) -> n ∉ l -> (putN n l).Pairwise (· < ·)
 | [], _, _ => by unfold putN; simp
 | a :: l, h, hn => by
  obtain ⟨h1, h2⟩ := List.pairwise_cons.1 h;rw [putN_cons];split
  ·rename_i ha
   refine List.pairwise_cons.2 ⟨fun v hv => ?_, putN_lt n h2 (fun hm => hn (List.mem_cons_of_mem _ hm))⟩
   rcases (putN_mem n l v).1 hv with e | e
   ·omega
   ·exact h1 v e
  ·rename_i ha
   have hne : n ≠ a := fun e => hn (by rw [e]; exact List.mem_cons_self)
   refine List.pairwise_cons.2 ⟨fun v hv => ?_, h⟩
   rcases List.mem_cons.1 hv with e | e
   ·omega
   ·have := h1 v e; omega
theorem addN_mem (l : List Int) (n v : Int) : v ∈ addN l n ↔ v = n ∨ v ∈ l := by
 unfold addN
 split
 ·rename_i h
  exact ⟨.inr, fun h2 => h2.elim (fun e => e ▸ h) id⟩
 ·exact putN_mem n l v
theorem addN_lt {l : List Int} (h : l.Pairwise (· < ·)) (n : Int) : (addN l n).Pairwise (· < ·) := by
 unfold addN
 split
 ·exact h
 ·rename_i hn
  exact putN_lt n h hn
theorem regL_ok : ∀ (l : List Opd) {out : List Int}, out.Pairwise (· < ·) -> (regL l out).Pairwise (· < ·) /\ ∀ v, v ∈ regL l out ↔ v ∈ out ∨ ∃ o ∈ l, o.1 = 2 /\ o.2.1 = v
 | [], out, h => ⟨h, fun v => ⟨.inl, fun h => h.elim id fun ⟨o, ho, _⟩ => (List.not_mem_nil ho).elim⟩⟩
 | o :: l, out, h => by
  show (regL l (if o.1 = 2 then addN out o.2.1 else out)).Pairwise (· < ·) /\ ∀ v, v ∈ regL l (if o.1 = 2 then addN out o.2.1 else out) ↔ _
  split
  ·rename_i ho
   obtain ⟨h1, h2⟩ := regL_ok l (addN_lt h o.2.1);refine ⟨h1, fun v => ?_⟩
   rw [h2, addN_mem];constructor
   ·rintro ((e | e) | ⟨o', g1, g2⟩)
    ·exact .inr ⟨o, List.mem_cons_self, ho, e.symm⟩
    ·exact .inl e
    ·exact .inr ⟨o', List.mem_cons_of_mem _ g1, g2⟩
   ·rintro (e | ⟨o', g1, g2, g3⟩)
    ·exact .inl (.inr e)
    ·rcases List.mem_cons.1 g1 with rfl | g1
     ·exact .inl (.inl g3.symm)
     ·exact .inr ⟨o', g1, g2, g3⟩
  ·rename_i ho
   obtain ⟨h1, h2⟩ := regL_ok l h;refine ⟨h1, fun v => ?_⟩
   rw [h2];refine or_congr Iff.rfl ⟨fun ⟨o', g1, g2⟩ => ⟨o', List.mem_cons_of_mem _ g1, g2⟩, fun ⟨o', g1, g2, g3⟩ => ?_⟩
   rcases List.mem_cons.1 g1 with rfl | g1
   ·exact absurd g2 ho
   ·exact ⟨o', g1, g2, g3⟩
theorem compact_ok {x : List Int} (h : x.Pairwise (· <= ·)) : (compact x).Pairwise (· < ·) /\ ∀ v, v ∈ compact x ↔ v ∈ x := by
 have hle : ∀ i j, i <= j -> j < x.length -> x.toArray[i]! <= x.toArray[j]! := by
  intro i j hij hj;have hi : i < x.length := by omega
  have e1 : x.toArray[i]! = x[i] := by simp [hi]
  have e2 : x.toArray[j]! = x[j] := by simp [hj]
  rw [e1, e2];rcases Nat.lt_or_eq_of_le hij with hlt | rfl
  ·exact (List.pairwise_iff_getElem.1 h) i j hi hj hlt
  ·exact Int.le_refl _
 constructor
 ·unfold compact compactUpTo
  rw [List.pairwise_map];refine List.Pairwise.imp_of_mem (R := fun a b => a < b) ?_ (List.Pairwise.filter _ (List.pairwise_lt_range))
  intro a b ha hb hab;have hb' := List.mem_range.1 (List.mem_filter.1 hb).1;have hk := (List.mem_filter.1 hb).2;unfold keeps at hk;have hk := of_decide_eq_true hk;rcases hk with hk | hk
  ·omega
  ·have h1 := hle a (b - 1) (by omega) (by omega)
   have h2 := hle (b - 1) b (by omega) hb'
   omega
 ·intro v
  constructor
  ·exact Go.User.compact_mem
  ·intro hv
   obtain ⟨j, hj, e⟩ := List.mem_iff_getElem.1 hv;have hex : ∃ j, j < x.length /\ x.toArray[j]! = v := ⟨j, hj, by simp [hj, e]⟩
   clear e hj;obtain ⟨j, hj⟩ := hex
   induction j using Nat.strongRecOn with
   | ind j ih =>
    cases hk : keeps x.toArray j
    ·unfold keeps at hk
     have hk := of_decide_eq_false hk
     have h0 : j ≠ 0 := fun e => hk (.inl e)
     have h1 : x.toArray[j]! = x.toArray[j - 1]! := Classical.byContradiction fun hc => hk (.inr hc)
     exact ih (j - 1) (by omega) ⟨by omega, h1 ▸ hj.2⟩
    ·unfold compact compactUpTo
     exact List.mem_map.2 ⟨j, List.mem_filter.2 ⟨List.mem_range.2 hj.1, hk⟩, hj.2⟩
theorem regF_succ {l : List Opd} {i : Nat} {d : Opd} (h : i < l.length) : regF (l.take (i + 1)) = regF (l.take i) ++ (if (l.getD i d).1 = 2 then [(l.getD i d).2.1] else []) := by
 unfold regF
 rw [List.take_add_one, List.getElem?_eq_getElem h, List.getD_eq_getElem?_getD, List.getElem?_eq_getElem h, List.filter_append, List.map_append]
 simp only [Option.toList_some, Option.getD_some]
 congr 1
 split
 ·rename_i h; rw [List.filter_cons_of_pos (by simpa using h)]; rfl
 ·rename_i h; rw [List.filter_cons_of_neg (by simpa using h)]; rfl
theorem regF_len (l : List Opd) : (regF l).length <= l.length := by
 unfold regF
 rw [List.length_map]
 exact List.length_filter_le _ _
theorem reg_eq (l : List Opd) : compact ((regF l).mergeSort fun a b => decide (a <= b)) = regL l [] := by
 have hs : ((regF l).mergeSort fun a b => decide (a <= b)).Pairwise (· <= ·) := by
  have := List.pairwise_mergeSort (le := fun (a b : Int) => decide (a <= b)) (fun a b c h1 h2 => by simp at h1 h2 ⊢; omega) (fun a b => by simp; omega) (regF l)
  exact this.imp fun h => by simpa using h
 obtain ⟨h1, h2⟩ := compact_ok hs
 obtain ⟨h3, h4⟩ := regL_ok l (out := []) List.Pairwise.nil
 refine lt_ext h1 h3 fun v => ?_
 rw [h2, h4, List.mem_mergeSort]
 unfold regF
 rw [List.mem_map]
 constructor
 ·rintro ⟨o, ho, e⟩
  obtain ⟨g1, g2⟩ := List.mem_filter.1 ho;exact .inr ⟨o, g1, of_decide_eq_true g2, e⟩
 ·rintro (h | ⟨o, g1, g2, g3⟩)
  ·cases h
  ·exact ⟨o, List.mem_filter.2 ⟨g1, decide_eq_true g2⟩, g3⟩
end Sp
namespace Go.User
open Go.Lf Go.Proofs
theorem places_ok : ∀ f s, Lf.look places f = some s -> VOk Try.prog f s := by
 intro f s hs
 unfold places at hs
 simp only [Lf.look] at hs
 cases h1 : Nat.beq 73 f
 ·rw [h1] at hs
  simp only [cond_false] at hs;cases h2 : Nat.beq 74 f
  ·rw [h2] at hs; cases hs
  ·rw [h2] at hs
   have := Nat.eq_of_beq_eq_true h2
   simp only [cond_true, Option.some.injEq] at hs;rw [<- this, <- hs]; exact vk74
 ·rw [h1] at hs
  have := Nat.eq_of_beq_eq_true h1
  simp only [cond_true, Option.some.injEq] at hs;rw [<- this, <- hs]; exact vk73
theorem ok70 : FOk Try.prog 70 S70 := by
 have hC : aF Try.prog C70 := okA aO
 refine FOk.intro hC (stpV_ok hC places_ok) Try.call70 Try.func70 (by kernel_rfl) (by kernel_rfl) L70 ?_
 rw [vc70]
 simp only [zz, zy]
 rintro ⟨l, u⟩ hl _
 dsimp only at hl ⊢
 have hl : List.length l <= 3 := hl
 refine ⟨⟨0, Nat.zero_le _, rfl, rfl⟩, ?_⟩
 intro i hi _
 have hi : i <= List.length l := hi
 have hrl := Sp.regF_len (List.take i l)
 rw [List.length_take] at hrl
 refine ⟨fun hlt => ?_, fun hge => ?_⟩
 ·have hlt : (i : Int) < (List.length l : Int) := hlt
  refine ⟨bB hlt, fun hc => ⟨maxN (by omega), aS (by omega) (by omega), i + 1, by show i + 1 <= List.length l; omega, by show List.length l - (i + 1) < List.length l - i; omega, rfl, ?_⟩, fun hc => ⟨aS (by omega) (by omega), i + 1, by show i + 1 <= List.length l; omega, by show List.length l - (i + 1) < List.length l - i; omega, rfl, ?_⟩⟩
  ·rw [Sp.regF_succ (d := (0, 0, 0, ())) (by omega), if_pos hc]
  ·rw [Sp.regF_succ (d := (0, 0, 0, ())) (by omega), if_neg hc, List.append_nil]
 ·have hge : (List.length l : Int) <= (i : Int) := hge
  refine ⟨by omega, by rw [List.length_mergeSort]; omega, ?_⟩
  rw [List.take_of_length_le (by omega)];exact Sp.reg_eq l
theorem ok14' : FOk Try.prog 14 S14 := ok14 ok70
end Go.User
namespace Go.User
open Go Go.Proofs Go.RowKit Go.Lib Go.Lf
theorem agg_of {F : aA} {w : World} {τ : Ty} {v : Value} {x : τ.den} (h : aP F w τ .shr none' v x) (ha : τ.isAgg = true) : ∃ cs : List Value, v = .agg cs.toArray /\ cs.length = τ.size /\ Go.Lf.Own F w τ .shr none' cs x := by
 obtain ⟨cs, rfl, h⟩ := h
 exact ⟨cs, by unfold bL; rw [if_pos ha], h.len, h⟩
theorem eight (cs : List Value) (h : cs.length = 8) : ∃ a b c d e f g i, cs = [a, b, c, d, e, f, g, i] := by
 rcases cs with _ | ⟨a, _ | ⟨b, _ | ⟨c, _ | ⟨d, _ | ⟨e, _ | ⟨f, _ | ⟨g, _ | ⟨i, _ | ⟨j, l⟩⟩⟩⟩⟩⟩⟩⟩⟩ <;> simp at h
 exact ⟨a, b, c, d, e, f, g, i, rfl⟩
theorem fifteen (cs : List Value) (h : cs.length = 15) : cs = [cs.getD 0 undef, cs.getD 1 undef, cs.getD 2 undef, cs.getD 3 undef, cs.getD 4 undef, cs.getD 5 undef, cs.getD 6 undef, cs.getD 7 undef, cs.getD 8 undef, cs.getD 9 undef, cs.getD 10 undef, cs.getD 11 undef, cs.getD 12 undef, cs.getD 13 undef, cs.getD 14 undef] := by
 rcases cs with _ | ⟨a, _ | ⟨b, _ | ⟨c, _ | ⟨d, _ | ⟨e, _ | ⟨f, _ | ⟨g, _ | ⟨i, _ | ⟨j, _ | ⟨k, _ | ⟨l, _ | ⟨m, _ | ⟨n, _ | ⟨o, _ | ⟨p, _ | ⟨q, r⟩⟩⟩⟩⟩⟩⟩⟩⟩⟩⟩⟩⟩⟩⟩⟩ <;> simp at h
 rfl
theorem row_bools {w : World} {F : aA} {A n : Nat} {f : Nat -> Value} (h : w.rowIs A 4 n f) (hF : F A) {off : Nat} {x : List Bool} (hn : off + x.length <= n) (hc : ∀ j, j < x.length -> f (off + j) = .bool (x.getD j false)) {cap : Nat} (h1 : x.length <= cap) (h2 : x.length <= lim) :
  Go.Lf.Own F w (.slice .bool) .shr none' [.slice (some ⟨A, off, none⟩) x.length cap] x := by
 obtain ⟨row, hb, hsz, hrow⟩ := h
 refine ⟨some ⟨A, off, none⟩, cap, rfl, h1, h2, .inr ⟨A, off, row, 4, (0, 0), rfl, hF, hb, ?_, ?_⟩⟩
 ·have : Ty.size .bool = 1 := rfl
  rw [this]; omega
 ·intro j b hjb
  obtain ⟨hj, rfl⟩ := List.getElem?_eq_some_iff.1 hjb;have hs : Ty.size .bool = 1 := rfl;rw [hs, Nat.mul_one];have h := hrow (off + j) (by omega);rw [hc j hj, List.getD_eq_getElem?_getD, List.getElem?_eq_getElem hj] at h;obtain ⟨hlt, hval⟩ := Array.getElem?_eq_some_iff.1 h;show List.take 1 (List.drop (off + j) row.toList) = [.bool (x[j]'hj)];rw [List.drop_eq_getElem_cons (by simpa using hlt)];simp [hval]
set_option maxHeartbeats 1000000 in
theorem ok65 : FOk Try.prog 65 S65 := by
 refine ⟨Try.call65, ?_⟩
 rintro w F vs ⟨c, l, u⟩ hG hF ⟨cv, r1, rfl, hc, lv, r2, rfl, hl, hr2⟩ hp
 have hr2 : r2 = [] := hr2
 subst hr2
 have hp : lOK c l := hp
 have hc : aP F w bT .shr none' cv c := hc
 have hl : aP F w (.slice aL) .shr none' lv l := hl
 obtain ⟨cs, rfl, hcl, hco⟩ := agg_of hc rfl
 obtain ⟨v0, v1, v2, v3, v4, v5, v6, v7, rfl⟩ := eight cs hcl
 obtain ⟨lcs, rfl, lo⟩ := hl
 obtain ⟨ao, cap, rfl, k1, k2, k3⟩ := lo
 have hsI : Ty.size aL = 15 := rfl
 obtain ⟨lb, off, row, hla, hrow⟩ : ∃ (lb off : Nat) (row : Array Value), (0 < List.length l -> ao = some ⟨lb, off, none⟩) /\ (∀ j (hj : j < List.length l), (∃ (T : TypeId) (fr : Nat × Nat), F lb /\ w.heap[lb]? = some (.cells row T fr)) /\ Go.Lf.Own F w aL .shr none' (seg row.toList (off + j * 15) 15) (l[j]'hj)) := by
  rcases k3 with k3 | ⟨lb, off, row, T, fr, k4, k5, k6, k7, k8⟩
  ·have k3 : l = [] := k3
   subst k3;exact ⟨0, 0, #[], fun h => absurd h (Nat.lt_irrefl 0), fun j hj => absurd hj (Nat.not_lt_zero j)⟩
  ·exact ⟨lb, off, row, fun _ => k4, fun j hj => ⟨⟨T, fr, k5, k6⟩, k8 j _ (List.getElem?_eq_getElem hj)⟩⟩
 have hlen : ∀ j, j < List.length l -> (seg row.toList (off + j * 15) 15).length = 15 := fun j hj => ((hrow j hj).2).len
 have hI : ∀ j, j < List.length l -> ∀ k, k < 15 -> w.cell? ⟨lb, off + j * 15 + k, none⟩ = some ((seg row.toList (off + j * 15) 15).getD k undef) := by
  intro j hj k hk;obtain ⟨⟨T, fr, _, hb⟩, _⟩ := hrow j hj;have h15 := hlen j hj;have e : (seg row.toList (off + j * 15) 15)[k]? = some ((seg row.toList (off + j * 15) 15).getD k undef) := by
   rw [List.getD_eq_getElem?_getD, List.getElem?_eq_getElem (by omega)]; rfl
  rw [<- e];simp [World.cell?, hb, seg, List.getElem?_take, hk]
 have hget : ∀ j (hj : j < List.length l), Sp.aV l j = l[j]'hj := fun j hj => by unfold Sp.aV; rw [List.getD_eq_getElem?_getD, List.getElem?_eq_getElem hj]; rfl
 have hval : ∀ (W : World), (∀ b, F b -> W.heap[b]? = w.heap[b]?) -> ∀ j, j < List.length l -> aP F W aL .shr none' (.agg #[(seg row.toList (off + j * 15) 15).getD 0 undef, (seg row.toList (off + j * 15) 15).getD 1 undef, (seg row.toList (off + j * 15) 15).getD 2 undef, (seg row.toList (off + j * 15) 15).getD 3 undef, (seg row.toList (off + j * 15) 15).getD 4 undef, (seg row.toList (off + j * 15) 15).getD 5 undef, (seg row.toList (off + j * 15) 15).getD 6 undef, (seg row.toList (off + j * 15) 15).getD 7 undef, (seg row.toList (off + j * 15) 15).getD 8 undef, (seg row.toList (off + j * 15) 15).getD 9 undef, (seg row.toList (off + j * 15) 15).getD 10 undef, (seg row.toList (off + j * 15) 15).getD 11 undef, (seg row.toList (off + j * 15) 15).getD 12 undef, (seg row.toList (off + j * 15) 15).getD 13 undef, (seg row.toList (off + j * 15) 15).getD 14 undef]) (Sp.aV l j) := by
  intro W hW j hj;refine ⟨seg row.toList (off + j * 15) 15, ?_, ?_⟩
  ·conv => rhs; rw [fifteen _ (hlen j hj)]
   rfl
  ·rw [hget j hj]
   exact (hrow j hj).2.congr hW (fun _ h => h.elim)
 have hins : ∀ j, j < List.length l -> gA c (Sp.aV l j) := fun j hj => by rw [hget j hj]; exact hp.2 _ (List.getElem_mem hj)
 have hD : ∀ (W : World), w.Since w.heap.size W -> ∀ i j, i < List.length l -> j < List.length l -> Calls Try.prog 14 #[.agg #[v0, v1, v2, v3, v4, v5, v6, v7], .agg #[(seg row.toList (off + j * 15) 15).getD 0 undef, (seg row.toList (off + j * 15) 15).getD 1 undef, (seg row.toList (off + j * 15) 15).getD 2 undef, (seg row.toList (off + j * 15) 15).getD 3 undef, (seg row.toList (off + j * 15) 15).getD 4 undef, (seg row.toList (off + j * 15) 15).getD 5 undef, (seg row.toList (off + j * 15) 15).getD 6 undef, (seg row.toList (off + j * 15) 15).getD 7 undef, (seg row.toList (off + j * 15) 15).getD 8 undef, (seg row.toList (off + j * 15) 15).getD 9 undef, (seg row.toList (off + j * 15) 15).getD 10 undef, (seg row.toList (off + j * 15) 15).getD 11 undef, (seg row.toList (off + j * 15) 15).getD 12 undef, (seg row.toList (off + j * 15) 15).getD 13 undef, (seg row.toList (off + j * 15) 15).getD 14 undef], .agg #[(seg row.toList (off + i * 15) 15).getD 0 undef, (seg row.toList (off + i * 15) 15).getD 1 undef, (seg row.toList (off + i * 15) 15).getD 2 undef, (seg row.toList (off + i * 15) 15).getD 3 undef, (seg row.toList (off + i * 15) 15).getD 4 undef, (seg row.toList (off + i * 15) 15).getD 5 undef, (seg row.toList (off + i * 15) 15).getD 6 undef, (seg row.toList (off + i * 15) 15).getD 7 undef, (seg row.toList (off + i * 15) 15).getD 8 undef, (seg row.toList (off + i * 15) 15).getD 9 undef, (seg row.toList (off + i * 15) 15).getD 10 undef, (seg row.toList (off + i * 15) 15).getD 11 undef, (seg row.toList (off + i * 15) 15).getD 12 undef, (seg row.toList (off + i * 15) 15).getD 13 undef, (seg row.toList (off + i * 15) 15).getD 14 undef]] W fun e W' => e = .returned (.bool (Sp.aY c (Sp.aV l j) (Sp.aV l i))) /\ Below W.heap.size W W' := by
  intro W hW i j hi hj;have hWF : ∀ b, F b -> W.heap[b]? = w.heap[b]? := fun b hb => hW.block b (hF b hb)
  have h14 := ok14'.2 W F [_, _, _] (c, Sp.aV l j, Sp.aV l i, ()) (GlbOK.zero F W) (fun b hb => Nat.lt_of_lt_of_le (hF b hb) hW.size) ⟨_, _, rfl, hc.congr hWF (fun _ h => h.elim), _, _, rfl, hval W hWF j hj, _, _, rfl, hval W hWF i hi, rfl⟩ ⟨hins j hj, hins i hi⟩
  refine h14.mono ?_
  rintro e W' ⟨v, F', Sd, rfl, hB, _, _, _, _, hv⟩
  obtain ⟨cs, rfl, hv⟩ := hv;have hv : cs = [.bool (Sp.aY c (Sp.aV l j) (Sp.aV l i))] := hv;subst hv;exact ⟨rfl, hB⟩
 refine (Mk.walk v0 v1 v2 v3 v4 v5 v6 v7 ao lb off (List.length l) cap (fun j k => (seg row.toList (off + j * 15) 15).getD k undef) (fun j i => Sp.aY c (Sp.aV l j) (Sp.aV l i)) w hla hp.1 hI hD).mono ?_
 rintro e w' ⟨rfl, v, f, hS, hf⟩
 have hs := hS.size
 refine ⟨_, fun b => F b ∨ b = w.heap.size + 1 ∨ b = w.heap.size + 1 + 1, none', rfl, ⟨hS.since.os, hS.since.tape, hS.since.output, hS.since.size, hS.since.block⟩, fun _ h => .inl h, fun b h h' => ?_, fun b h => ?_, fun b h => h.elim, ?_⟩
 ·rcases h with h | h | h
  ·exact absurd h h'
  ·omega
  ·omega
 ·rcases h with (h | h | h) | h
  ·have := hF b h; omega
  ·omega
  ·omega
  ·exact h.elim
 ·have hll : (Sp.mskL (Sp.aY c) l).length = List.length l := Sp.mskL_len _ _
  obtain ⟨rowT, hbT, hszT, hrowT⟩ := hS.top;refine ⟨[.slice (some ⟨w.heap.size + 1 + 1, 0, none⟩) (List.length l) (List.length l)], rfl, some ⟨w.heap.size + 1 + 1, 0, none⟩, List.length l, by rw [<- hll]; rfl, by rw [<- hll]; exact Nat.le_refl _, by have : List.length (Sp.mskL (Sp.aY c) l) <= lim := by { rw [hll]; exact k2 }; exact this, .inr ⟨w.heap.size + 1 + 1, 0, rowT, 108, (0, 0), rfl, .inr (.inr rfl), hbT, ?_, ?_⟩⟩
  ·have h1 : Ty.size (.slice .bool) = 1 := rfl
   have h2 : List.length (Sp.mskL (Sp.aY c) l) = List.length l := hll
   show 0 + List.length (Sp.mskL (Sp.aY c) l) * Ty.size (.slice .bool) <= rowT.size
   rw [h1, h2, hszT]; omega
  ·intro r x hx
   have hx : (Sp.mskL (Sp.aY c) l)[r]? = some x := hx
   obtain ⟨hr, hxe⟩ := List.getElem?_eq_some_iff.1 hx;have hrl : r < List.length l := by rw [<- hll]; exact hr
   have hxm : x = Sp.mskI (Sp.aY c) l r := by
    have := Sp.mskL_at (Sp.aY c) l hrl []
    rw [List.getD_eq_getElem?_getD, hx] at this;exact this
   have h1 : Ty.size (.slice .bool) = 1 := rfl
   rw [h1, Nat.mul_one, Nat.zero_add];have hcell := hrowT r hrl;rw [hf r hrl] at hcell;obtain ⟨hlt, hvl⟩ := Array.getElem?_eq_some_iff.1 hcell;have hseg : seg rowT.toList r 1 = [.slice (some ⟨w.heap.size + 1, r * List.length l, none⟩) r (List.length l)] := by
    show List.take 1 (List.drop r rowT.toList) = _
    rw [List.drop_eq_getElem_cons (by simpa using hlt)];simp [hvl]
   rw [hseg, hxm];have hmi := Sp.mskI_len (Sp.aY c) l r;have hrn : r * List.length l + r <= List.length l * List.length l := by
    have := Nat.mul_le_mul_right (List.length l) (show r + 1 <= List.length l by omega)
    rw [Nat.succ_mul] at this;omega
   have := row_bools (F := fun b => F b ∨ b = w.heap.size + 1 ∨ b = w.heap.size + 1 + 1) hS.long (.inr (.inl rfl)) (off := r * List.length l) (x := Sp.mskI (Sp.aY c) l r) (by rw [hmi]; exact hrn) (fun j hj => by
    rw [hmi] at hj;unfold Mk.long;obtain ⟨d1, d2⟩ := Mk.div (n := List.length l) (r := r) (c := j) (by omega);rw [d1, d2, if_pos (.inl ⟨hrl, hj⟩)];have := Sp.mskI_at (Sp.aY c) l hj false;rw [this]) (cap := List.length l) (by rw [hmi]; omega) (by rw [hmi]; exact Nat.le_trans (Nat.le_of_lt hrl) k2)
   rw [hmi] at this;exact this
end Go.User
namespace Sp
def exL (f : Bool) : List Inst :=
 [(1, 0, 0, cZ 0, conO 1, dD, dD, ()), (8, 0, 0, dD, cZ 0, cZ 0, dD, ())] ++ (if f = true then [(10, 1, 0, dD, dD, dD, dD, ())] else []) ++ [(7, 0, 1, cZ 1, cZ 0, dD, dD, ()), (7, 0, 0, cZ 2, cZ 0, dD, dD, ()), (3, 10, 0, cZ 3, cZ 1, cZ 2, dD, ())]
def exC (f : Bool) : Code := (1, 1, 4, 0, 0, [([97], 1, 1, 8, ()), ([98], 1, 1, 8, ())], [], [(exL f, (5, 0, dD, dD, dD, [0, 0], ()), ())], ())
def mkC' (L : List Int) (s : Bool) : Code := if s = true then sloC L else bQ L
def chgL (l : List Int) (i j : Int) (by' : Int) (s : Bool) : List Int := if s = true then (l.set i.toNat (l.getD j.toNat 0)).set j.toNat (l.getD i.toNat 0) else l.set i.toNat (Go.IntKind.wrap .i64 (l.getD i.toNat 0 + by'))
def chgX (X : List (List Int)) (z : Chg) : List (List Int) :=
 if X.length = 0 then [] else if (X.getD (Int.tmod z.1 (X.length : Int)).toNat []).length = 0 then X
 else X.set (Int.tmod z.1 (X.length : Int)).toNat (chgL (X.getD (Int.tmod z.1 (X.length : Int)).toNat []) (Int.tmod z.2.1 ((X.getD (Int.tmod z.1 (X.length : Int)).toNat []).length : Int)) (Int.tmod z.2.2.1 ((X.getD (Int.tmod z.1 (X.length : Int)).toNat []).length : Int)) z.2.2.2.1 z.2.2.2.2.1)
def prmB (c : Code) (X : List (List Int)) (b n : Nat) : Bool := decide (X.length = (cB c).length) && decide ((cF X b).length = (aH c b).1.length) && mem (cF X b) (n : Int)
def prmA (c : Code) (X : List (List Int)) (k : Nat) : Bool := (List.range k).all fun b => (List.range (aH c b).1.length).all fun n => prmB c X b n
def prmC (c : Code) (X : List (List Int)) : Code := if (prmA c X (cB c).length && decide (X.length = (cB c).length)) = true then reoC c X else c
def idL (n : Nat) : List Int := (List.range n).map fun (i : Nat) => (i : Int)
def idX (c : Code) (m : Nat) : List (List Int) := (List.range m).map fun b => idL (aH c b).1.length
def z0 : Chg := (0, 0, 0, 0, false, ())
end Sp
namespace Go.User
open Go.Lf
noncomputable section
def S25 : bG := { args := [.val .bool], multi := false, res := bT, mode := .shr, pre := fun _ => True, fn := fun x => Sp.exC x.1 }
def C25 : Ctx := { mkC 41 [(54, S54), (55, S55)] with mds := [(2, .shr), (3, .shr), (4, .shr), (40, .shr)], frz := [35, 39], fzs := [5] }
def L25 (x : aN S25.args) : List aW := []
def S10 : bG := { args := [.val bT], multi := false, res := tDone, mode := .shr, pre := fun x => vOK x.1, fn := fun x => (Sp.runC Sp.aY x.1, (Sp.eW Sp.aY x.1, ()), ()) }
def C10 : Ctx := { mkC 13 [(28, S28)] with mds := [(2, .shr), (3, .shr), (4, .shr)] }
def L10 (x : aN S10.args) : List aW := []
def S9 : bG := { args := [.val tRaw, .val .bool], multi := false, res := bT, mode := .shr, pre := fun _ => True, fn := fun x => Sp.mkC' x.1.1 x.2.1 }
def C9 : Ctx := { mkC 10 [(27, S27), (21, S21)] with mds := [(4, .shr)] }
def L9 (x : aN S9.args) : List aW := []
def S8 : bG := { args := [], multi := false, res := .bool, mode := .shr, pre := fun _ => True, fn := fun _ => true }
def C8 : Ctx := { mkC 104 [(25, S25), (10, S10), (18, S18), (26, S26), (14, S14)] with mds := [(1, .shr), (2, .shr), (3, .shr), (99, .own .shr)], frz := [49, 63, 71, 98, 99, 100] }
def L8 (x : aN S8.args) : List aW := []
abbrev mOO : Md := .pair (.own (.own .shr)) .shr
def S16 : bG := { args := [.val fW, .val tChg], multi := false, res := fW, mode := mOO, pre := fun x => List.length x.1.1 <= 3000 /\ ∀ l ∈ (x.1.1 : List (List Int)), l.length <= 3000, fn := fun x => (Sp.chgX x.1.1 x.2.1, ()) }
def C16 : Ctx := { mkC 89 [] with mds := [(4, mOO), (5, mOO), (11, mOO), (28, .own (.own .shr))], wrp := [86] }
def L16 (x : aN S16.args) : List aW := [{ ι := Nat, inv := fun b => b <= List.length x.1.1, dec := fun b => List.length x.1.1 - b, ovr := fun b => [(5, .box fW mOO ((List.take b x.1.1 : List (List Int)), ())), (6, .shr tI (b : Int))], keep := [2, 3, 4] }]
def S17 : bG := { args := [.val bT, .val fW], multi := false, res := bT, mode := .shr, pre := fun x => codeOK 3000 x.1 /\ (List.length x.2.1.1 = (Sp.cB x.1).length -> ∀ b, b < (Sp.cB x.1).length -> (Sp.aH x.1 b).1.length = 0 -> Sp.cF x.2.1.1 b = []), fn := fun x => Sp.prmC x.1 x.2.1.1 }
def C17 : Ctx := { mkC 70 [(38, S38), (23, S23)] with mds := [(4, .shr)] }
def L17 (x : aN S17.args) : List aW := [
 {ι := Nat, inv := fun b => b <= (Sp.cB x.1).length /\ Sp.prmA x.1 x.2.1.1 b = true, dec := fun b => (Sp.cB x.1).length - b, ovr := fun b => [(5, .shr tI (b : Int))], keep := [2, 3, 4], sub := fun b => [{ ι := Nat, inv := fun n => n <= (Sp.aH x.1 b).1.length /\ ((List.range n).all fun n => Sp.prmB x.1 x.2.1.1 b n) = true, dec := fun n => (Sp.aH x.1 b).1.length - n, ovr := fun n => [(6, .shr tI (n : Int))], keep := [2, 3, 4, 5] }] }]
def C3 : Ctx := { mkC 155 [(8, S8), (9, S9), (10, S10), (11, S11), (12, S12), (13, S13), (14, S14), (15, S15), (16, S16), (17, S17), (18, S18), (19, S19)] with mds := [(8, .shr), (9, .shr), (10, .shr), (15, .shr), (16, .shr), (101, .shr), (106, .shr), (19, .shr)], frz := [94, 98] }
def S3 : bG := { args := [.val tRaw, .val .bool, .val (.arr 2 tChg)], multi := false, res := .bool, mode := .shr, pre := fun _ => True, fn := fun _ => true }
def L3 (x : aN S3.args) : List aW :=
 let c := Sp.mkC' x.1.1 x.2.1
 [{ ι := Nat, inv := fun k => k <= (Sp.cB c).length, dec := fun k => (Sp.cB c).length - k, ovr := fun k => [(11, .shr tI (k : Int))], keep := [5, 7, 8, 9, 10], sub := fun k => [{ ι := Nat, inv := fun i => i <= (Sp.aH c k).1.length, dec := fun i => (Sp.aH c k).1.length - i, ovr := fun i => [(13, .shr tI (i : Int))], keep := [5, 7, 8, 9, 10, 11, 12], sub := fun i => [{ ι := Nat, inv := fun j => j <= (Sp.aH c k).1.length, dec := fun j => (Sp.aH c k).1.length - j, ovr := fun j => [(14, .shr tI (j : Int))], keep := [5, 7, 8, 9, 10, 11, 12, 13] }] }] },
  {ι := Nat, inv := fun i => i <= 4, dec := fun i => 4 - i, ovr := fun i => [(18, .shr tI (i : Int))], keep := [7, 8, 10, 17] }]
end
end Go.User
namespace Go.User
open Go.Proofs Go.Lf
set_option maxRecDepth 100000
theorem vc25 : (c9 C25 (cN C25) S25 L25 Try.f25) = (
let q0 : Prop := (True /\ True) /\ True;
let q1 : Prop := True /\ True /\ True;
let q2 : Prop := q1 /\ True /\ True;
let q3 : Prop := True /\ q1;
let q4 : Prop := True /\ True /\ True /\ True /\ q3;
let q5 : Int := (1 : Int);
let q6 : Int := (0 : Int);
let q7 : Sp.Opd := Sp.cZ q6;
let q8 : Sp.Opd := (q6, q6, q6, ());
let q9 : Sp.Opd × Unit := (q8, ());
let q10 : Sp.Opd × Sp.Opd × Unit := (q8, q9);
let q11 : Int := (8 : Int);
let q12 : List Sp.Inst := (q5, q6, q6, q7, Sp.conO q5, q10) :: (q11, q6, q6, q8, q7, q7, q9) :: ([] : List aL.den);
let q13 : Nat := q12.length;
let q14 : Int := (10 : Int);
let q15 : List Sp.Inst := (q14, q5, q6, q8, q8, q10) :: ([] : List aL.den);
let q16 : Prop := True /\ q4;
let q17 : Prop := True /\ True /\ True /\ True /\ q16;
let q18 : List Sp.Inst := q12 ++ q15;
let q19 : Int := (7 : Int);
let q20 : Sp.Opd := Sp.cZ q5;
let q21 : Sp.Opd × Sp.Opd × Sp.Opd × Unit := (q7, q10);
let q22 : Sp.Opd := Sp.cZ (2 : Int);
let q23 : Int := (3 : Int);
let q24 : List Sp.Inst := (q19, q6, q5, q20, q21) :: (q19, q6, q6, q22, q21) :: (q23, q14, q6, Sp.cZ q23, q20, q22, q9) :: ([] : List aL.den);
let q25 : Nat := q24.length;
let q26 : Prop := q16 /\ True /\ True;
let q27 : Int := (4 : Int);
let q28 : Sp.Opd := (q5, q5, q11, ());
let q29 : List Sp.Arr := (((97 : UInt8) :: ([] : List UInt8)), q28) :: (((98 : UInt8) :: ([] : List UInt8)), q28) :: ([] : List cG.den);
let q30 : Sp.Term × Unit := (((5 : Int), q6, q8, q8, q8, List.replicate (2 : Nat) q6, ()), ());
∀ (x : Bool × Unit), True -> aB Ty.bool x.1 /\ True -> q0 /\ q2 /\ q2 /\ (q4 /\ True /\ True) /\ q0 /\ (x.1 = true -> (q3 /\ (↑(q13 + q15.length) : Int) <= maxNew /\ True /\ True) /\ (q17 /\ (↑(q18.length + q25) : Int) <= maxNew /\ True /\ True) /\ q26 /\ (q5, q5, q27, q6, q6, q29, ([] : List bF.den), (q18 ++ q24, q30) :: ([] : List fY.den), ()) = Sp.exC x.1) /\ (x.1 = false -> (q17 /\ (↑(q13 + q25) : Int) <= maxNew /\ True /\ True) /\ q26 /\ (q5, q5, q27, q6, q6, q29, ([] : List bF.den), (q12 ++ q24, q30) :: ([] : List fY.den), ()) = Sp.exC x.1)) := by kernel_rfl
theorem vc10 : (c9 C10 (cN C10) S10 L10 Try.f10) = (
let q0 : Nat := (3000 : Nat);
let q1 : Prop := True /\ True /\ True;
let q2 : Prop := True /\ q1;
∀ (x : Sp.Code × Unit),
 let q3 : Nat := (Sp.cA x.1).length;
 let q4 : Prop := (q3 <= q0 /\ (Sp.cL x.1).length <= q0 /\ (Sp.cB x.1).length <= q0 /\ ∀ (b : Sp.Block), b ∈ Sp.cB x.1 -> b.1.length <= q0) /\ ∀ (b : Sp.Block), b ∈ Sp.cB x.1 -> ∀ (i : Sp.Inst), i ∈ b.1 -> Sp.opI i = (7 : Int) ∨ Sp.opI i = (8 : Int) ∨ Sp.opI i = (9 : Int) -> (0 : Int) <= Sp.nI i /\ Sp.nI i < (↑q3 : Int);
 let q5 : Sp.Done := (Sp.runC Sp.aY x.1, (Sp.eW Sp.aY x.1, ()), ());
 q4 -> aB bT x.1 /\ True -> (q1 /\ True) /\ ((True /\ q4 /\ True /\ True /\ q2) /\ q1) /\ (q2 /\ True /\ True) /\ q5 = q5) := by kernel_rfl
theorem vc9 : (c9 C9 (cN C9) S9 L9 Try.f9) = (
let q0 : Prop := True /\ True /\ True;
let q1 : Prop := q0 /\ True /\ True;
∀ (x : (List Int × Unit) × Bool × Unit),
 let q2 : Sp.Code := Sp.mkC' x.1.1 x.2.1;
 True -> aB (tU8.slice.prod Ty.unit) x.1 /\ aB Ty.bool x.2.1 /\ True -> (q0 /\ True) /\ ((True /\ True) /\ True) /\ (x.2.1 = true -> q1 /\ Sp.sloC x.1.1 = q2) /\ (x.2.1 = false -> q1 /\ Sp.bQ x.1.1 = q2)) := by kernel_rfl
theorem vc8 : (c9 C8 (cN C8) S8 L8 Try.f8) = (
let q0 : Prop := (True /\ True) /\ True;
let q1 : Prop := True /\ True /\ True;
let q2 : Nat := (Sp.cA (Sp.exC false)).length;
let q3 : Nat := (3000 : Nat);
let q4 : Nat := (Sp.cB (Sp.exC false)).length;
let q5 : Int := (7 : Int);
let q6 : Int := (8 : Int);
let q7 : Int := (9 : Int);
let q8 : Int := (0 : Int);
let q9 : Int := (↑q2 : Int);
let q10 : Prop := (q2 <= q3 /\ (Sp.cL (Sp.exC false)).length <= q3 /\ q4 <= q3 /\ ∀ (b : Sp.Block), b ∈ Sp.cB (Sp.exC false) -> b.1.length <= q3) /\ ∀ (b : Sp.Block), b ∈ Sp.cB (Sp.exC false) -> ∀ (i : Sp.Inst), i ∈ b.1 -> Sp.opI i = q5 ∨ Sp.opI i = q6 ∨ Sp.opI i = q7 -> q8 <= Sp.nI i /\ Sp.nI i < q9;
let q11 : Nat := (Sp.cA (Sp.exC true)).length;
let q12 : Prop := (true && true) = true;
let q13 : Prop := q12 -> True;
let q14 : Prop := q12 -> q10;
let q15 : List (List Int) := Sp.eW Sp.aY (Sp.exC false);
let q16 : Nat := q15.length;
let q17 : Int := (1 : Int);
let q18 : List (List Int) := Sp.eW Sp.aY (Sp.exC true);
let q19 : Nat := q18.length;
let q20 : Bool := bif bif bif (↑q16 : Int) != q17 then true else (↑q19 : Int) != q17 then true else (↑(Sp.reoN (Sp.exC false) q15 q4).length : Int) != q17 then true else Sp.chkP (Sp.exC false) (Sp.runC Sp.aY (Sp.exC false)) q15 != q8;
let q21 : Prop := (true && bif q20 then false else true) = true;
let q22 : Prop := q21 -> True;
let q23 : Int := (100 : Int);
let q24 : Bool := bif q20 then true else Sp.chkP (Sp.exC false) (Sp.exC false) q15 != q23;
let q25 : Prop := (true && bif q24 then false else true) = true;
let q26 : Prop := q25 -> True;
let q27 : List (List Int) := ([] : List tI.slice.den);
let q28 : Bool := bif q24 then true else Sp.chkP (Sp.exC false) (Sp.exC false) q27 != q23;
let q29 : Int := (5 : Int);
let q30 : Nat := (Sp.exL false).length;
let q31 : Prop := q12 -> inN q17 q30;
let q32 : Int := (3 : Int);
let q33 : Sp.Opd := (q8, q8, q8, ());
let q34 : Sp.Inst := (q8, q8, q8, q33, q33, q33, q33, ());
let q35 : Sp.Inst := (Sp.exL false).getD q17.toNat q34;
let q36 : Int := Sp.opI q35;
let q37 : Int := Sp.nI q35;
let q38 : Prop := q36 = q5 ∨ q36 = q6 ∨ q36 = q7 -> q8 <= q37 /\ q37 < q9;
let q39 : Sp.Inst := (Sp.exL false).getD q32.toNat q34;
let q40 : Int := Sp.opI q39;
let q41 : Int := Sp.nI q39;
let q42 : Int := (2 : Int);
let q43 : Sp.Inst := (Sp.exL false).getD q42.toNat q34;
let q44 : Int := Sp.opI q43;
let q45 : Int := Sp.nI q43;
let q46 : Nat := q8.toNat;
let q47 : Int := (4 : Int);
let q48 : List Int := q32 :: q47 :: ([] : List tI.den);
∀ (x : Unit), True -> True -> q0 /\ (q1 /\ True /\ True) /\ ((True /\ q10 /\ True /\ True) /\ True /\ True) /\ ((True /\ ((q11 <= q3 /\ (Sp.cL (Sp.exC true)).length <= q3 /\ (Sp.cB (Sp.exC true)).length <= q3 /\ ∀ (b : Sp.Block), b ∈ Sp.cB (Sp.exC true) -> b.1.length <= q3) /\ ∀ (b : Sp.Block), b ∈ Sp.cB (Sp.exC true) -> ∀ (i : Sp.Inst), i ∈ b.1 -> Sp.opI i = q5 ∨ Sp.opI i = q6 ∨ Sp.opI i = q7 -> q8 <= Sp.nI i /\ Sp.nI i < (↑q11 : Int)) /\ True /\ True) /\ True /\ True) /\ ((True /\ True /\ True /\ True /\ True /\ True /\ q13 /\ q13 /\ q13 /\ q13 /\ q13 /\ True /\ True /\ q13 /\ q13 /\ q13 /\ q13 /\ q13 /\ True /\ True /\ q13 /\ q13 /\ q13 /\ q13 /\ q13 /\ q14 /\ q13 /\ True /\ True /\ q22 /\ q22 /\ q22 /\ q22 /\ (q21 -> q10) /\ q22 /\ True /\ True /\ q26 /\ q26 /\ q26 /\ (q25 -> q10) /\ q26 /\ True /\ True) /\ True) /\ (q28 = true -> q0 /\ false = true) /\ (q28 = false -> ((True /\ True /\ inN q8 ((Sp.exL false, (q29, q8, Sp.dD, Sp.dD, Sp.dD, q8 :: q8 :: ([] : List Int), ()), ()) :: ([] : List Sp.Block)).length /\ True /\ q1) /\ True) /\ ((True /\ True /\ True /\ inN q8 q16 /\ True /\ True /\ True /\ True /\ q13 /\ q13 /\ q13 /\ (q12 -> inN q8 q19) /\ q13 /\ q13 /\ q13 /\ True /\ True /\ q13 /\ q13 /\ q31 /\ q13 /\ q13 /\ (q12 -> inN q32 q30) /\ q13 /\ (q12 -> q38 /\ (q40 = q5 ∨ q40 = q6 ∨ q40 = q7 -> q8 <= q41 /\ q41 < q9)) /\ True /\ True /\ q13 /\ q13 /\ q31 /\ q13 /\ q13 /\ (q12 -> inN q42 q30) /\ q13 /\ (q12 -> q38 /\ (q44 = q5 ∨ q44 = q6 ∨ q44 = q7 -> q8 <= q45 /\ q45 < q9)) /\ q13 /\ True /\ True /\ q13 /\ q13 /\ q13 /\ q13 /\ q13 /\ q14 /\ q13 /\ q1) /\ True) /\ (bif bif bif bif Sp.eqInt (q15.getD q46 (([] : List tI.den))) (q8 :: q42 :: q17 :: q48) then Sp.eqInt (q18.getD q46 (([] : List tI.den))) (q8 :: q17 :: q42 :: q32 :: q47 :: q29 :: ([] : List tI.den)) else false then Sp.aY (Sp.exC false) q35 q39 else false then !Sp.aY (Sp.exC false) q35 q43 else false then Sp.chkP (Sp.exC false) (Sp.exC false) ((q8 :: q17 :: q42 :: q48) :: q27) == q8 else false) = true)) := by kernel_rfl
theorem vc16 : (c9 C16 (cN C16) S16 L16 Try.f16) = (
let q0 : Nat := (3000 : Nat);
let q1 : Prop := True /\ True /\ True;
let q2 : Prop := True /\ q1;
let q3 : Prop := q2 /\ True;
let q4 : List (List Int) := ([] : List tI.slice.den);
let q5 : Sp.Ord := (q4, ());
let q6 : Int := (0 : Int);
let q7 : Prop := q5 = q5 /\ True;
let q8 : Prop := True /\ q2;
let q9 : List Step := Step.fst :: ([] : List Step);
let q10 : Int := (1 : Int);
let q11 : Prop := (True /\ True) /\ True /\ True;
∀ (x : Sp.Ord × (Int × Int × Int × Int × Bool × Unit) × Unit),
 let q12 : Nat := x.1.1.length;
 let q13 : Prop := x.1 = x.1 /\ x.2.1 = x.2.1 /\ q7;
 let q14 : Sp.Ord := (Sp.chgX x.1.1 x.2.1, ());
 let q15 : Int × Bool × Unit := x.2.1.2.2.2;
 let q16 : Bool := q15.2.1;
 (q12 <= q0 /\ ∀ (l : List Int), l ∈ x.1.1 -> l.length <= q0) ->
 aB fW x.1 /\ aB (tU8.prod (tU8.prod (tU8.prod (tI.prod (Ty.bool.prod Ty.unit))))) x.2.1 /\ True ->
 q3 /\
 (q1 /\ True /\ True) /\
 ((True /\ True) /\ True) /\
 (∃ (x_1 : Nat), x_1 <= q12 /\ q5 = (List.take x_1 x.1.1, ()) /\ q6 = (↑x_1 : Int) /\ q13) /\
 ∀ (x_1 : Nat),
 let q17 : List (List Int) := List.take x_1 x.1.1;
 let q18 : Sp.Ord := (q17, ());
 let q19 : Bool := decide ((↑x_1 : Int) < (↑q12 : Int));
 let q20 : List Int := x.1.1.getD (↑x_1 : Int).toNat (([] : List tI.den));
 let q21 : Nat := q17.length;
 let q22 : List (List Int) := q20 :: q4;
 let q23 : Int := (↑x_1 : Int) + q10;
 let q24 : Int := (↑q21 : Int);
 let q25 : Bool := q24 == q6;
 let q26 : Prop := q11 /\ q18 = q14;
 let q27 : Int := x.2.1.1.tmod q24;
 let q28 : Nat := q27.toNat;
 let q29 : List Int := q17.getD q28 (([] : List tI.den));
 let q30 : Nat := q29.length;
 let q31 : Int := (↑q30 : Int);
 let q32 : Bool := q31 == q6;
 let q33 : Prop := (True /\ True /\ True /\ True /\ True /\ q31 ≠ q6 /\ True /\ True) /\ True;
 let q34 : Int := x.2.1.2.1.tmod q31;
 let q35 : Prop := inN q34 q30;
 let q36 : Int := x.2.1.2.2.1.tmod q31;
 let q37 : Prop := True /\ q35 /\ True;
 let q38 : Nat := q34.toNat;
 let q39 : Nat := q36.toNat;
 let q40 : List (List Int) := q17.set q28 (q29.set q38 (q29.getD q39 q6));
 let q41 : List Int := q40.getD q28 (([] : List tI.den));
 let q42 : Int := q29.getD q38 q6;
 x_1 <= q12 -> aB fW q18 /\ aB tI (↑x_1 : Int) /\ True -> ((True /\ q8) /\ True) /\ (q19 = true -> ((True /\ True /\ True /\ True /\ True /\ True /\ inN (↑x_1 : Int) q12 /\ True /\ (↑((0 : Nat) + q20.length) : Int) <= maxNew /\ True /\ True) /\ (↑(q21 + q22.length) : Int) <= maxNew /\ True /\ q9 = q9 /\ True) /\ ((True /\ inK IntKind.i64 q23 /\ True /\ True) /\ True) /\ ∃ (y : Nat), y <= q12 /\ q12 - y < q12 - x_1 /\ (q17 ++ q22, ()) = (List.take y x.1.1, ()) /\ q23 = (↑y : Int) /\ q13) /\ (q19 = false -> (q8 /\ True) /\ (q25 = true -> q26) /\ (q25 = false -> ((True /\ True /\ True /\ True /\ True /\ True /\ True /\ True /\ q24 ≠ q6 /\ inN q27 q21 /\ q1) /\ True) /\ q3 /\ (q32 = true -> q26) /\ (q32 = false -> q33 /\ q33 /\ (q1 /\ True) /\ (q16 = true -> ((True /\ True /\ q35 /\ q1) /\ True) /\ ((True /\ True /\ True /\ True /\ inN q36 q30 /\ q37) /\ True /\ True) /\ ((True /\ True /\ True /\ inN q36 q41.length /\ True) /\ True /\ True) /\ q11 /\ (q40.set q28 (q41.set q39 q42), ()) = q14) /\ (q16 = false -> ((True /\ True /\ q35 /\ True /\ True /\ True /\ q37) /\ True /\ True) /\ q11 /\ (q17.set q28 (q29.set q38 (IntKind.i64.wrap (q42 + q15.1))), ()) = q14))))) := by kernel_rfl
theorem vc17 : (c9 C17 (cN C17) S17 L17 Try.f17) = (
let q0 : Nat := (3000 : Nat);
let q1 : Nat := (2 : Nat);
let q2 : Prop := True /\ True /\ True /\ True;
let q3 : Prop := (True /\ True) /\ True;
let q4 : Int := (0 : Int);
let q5 : Sp.Code := (q4, q4, q4, q4, q4, ([] : List cG.den), ([] : List bF.den), ([] : List fY.den), ());
let q6 : Prop := q5 = q5;
let q7 : Prop := q6 /\ True;
let q8 : Prop := True /\ q2;
let q9 : Prop := True /\ q8;
let q10 : Sp.Opd := (q4, q4, q4, ());
let q11 : Sp.Block := (([] : List aL.den), (q4, q4, q10, q10, q10, List.replicate q1 q4, ()), ());
let q12 : Prop := (True /\ True) /\ True /\ True;
let q13 : Int := (1 : Int);
∀ (x : Sp.Done),
 let q14 : Nat := (Sp.cB x.1).length;
 let q15 : Prop := (Sp.cA x.1).length <= q0 /\ (Sp.cL x.1).length <= q0 /\ q14 <= q0 /\ ∀ (b : Sp.Block), b ∈ Sp.cB x.1 -> b.1.length <= q0;
 let q16 : Nat := x.2.1.1.length;
 let q17 : Prop := x.1 = x.1;
 let q18 : Prop := x.2.1 = x.2.1;
 let q19 : Prop := q17 /\ q18 /\ q7;
 let q20 : List Sp.Block := x.1.2.2.2.2.2.2.2.1;
 let q21 : Nat := q20.length;
 let q22 : Int := (↑q21 : Int);
 let q23 : Bool := (↑q16 : Int) != q22;
 let q24 : Prop := (true && bif q23 then false else true) = true;
 let q25 : Prop := q24 -> True;
 let q26 : Sp.Code := Sp.prmC x.1 x.2.1.1;
 let q27 : Prop := q12 /\ x.1 = q26;
 q15 /\ (q16 = q14 -> ∀ (b : Nat), b < q14 -> (Sp.aH x.1 b).1.length = (0 : Nat) -> Sp.cF x.2.1.1 b = ([] : List Int)) ->
 aB (tI.prod (tI.prod (tI.prod (tI.prod (tI.prod (cG.slice.prod (bF.slice.prod ((aL.slice.prod ((tI.prod (tI.prod (aQ.prod (aQ.prod (aQ.prod ((Ty.arr q1 tI).prod Ty.unit)))))).prod Ty.unit)).slice.prod Ty.unit)))))))) x.1 /\ aB fW x.2.1 /\ True ->
 (q2 /\ True) /\
 q3 /\
 (∃ (x_1 : Nat), (x_1 <= q14 /\ Sp.prmA x.1 x.2.1.1 x_1 = true) /\ q4 = (↑x_1 : Int) /\ q19) /\
 ∀ (x_1 : Nat),
 let q28 : Bool := decide ((↑x_1 : Int) < q22);
 let q29 : Nat := (Sp.aH x.1 x_1).1.length;
 let q30 : Prop := q17 /\ q18 /\ q6 /\ (↑x_1 : Int) = (↑x_1 : Int) /\ True;
 let q31 : Prop := inN (↑x_1 : Int) q21;
 let q32 : Nat := (↑x_1 : Int).toNat;
 let q33 : Int := (↑(List.length (q20.getD q32 q11).1) : Int);
 let q34 : Prop := inN (↑x_1 : Int) q16;
 let q35 : List Int := x.2.1.1.getD q32 (([] : List tI.den));
 let q36 : Bool := bif q23 then true else (↑q35.length : Int) != q33;
 let q37 : Prop := (true && bif q36 then false else true) = true;
 let q38 : Prop := q37 -> True;
 let q39 : Int := (↑x_1 : Int) + q13;
 x_1 <= q14 /\ Sp.prmA x.1 x.2.1.1 x_1 = true ->
 aB tI (↑x_1 : Int) /\ True ->
 (q9 /\ True) /\
 (q28 = true ->
 q3 /\
 (∃ (x_2 : Nat), (x_2 <= q29 /\ ((List.range x_2).all fun (n : Nat) => Sp.prmB x.1 x.2.1.1 x_1 n) = true) /\ q4 = (↑x_2 : Int) /\ q30) /\
 ∀ (x_2 : Nat),
 let q40 : Bool := decide ((↑x_2 : Int) < q33);
 let q41 : Bool := bif q36 then true else !Sp.mem q35 (↑x_2 : Int);
 let q42 : Int := (↑x_2 : Int) + q13;
 x_2 <= q29 /\ ((List.range x_2).all fun (n : Nat) => Sp.prmB x.1 x.2.1.1 x_1 n) = true -> aB tI (↑x_2 : Int) /\ True -> ((True /\ True /\ True /\ True /\ q31 /\ q8) /\ True) /\ (q40 = true -> ((True /\ True /\ True /\ True /\ True /\ True /\ True /\ True /\ q25 /\ q25 /\ q25 /\ (q24 -> q34) /\ q25 /\ q25 /\ q25 /\ q25 /\ q25 /\ (q24 -> q31) /\ q25 /\ q25 /\ q25 /\ q25 /\ True /\ True /\ q38 /\ q38 /\ q38 /\ (q37 -> q34) /\ q38 /\ q38 /\ q38 /\ q38 /\ True /\ True) /\ True) /\ (q41 = true -> q27) /\ (q41 = false -> ((True /\ inK IntKind.i64 q42 /\ True /\ True) /\ True) /\ ∃ (y : Nat), (y <= q29 /\ ((List.range y).all fun (n : Nat) => Sp.prmB x.1 x.2.1.1 x_1 n) = true) /\ q29 - y < q29 - x_2 /\ q42 = (↑y : Int) /\ q30)) /\ (q40 = false -> ((True /\ inK IntKind.i64 q39 /\ True /\ True) /\ True) /\ ∃ (y : Nat), (y <= q14 /\ Sp.prmA x.1 x.2.1.1 y = true) /\ q14 - y < q14 - x_1 /\ q39 = (↑y : Int) /\ q19)) /\
 (q28 = false ->
 ((True /\ True /\ q9) /\ True) /\
 (q23 = true -> q27) /\
 (q23 = false ->
 ((True /\
 True /\
 (q15 /\
 ∀ (b : Nat),
 let q43 : List Int := Sp.cF x.2.1.1 b;
 b < q14 -> b < x.2.1.1.length /\ q43.length <= q0 /\ ∀ (k : Int), k ∈ q43 -> q4 <= k /\ k < (↑(Sp.aH x.1 b).1.length : Int)) /\
 True) /\
 True /\ True) /\
 Sp.reoC x.1 x.2.1.1 = q26))) := by kernel_rfl
end Go.User
namespace Sp
structure wI (i : Inst) : Prop where
 arr : opI i = 7 ∨ opI i = 8 ∨ opI i = 9 -> 0 <= nI i /\ nI i < 5
 pri : opI i = 9 -> nI i ≠ 3
 slt : opI i = 11 ∨ opI i = 12 -> 0 <= nI i
 reg : (dI i).1 = 2 -> 0 <= (dI i).2.1
 wr : opI i = 7 ∨ opI i = 11 -> (dI i).1 = 2
structure VI (s : Mk) : Prop where
 byt : Byt s
 ins : ∀ b ∈ cB s.2.2.1, ∀ i ∈ b.1, wI i
theorem wI.plain {i : Inst} (h : opI i < 7 ∨ opI i = 10) (hd : (dI i).1 = 2 -> 0 <= (dI i).2.1) : wI i :=
 ⟨fun h' => by omega, fun h' => by omega, fun h' => by omega, hd, fun h' => by omega⟩
theorem VI.nx {s : Mk} (h : VI s) : VI (nxM s) := ⟨h.byt, h.ins⟩
theorem VI.reg {s : Mk} (h : VI s) : 0 <= (eN s).2.1 := (eO (fM s h.byt).1 (by decide)).1
theorem VI.put {s : Mk} (h : VI s) {i : Inst} (hi : wI i) : VI (eB s i) := by
 refine ⟨h.byt, ?_⟩
 intro b hb j hj
 rcases mem_set_cases (show b ∈ List.set _ _ _ from hb) with hb | rfl
 ·exact h.ins b hb j hj
 ·rcases List.mem_append.1 (show j ∈ _ ++ [i] from hj) with hj | hj
  ·rcases Nat.lt_or_ge ((cB s.2.2.1).length - 1) (cB s.2.2.1).length with hl | hl
   ·rw [List.getD_eq_getElem?_getD, List.getElem?_eq_getElem hl] at hj; exact h.ins _ (List.getElem_mem hl) j hj
   ·rw [List.getD_eq_getElem?_getD, List.getElem?_eq_none hl] at hj; exact (List.not_mem_nil hj).elim
  ·rw [List.mem_singleton.1 hj]; exact hi
theorem VI.bl {s : Mk} (h : VI s) : VI (fH s) := by
 refine ⟨h.byt, ?_⟩
 intro b hb j hj
 rcases List.mem_append.1 (show b ∈ cB s.2.2.1 ++ [blk0] from hb) with hb | hb
 ·exact h.ins b hb j hj
 ·rw [List.mem_singleton.1 hb] at hj; exact (List.not_mem_nil hj).elim
theorem VI.wR {s : Mk} (h : VI s) (k : Int) : VI (wR s k) := ⟨h.byt, h.ins⟩
theorem VI.wL {s : Mk} (h : VI s) (l : Loop) : VI (wL s l) := ⟨h.byt, h.ins⟩
theorem VI.wS {s : Mk} (h : VI s) (k : Int) : VI (wS s k) := ⟨h.byt, h.ins⟩
theorem VI.wT {s : Mk} (h : VI s) (b : Int) (t : Term) : VI (wT s b t) := by
 refine ⟨h.byt, ?_⟩
 intro c hc j hj
 rcases mem_set_cases (show c ∈ List.set _ _ _ from hc) with hc | rfl
 ·exact h.ins c hc j hj
 ·have hj : j ∈ ((cB s.2.2.1).getD b.toNat blk0).1 := hj
  rcases Nat.lt_or_ge b.toNat (cB s.2.2.1).length with hl | hl
  ·rw [List.getD_eq_getElem?_getD, List.getElem?_eq_getElem hl] at hj; exact h.ins _ (List.getElem_mem hl) j hj
  ·rw [List.getD_eq_getElem?_getD, List.getElem?_eq_none hl] at hj; exact (List.not_mem_nil hj).elim
theorem VI.pl {s : Mk} (h : VI s) (p : Bool) : VI (plM s p) := h.nx.nx.nx.put (.plain (.inl (by show (3 : Int) < 7; decide)) fun _ => h.nx.reg)
theorem plN_bd {s : Mk} (h : VI s) (p : Bool) : 0 <= plN s p /\ plN s p < 5 := by
 unfold plN
 split
 ·omega
 ·exact eO (fM s h.byt).1 (by decide)
theorem plN_pri {s : Mk} : plN s false ≠ 3 := by
 unfold plN
 split
 ·decide
 ·rename_i h
  exact fun e => h ⟨e, rfl⟩
theorem VI.inst {s : Mk} (h : VI s) : VI (bV s) := by
 unfold bV instF
 have h1 := h.nx
 split
 ·exact h1.nx.nx.put (.plain (.inl (by show (5 : Int) < 7; decide)) fun _ => h1.nx.reg)
 split
 ·exact h1.nx.nx.nx.nx.put (.plain (.inl (by show (3 : Int) < 7; decide)) fun _ => h1.nx.reg)
 split
 ·exact h1.nx.nx.nx.put (.plain (.inl (by show (2 : Int) < 7; decide)) fun _ => h1.nx.reg)
 split
 ·exact h1.nx.nx.nx.nx.put (.plain (.inl (by show (4 : Int) < 7; decide)) fun _ => h1.reg)
 split
 ·exact h1.nx.nx.put (.plain (.inl (by show (1 : Int) < 7; decide)) fun _ => h1.reg)
 split
 ·exact h1.nx.nx.put (.plain (.inl (by show (6 : Int) < 7; decide)) fun _ => h1.nx.reg)
 split
 ·exact h1.nx.put (.plain (.inr rfl) fun e => by exact absurd (show (0 : Int) = 2 from e) (by decide))
 split
 ·refine (h1.pl false).nx.nx.put ⟨fun _ => plN_bd h1 false, fun _ => plN_pri, fun e => ?_, fun e => by exact absurd (show (0 : Int) = 2 from e) (by decide), fun e => ?_⟩
  ·have e : (9 : Int) = 11 ∨ (9 : Int) = 12 := e; omega
  ·have e : (9 : Int) = 7 ∨ (9 : Int) = 11 := e; omega
 split
 ·refine (h1.pl true).nx.put ⟨fun _ => plN_bd h1 true, fun e => ?_, fun e => ?_, fun _ => (h1.pl true).reg, fun _ => rfl⟩
  ·have e : (7 : Int) = 9 := e; omega
  ·have e : (7 : Int) = 11 ∨ (7 : Int) = 12 := e; omega
 ·refine (h1.pl true).nx.put ⟨fun _ => plN_bd h1 true, fun e => ?_, fun e => ?_, fun e => by exact absurd (show (0 : Int) = 2 from e) (by decide), fun e => ?_⟩
  ·have e : (8 : Int) = 9 := e; omega
  ·have e : (8 : Int) = 11 ∨ (8 : Int) = 12 := e; omega
  ·have e : (8 : Int) = 7 ∨ (8 : Int) = 11 := e; omega
theorem VI.instN : ∀ {k : Nat} {s : Mk}, VI s -> VI (instN k s)
 | 0, s, h => h
 | k + 1, s, h => VI.instN (k := k) (s := bV s) h.inst
theorem VI.insM {s : Mk} (h : VI s) : VI (insM s) := VI.instN h.nx
theorem lpN_nn (s : Mk) : 0 <= lpN s := by unfold lpN; omega
theorem VI.lp6 {s : Mk} (h : VI s) : VI (lp6 s) := by
 have a1 : VI (lp1 s) := VI.put (i := i3 1 0 0 (cZ (lpN s)) (conO 0) dD) (h.nx.wR _) (.plain (.inl (by show (1 : Int) < 7; decide)) fun _ => lpN_nn s)
 have a2 : VI (lp2 s) := ((a1.wT _ _).wL _).bl
 have a3 : VI (lp3 s) := a2.put (.plain (.inl (by show (3 : Int) < 7; decide)) fun _ => by have := lpN_nn s; show 0 <= lpN s + 1; omega)
 have a4 : VI (lp4 s) := (a3.wT _ _).bl
 have a5 : VI (lp5 s) := (VI.put (i := i3 3 10 0 (cZ (lpN s)) (cZ (lpN s)) (conO 1)) a4 (.plain (.inl (by show (3 : Int) < 7; decide)) fun _ => lpN_nn s)).insM
 exact a5.wT _ _
theorem VI.lp {s : Mk} (h : VI s) : VI (lpM s) := by
 unfold lpM
 split
 ·exact h.lp6.nx.nx.wT _ _
 ·exact h.lp6.nx
theorem VI.rg2 {s : Mk} (h : VI s) (b last : Int) : VI (rg2 b last s) := by
 unfold Sp.rg2
 split
 ·exact h.nx.nx.nx.nx.wT _ _
 ·exact h.nx
theorem VI.rgN {last : Int} : ∀ {k : Nat} {s : Mk}, VI s -> VI (rgN last k s)
 | 0, s, h => h
 | k + 1, s, h => VI.rgN (k := k) (s := rgS (last - ((k + 1 : Nat) : Int)) last s) (((h.insM.wT _ _).rg2 _ _).bl)
theorem VI.rg {s : Mk} (h : VI s) (n : Int) : VI (rgM s n) := (VI.rgN h.bl).insM
theorem VI.sbN : ∀ {k : Nat} {s : Mk}, VI s -> VI (sbN k s)
 | 0, s, h => h
 | k + 1, s, h => by
  show VI (if _ then _ else _)
  split
  ·exact VI.sbN (h.wS _)
  ·exact h
theorem VI.q2 {s : Mk} (h : VI s) : VI (q2 s) := by
 unfold Sp.q2
 split
 ·exact h.nx.lp.bl
 ·exact h.nx
theorem VI.q4 {s : Mk} (h : VI s) (b : Int) : VI (q4 b s) := by
 unfold Sp.q4
 split
 ·exact h.nx.nx.nx.nx.nx.wT _ _
 ·exact h.nx
theorem VI.mdS {s : Mk} (h : VI s) : VI (mdS s) := ((h.nx.rg _).q2.wT _ _).q4 _
theorem VI.mdN : ∀ {k : Nat} {s : Mk}, VI s -> VI (mdN k s)
 | 0, s, h => h
 | k + 1, s, h => @VI.mdN k (Sp.mdS s) h.mdS
theorem VI.q5 {s : Mk} (h : VI s) : VI (q5 s) := by
 unfold Sp.q5
 split
 ·exact h.nx.lp.bl.insM
 ·exact h.nx
theorem VI.md5 (L : List Int) (hb : Byt (md0 L)) : VI (md5 L) := by
 have a1 : VI (md1 L) := ⟨hb, fun b hb => (List.not_mem_nil hb).elim⟩
 have a2 : VI (md2 L) := VI.sbN a1.nx
 have a3 : VI (md3 L) := VI.mdN a2.nx
 exact ((a3.nx.rg _).q5).wT _ _
theorem made_wI (L : List Int) (hb : Byt (md0 L)) : ∀ b ∈ cB (bQ L), ∀ i ∈ b.1, wI i := (VI.md5 L hb).ins
theorem made_ne (L : List Int) (hb : Byt (md0 L)) : 0 < (cB (bQ L)).length := by
 have h := (aG.md4 L hb).2.1
 show 0 < (setT _ _ _).length
 unfold setT
 rw [List.length_set]; exact h
theorem slL_wI (b : Int) (hb : 0 <= b) (l : List Inst) (hl : ∀ i ∈ l, wI i) : ∀ k, k <= l.length -> ∀ i ∈ slL b l k, wI i
 | 0, _, i, hi => (List.not_mem_nil hi).elim
 | k + 1, hk, i, hi => by
  rcases List.mem_append.1 (show i ∈ slL b l k ++ [aV l k] ++ slI b k from hi) with hi | hi
  ·rcases List.mem_append.1 hi with hi | hi
   ·exact slL_wI b hb l hl k (by omega) i hi
   ·rw [List.mem_singleton.1 hi]
    unfold aV;rw [List.getD_eq_getElem?_getD, List.getElem?_eq_getElem (by omega : k < l.length)];exact hl _ (List.getElem_mem _)
  ·unfold slI at hi
   have h2 := eO hb (k := 2) (by decide)
   split at hi
   ·rcases List.mem_cons.1 hi with rfl | hi
    ·refine ⟨fun e => ?_, fun e => ?_, fun _ => h2.1, fun e => by exact absurd (show (0 : Int) = 2 from e) (by decide), fun e => ?_⟩
     ·have e : (12 : Int) = 7 ∨ (12 : Int) = 8 ∨ (12 : Int) = 9 := e; omega
     ·have e : (12 : Int) = 9 := e; omega
     ·have e : (12 : Int) = 7 ∨ (12 : Int) = 11 := e; omega
    ·rw [List.mem_singleton.1 hi]
     refine ⟨fun e => ?_, fun e => ?_, fun _ => h2.1, fun _ => (show 0 <= Int.tmod ((k : Int) + 1) 6 from (eO (by omega) (by decide)).1), fun _ => rfl⟩
     ·have e : (11 : Int) = 7 ∨ (11 : Int) = 8 ∨ (11 : Int) = 9 := e; omega
     ·have e : (11 : Int) = 9 := e; omega
   ·exact (List.not_mem_nil hi).elim
structure wC (c : Code) : Prop where
 arr : cA c = arrs
 ne : 0 < (cB c).length
 bd : (cB c).length <= 800 /\ (cL c).length <= 800 /\ ∀ b ∈ cB c, b.1.length <= 2400
 ins : ∀ b ∈ cB c, ∀ i ∈ b.1, wI i
end Sp
namespace Go.User
open Sp
theorem wC_made (L : List Int) (hb : Byt (md0 L)) : wC (bQ L) := by
 obtain ⟨_, g2, g3, g4⟩ := made_ok L hb
 have g5 := ((made_ok L hb).mono (show 800 <= 2400 by omega)).2.2.2
 exact ⟨made_arr L hb, made_ne L hb, ⟨g3, g2, g5⟩, made_wI L hb⟩
theorem cB_setB (c : Sp.Code) (B : List Sp.Block) : Sp.cB (Sp.fK c B) = B := rfl
theorem cB_slo (L : List Int) : Sp.cB (Sp.sloC L) = Sp.slB (Sp.bQ L) (Sp.cB (Sp.bQ L)).length := by unfold Sp.sloC; exact cB_setB _ _
theorem cA_setB (c : Sp.Code) (B : List Sp.Block) : Sp.cA (Sp.fK c B) = Sp.cA c := rfl
theorem cL_setB (c : Sp.Code) (B : List Sp.Block) : Sp.cL (Sp.fK c B) = Sp.cL c := rfl
theorem cA_setSl (c : Sp.Code) (n : Int) : Sp.cA (Sp.setSl c n) = Sp.cA c := rfl
theorem cL_setSl (c : Sp.Code) (n : Int) : Sp.cL (Sp.setSl c n) = Sp.cL c := rfl
theorem cA_slo (L : List Int) : Sp.cA (Sp.sloC L) = Sp.cA (Sp.bQ L) := by unfold Sp.sloC; rw [cA_setB, cA_setSl]
theorem cL_slo (L : List Int) : Sp.cL (Sp.sloC L) = Sp.cL (Sp.bQ L) := by unfold Sp.sloC; rw [cL_setB, cL_setSl]
theorem wC_slo0 (c d : Sp.Code) (h : wC c) (h8 : ∀ b ∈ cB c, b.1.length <= 800) (e1 : cB d = slB c (cB c).length) (e2 : cA d = cA c) (e3 : cL d = cL c) : wC d := by
 have hat : ∀ b ∈ cB d, ∃ k, k < (cB c).length /\ b = (slL (k : Int) (aH c k).1 (aH c k).1.length, (aH c k).2) := by
  intro b hb;rw [e1] at hb;obtain ⟨k, hk, e⟩ := List.mem_iff_getElem.1 hb;have hk' := hk;rw [fJ] at hk';refine ⟨k, hk', ?_⟩;have := slB_at c (cB c).length hk' blk0;rw [if_pos hk', List.getD_eq_getElem?_getD, List.getElem?_eq_getElem hk, e] at this;exact this
 refine ⟨e2.trans h.arr, ?_, ⟨?_, by rw [e3]; exact h.bd.2.1, ?_⟩, ?_⟩
 ·rw [e1, fJ]; exact h.ne
 ·rw [e1, fJ]; exact h.bd.1
 ·intro b hb
  obtain ⟨k, hk, rfl⟩ := hat b hb;have g1 := slL_len (k : Int) (aH c k).1 (aH c k).1.length;have g2 := h8 _ (dC hk)
  dsimp only
  omega
 ·intro b hb i hi
  obtain ⟨k, hk, rfl⟩ := hat b hb;exact slL_wI k (by omega) _ (fun i hi => h.ins _ (dC hk) i hi) _ (Nat.le_refl _) i hi
theorem wC_slo (L : List Int) (hb : Byt (md0 L)) : wC (sloC L) :=
 wC_slo0 (bQ L) (sloC L) (wC_made L hb) (made_ok L hb).2.2.2 (cB_slo L) (cA_slo L) (cL_slo L)
theorem _root_.Sp.wC.v {c : Sp.Code} (h : Sp.wC c) : vOK c := by
 refine ⟨⟨by rw [h.arr]; decide, by have := h.bd.2.1; omega, by have := h.bd.1; omega, fun b hb => by have := h.bd.2.2 b hb; omega⟩, ?_⟩
 intro b hb i hi hop
 rw [h.arr]
 exact (h.ins b hb i hi).arr hop
end Go.User
namespace Sp
theorem spc_arr {c : Code} (h : cA c = arrs) {n : Int} (h0 : 0 <= n) (h5 : n < 5) (h3 : n ≠ 3) : spc c n ≠ 3 := by
 unfold spc
 rw [h]
 have hc : n = 0 ∨ n = 1 ∨ n = 2 ∨ n = 4 := by omega
 rcases hc with rfl | rfl | rfl | rfl <;> decide
theorem depP_eq {c : Code} (ha : cA c = arrs) {i j : Inst} (hi : wI i) (hj : wI j) : aY c i j = bM c i j := by
 unfold aY bM
 have key : accB (accI c i) (accI c j) = (arrB i && arrB j && decide (nI i = nI j) && (!decide (opI i = 7) || !decide (opI j = 7) || visB c i) || sltB i && sltB j && decide (nI i = nI j) && (!decide (opI i = 11) || !decide (opI j = 11)) || strB i && visB c j || strB j && visB c i) := by
  have hcase : ∀ i : Inst, wI i -> (opI i = 7 /\ 0 <= nI i) ∨ (opI i = 8 /\ 0 <= nI i) ∨ (opI i = 9 /\ 0 <= nI i /\ spc c (nI i) ≠ 3) ∨ opI i = 10 ∨ (opI i = 11 /\ 0 <= nI i) ∨ (opI i = 12 /\ 0 <= nI i) ∨ (opI i ≠ 7 /\ opI i ≠ 8 /\ opI i ≠ 9 /\ opI i ≠ 10 /\ opI i ≠ 11 /\ opI i ≠ 12) := by
   intro i hi;have hA := hi.arr;have hS := hi.slt;by_cases e7 : opI i = 7
   ·exact .inl ⟨e7, (hA (.inl e7)).1⟩
   by_cases e8 : opI i = 8
   ·exact .inr (.inl ⟨e8, (hA (.inr (.inl e8))).1⟩)
   by_cases e9 : opI i = 9
   ·exact .inr (.inr (.inl ⟨e9, (hA (.inr (.inr e9))).1, spc_arr ha (hA (.inr (.inr e9))).1 (hA (.inr (.inr e9))).2 (hi.pri e9)⟩))
   by_cases e10 : opI i = 10
   ·exact .inr (.inr (.inr (.inl e10)))
   by_cases e11 : opI i = 11
   ·exact .inr (.inr (.inr (.inr (.inl ⟨e11, hS (.inl e11)⟩))))
   by_cases e12 : opI i = 12
   ·exact .inr (.inr (.inr (.inr (.inr (.inl ⟨e12, hS (.inr e12)⟩)))))
   exact .inr (.inr (.inr (.inr (.inr (.inr ⟨e7, e8, e9, e10, e11, e12⟩)))))
  unfold accB accI arrB sltB visB strB;rcases hcase i hi with ⟨hi1, hi2⟩ | ⟨hi1, hi2⟩ | ⟨hi1, hi2, hi3⟩ | hi1 | ⟨hi1, hi2⟩ | ⟨hi1, hi2⟩ | ⟨g1, g2, g3, g4, g5, g6⟩ <;>
  rcases hcase j hj with ⟨hj1, hj2⟩ | ⟨hj1, hj2⟩ | ⟨hj1, hj2, hj3⟩ | hj1 | ⟨hj1, hj2⟩ | ⟨hj1, hj2⟩ | ⟨k1, k2, k3, k4, k5, k6⟩ <;>
  (try simp [*, ac0, strB, arrB]) <;> (try (intros; omega))
 rw [key]
 generalize hitB i j = x1
 generalize hitB j i = x2
 simp only [Bool.or_assoc]
end Sp
