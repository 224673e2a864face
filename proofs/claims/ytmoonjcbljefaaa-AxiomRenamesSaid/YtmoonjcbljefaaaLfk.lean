/- Tests out of bytes, and the law of coherence: the functions compute what they should. Plain facts: the shape of a graph of bytes; a graph whose cores were exchanged. Plain facts: two cores of a test and a graph, exchanged. Plain facts: exchanging two cores, or two places, changes nothing. Plain facts: the lists that the law of renaming builds. Written by gen.py: what is left to show of each function. Plain facts: a graph that is allowed is allowed without one of its fences. -/
import Derived.Test.YtmoonjcbljefaaaLfj
set_option linter.unusedVariables false
set_option linter.unusedSimpArgs false
namespace Go.User
open Go.Lf Go.Proofs

theorem made_step {b : List Int} (hb : ∀ x ∈ b, inK .u8 x) {k : Nat} (hk : k < Sp.nK b) {n : Int} (hn : n = Sp.nC b) (o : Sp.LOp) (ho : o = Sp.opOf b (2 * k + 1)) :
    (inN ((b.getD (2 * k + 2) 0).tmod n) (Sp.madeN b k).length ∧ (((List.length ((Sp.madeN b k).getD ((b.getD (2 * k + 2) 0).tmod n).toNat []) + 1 : Nat)) : Int) ≤ maxNew ∧ inN ((b.getD (2 * k + 2) 0).tmod n) (Sp.madeN b k).length) ∧
      inK .i64 (((2 * k + 1 : Nat) : Int) + 2) ∧ ∃ y : Nat, y ≤ Sp.nK b ∧ Sp.nK b - y < Sp.nK b - k ∧ ((2 * k + 1 : Nat) : Int) + 2 = ((2 * y + 1 : Nat) : Int) ∧
        ((Sp.madeN b k).set ((b.getD (2 * k + 2) 0).tmod n).toNat ((Sp.madeN b k).getD ((b.getD (2 * k + 2) 0).tmod n).toNat [] ++ [o]), ()) = (Sp.madeN b y, ()) := by
  subst hn; subst ho
  have hc := Sp.cOf hb (2 * k + 2)
  have hl := Sp.madeN_len b k
  have hK : Sp.nK b ≤ 6 := by unfold Sp.nK; omega
  have he := Sp.madeN_evs hb k
  have hg := Sp.evs_get (Sp.madeN b k) ((b.getD (2 * k + 2) 0).tmod (Sp.nC b)).toNat 0
  refine ⟨⟨⟨hc.1, by omega⟩, by rw [maxNew_eq]; omega, ⟨hc.1, by omega⟩⟩, inK_of (by omega) (by omega), k + 1, by omega, by omega, by omega, rfl⟩

theorem ok11 : FOk Try.prog 11 S11 := by
  have hC : CtxOK Try.prog C11 := ctx_ok rfl rfl (fns_cons ok32 (fns_cons ok33 fns_nil)) ptrs_nil
  refine FOk.intro hC (stpP_ok hC) Try.call11 Try.func11 (by kernel_rfl) (by kernel_rfl) L11 (vc11.mpr ?_)
  simp only [z1, z2, z3, z4, z5, z6, z7, z8, z9, z10, z11, z12, z13, z14, z15, z16, z17, z18, z19, z20, z21, z22, z23, z24, z25, z26, z27, z28, z29, z30, z31, z32, z33, z34, z35, z36, z37, z38, dFact]
  intro x hx
  obtain ⟨hlim, hb⟩ := hx
  have hnr := Sp.nC_range x.1
  have hK : Sp.nK x.1 ≤ 6 := by unfold Sp.nK; omega
  have hB := fun i => Sp.byte_at hb i
  have htoNat : ∀ k : Nat, (((2 * k + 1 : Nat) : Int) + 1).toNat = 2 * k + 2 := fun k => by omega
  have hend : ∀ k : Nat, k ≤ Sp.nK x.1 → (decide (((2 * k + 1 : Nat) : Int) + 1 < (x.1.length : Int)) && decide (((2 * k + 1 : Nat) : Int) < 13)) = false → k = Sp.nK x.1 := by
    intro k hk h
    unfold Sp.nK at hk ⊢
    rw [Bool.and_eq_false_iff, decide_eq_false_iff_not, decide_eq_false_iff_not] at h
    omega
  have hlast : ∀ k : Nat, k = Sp.nK x.1 → (Sp.evs 0 (Sp.madeN x.1 k)).length ≤ 1000 ∧ (((Sp.evs 0 (Sp.madeN x.1 k)).length : Int) = 0 → inN 0 (Sp.madeN x.1 k).length ∧ ((Sp.madeN x.1 k).set (Int.toNat 0) [(1, 0, 0, ())], ()) = (Sp.madeP x.1, ())) ∧
      (¬ ((Sp.evs 0 (Sp.madeN x.1 k)).length : Int) = 0 → (Sp.madeN x.1 k, ()) = (Sp.madeP x.1, ())) := by
    rintro k rfl
    have he := Sp.madeN_evs hb (Sp.nK x.1)
    have hl := Sp.madeN_len x.1 (Sp.nK x.1)
    refine ⟨by omega, fun h => ⟨⟨by omega, by omega⟩, ?_⟩, fun h => ?_⟩
    · unfold Sp.madeP; rw [if_pos (by omega)]; rfl
    · unfold Sp.madeP; rw [if_neg (by omega)]
  refine ⟨fun hlen => ?_, fun hlen => ?_⟩
  · have hn : 1 + x.1.getD (Int.toNat 0) 0 % 4 = Sp.nC x.1 := by
      unfold Sp.nC; rw [if_pos (by omega)]; rfl
    rw [hn]
    refine ⟨⟨⟨by omega, hlen⟩, by decide, inK_of (by omega) (by omega)⟩, ⟨1, ⟨by omega, hnr.1⟩, rfl, rfl⟩, ?_⟩
    intro i hi _
    refine ⟨fun hlt => ⟨by rw [List.length_replicate, maxNew_eq]; omega, inK_of (by omega) (by omega), i + 1, ⟨by omega, by omega⟩, by omega, rfl, by rw [List.replicate_succ']⟩, fun hge => ⟨⟨0, Nat.zero_le _, rfl, ?_⟩, ?_⟩⟩
    · show (List.replicate i [], ()) = (List.replicate (Sp.nC x.1).toNat [], ())
      rw [show i = (Sp.nC x.1).toNat from by omega]
    · intro k hk _
      refine ⟨inK_of (by omega) (by omega), fun hc => ?_, fun h => hlast k (hend k hk h)⟩
      have hkk : k < Sp.nK x.1 := by unfold Sp.nK at hk ⊢; omega
      have b1 := hB (2 * k + 1)
      have b2 := hB (2 * k + 2)
      have hin : inN (((2 * k + 1 : Nat)) : Int) x.1.length := ⟨by omega, by omega⟩
      have hin2 : inN (((2 * k + 1 : Nat) : Int) + 1) x.1.length := ⟨by omega, by omega⟩
      have hk1 : inK .i64 (((2 * k + 1 : Nat) : Int) + 1) := inK_of (by omega) (by omega)
      have hne : ¬ Sp.nC x.1 = 0 := by omega
      rw [htoNat k]
      have t9 := Int.tmod_nonneg 9 (show 0 ≤ x.1.getD (2 * k + 2) 0 / 4 by omega)
      have t9' := Int.tmod_lt_of_pos (x.1.getD (2 * k + 2) 0 / 4) (show (0 : Int) < 9 by omega)
      refine ⟨⟨hin, by decide, inK_of (by omega) (by omega), hin, by decide, by decide⟩, fun hw => ⟨⟨hk1, hin2, by decide, by decide, inK_of (by omega) (by omega)⟩, fun h4 => ?_, fun h4 => ⟨⟨hk1, hin2, hne⟩, made_step hb hkk rfl _ ?_⟩⟩, fun hw => ⟨fun h4 => ⟨⟨hk1, hin2, hne⟩, made_step hb hkk rfl _ ?_⟩, fun h4 => ⟨⟨hk1, hin2, hne⟩, made_step hb hkk rfl _ ?_⟩⟩⟩
      · unfold Sp.writes at hw
        rw [h4] at hw; cases hw
      · have hw' : (1 + x.1.getD (2 * k + 1) 0 % 4) = 2 ∨ (1 + x.1.getD (2 * k + 1) 0 % 4) = 3 := by
          unfold Sp.writes at hw
          simpa using hw
        unfold Sp.opOf
        rw [if_neg h4, if_pos hw']
      · have hw' : ¬ ((1 + x.1.getD (2 * k + 1) 0 % 4) = 2 ∨ (1 + x.1.getD (2 * k + 1) 0 % 4) = 3) := by omega
        unfold Sp.opOf
        rw [if_pos h4, if_neg hw']
      · have hw' : ¬ ((1 + x.1.getD (2 * k + 1) 0 % 4) = 2 ∨ (1 + x.1.getD (2 * k + 1) 0 % 4) = 3) := by
          unfold Sp.writes at hw
          simpa using hw
        unfold Sp.opOf
        rw [if_neg h4, if_neg hw']
  · have hn : Sp.nC x.1 = 1 := by unfold Sp.nC; rw [if_neg (by omega)]
    refine ⟨⟨1, ⟨by omega, by omega⟩, rfl, rfl⟩, ?_⟩
    intro i hi _
    refine ⟨fun hlt => by omega, fun hge => ⟨⟨0, Nat.zero_le _, rfl, ?_⟩, ?_⟩⟩
    · show (List.replicate i [], ()) = (List.replicate (Sp.nC x.1).toNat [], ())
      rw [show i = (Sp.nC x.1).toNat from by omega]
    · intro k hk _
      refine ⟨inK_of (by omega) (by omega), fun hc => ?_, fun h => hlast k (hend k hk h)⟩
      omega

theorem gr_eta : ∀ g : Sp.Gr, (g.1, g.2.1, g.2.2.1, g.2.2.2.1, ()) = g
  | (_, _, _, _, ()) => rfl
theorem graph_eta (t : Sp.Lit) (b : List Int) : (Sp.gE t b, Sp.gF t b, Sp.gM t b, Sp.gO t b, ()) = Sp.graph t b := by
  unfold Sp.gE Sp.gF Sp.gM Sp.gO
  exact gr_eta _
theorem s12c : S12c = S12 :=
  congrArg (fun f => ({ args := [.val tLit, .val (.slice (.int .u8))], multi := false, res := tGr, mode := mGr, pre := fun x => fine x.1, fn := f } : FSpec)) (funext fun x => graph_eta x.1 x.2.1)
theorem ok12c : FOk Try.prog 12 S12c := by rw [s12c]; exact ok12

end Go.User
namespace Sp
open Relation
theorem bool_iff {a b : Bool} (h : a = true ↔ b = true) : a = b := by
  cases a <;> cases b <;> simp_all
/-- A graph is right but for the values that were read. -/
structure Shape (t : Lit) (g : Gr) : Prop where
  valid : valid t = true
  lenE : g.1.length = (evs 0 t.1).length
  lenF : g.2.1.length = (evs 0 t.1).length
  lenM : g.2.2.1.length = 3
  src : ∀ n < (evs 0 t.1).length, src (evs 0 t.1) g n
  mo : ∀ p < 3, isList (g.2.2.1.getD p []) (evs 0 t.1) (fun o => writes o && decide (o.2.1 = (p : Int))) = true
  fo : isList g.2.2.2.1 (evs 0 t.1) (fun o => decide (o.1 = 4)) = true
theorem RightP.shape {t : Lit} {g : Gr} (h : RightP t g) : Shape t g := ⟨h.valid, h.lenE, h.lenF, h.lenM, h.src, h.mo, h.fo⟩
theorem Shape.rightP {t : Lit} {g : Gr} (h : Shape t g) (hg : ∀ n < g.1.length, got g n) : RightP t g := ⟨h.valid, h.lenE, h.lenF, h.lenM, h.src, hg, h.mo, h.fo⟩

theorem not_mem_eraseIdx : ∀ {l : List Int} (k : Nat) (hk : k < l.length), l.Nodup → l[k] ∉ l.eraseIdx k ∧ (l.eraseIdx k).Nodup
  | x :: l, 0, _, h => by
    rw [List.nodup_cons] at h
    exact ⟨by simpa using h.1, by simpa using h.2⟩
  | x :: l, k + 1, hk, h => by
    rw [List.nodup_cons] at h
    simp only [List.length_cons] at hk
    have ih := not_mem_eraseIdx k (by omega) h.2
    simp only [List.getElem_cons_succ, List.eraseIdx_cons_succ, List.mem_cons, List.nodup_cons, not_or]
    refine ⟨⟨fun e => h.1 (e ▸ List.getElem_mem _), ih.1⟩, fun hm => h.1 (List.mem_of_mem_eraseIdx hm), ih.2⟩
theorem shuf_nodup : ∀ (n : Nat) (l b : List Int) (i : Int), l.length = n → l.Nodup → (shuf n l b i).Nodup
  | 0, l, b, i, _, _ => by simp [shuf]
  | n + 1, l, b, i, hl, hn => by
    have ht := tmod_toNat_lt (byteAt b i) (show 0 < l.length by omega)
    have h1 := not_mem_eraseIdx ((byteAt b i).tmod (l.length : Int)).toNat ht hn
    have hl2 : (l.eraseIdx ((byteAt b i).tmod (l.length : Int)).toNat).length = n := by rw [List.length_eraseIdx, if_pos ht]; omega
    simp only [shuf, List.nodup_cons]
    refine ⟨?_, shuf_nodup n _ b (i + 1) hl2 h1.2⟩
    rw [(shuf_facts n _ b (i + 1) hl2).2, getD_lt ht]
    exact h1.1
theorem sel_nodup (p : Nat → Bool) (n : Nat) : (sel p n).Nodup := by
  unfold sel List.Nodup
  rw [List.pairwise_map]
  exact ((List.nodup_range (n := n)).filter _).imp (fun h e => h (by omega))
theorem shuffled_nodup {l b : List Int} {i : Int} (h : l.Nodup) : (shuffled l b i).Nodup := shuf_nodup _ _ _ _ rfl h
theorem rnd_same (frm : List Int) (e : List LEv) (n : Nat) (i : Int) : (ev (rnd frm e n) i).1 = (ev e i).1 ∧ (ev (rnd frm e n) i).2.1 = (ev e i).2.1 := by
  unfold rnd
  split
  · exact ev_setR_same _ _ _ _
  · exact ⟨rfl, rfl⟩
theorem rndN_same (frm : List Int) (e : List LEv) (i : Int) : ∀ n, (ev (rndN frm e n) i).1 = (ev e i).1 ∧ (ev (rndN frm e n) i).2.1 = (ev e i).2.1
  | 0 => ⟨rfl, rfl⟩
  | n + 1 => by
    have h1 := rnd_same frm (rndN frm e n) n i
    have h2 := rndN_same frm e i n
    rw [rndN_succ]
    exact ⟨h1.1.trans h2.1, h1.2.trans h2.2⟩
theorem rounds_same (frm : List Int) (e : List LEv) (i : Int) : ∀ n, (ev (rounds frm e n) i).1 = (ev e i).1 ∧ (ev (rounds frm e n) i).2.1 = (ev e i).2.1
  | 0 => ⟨rfl, rfl⟩
  | n + 1 => by
    have h1 := rndN_same frm (rounds frm e n) i (rounds frm e n).length
    have h2 := rounds_same frm e i n
    rw [rounds_succ]
    exact ⟨h1.1.trans h2.1, h1.2.trans h2.2⟩
theorem fromN_get (e : List LEv) (b : List Int) : ∀ n, ∀ i < n, (fromN e b n).1.getD i 0 = -1 ∨ (reads (ev e i).2.1 = true ∧ (fromN e b n).1.getD i 0 ∈ (mo3 e b).getD (ev e i).2.1.2.1.toNat [])
  | 0, i, h => by omega
  | n + 1, i, h => by
    have hl := fromN_len e b n
    have key : ∀ x : Int, ((fromN e b n).1 ++ [x]).getD i 0 = if i = n then x else (fromN e b n).1.getD i 0 := by
      intro x
      rw [List.getD_eq_getElem?_getD]
      by_cases e' : i = n
      · rw [if_pos e', List.getElem?_append_right (by omega)]; simp [hl, e']
      · rw [if_neg e', List.getElem?_append_left (by omega), ← List.getD_eq_getElem?_getD]
    by_cases hr : reads (ev e n).2.1 = true
    · simp only [fromN]
      rw [if_pos hr, key]
      by_cases e' : i = n
      · rw [if_pos e', e']
        rcases pick_mem e (mo3 e b) b (fromN e b n).2 n with h1 | h1
        · exact .inl h1
        · exact .inr ⟨hr, h1⟩
      · rw [if_neg e']
        exact fromN_get e b n i (by omega)
    · simp only [fromN]
      rw [if_neg hr, key]
      by_cases e' : i = n
      · rw [if_pos e']; exact .inl rfl
      · rw [if_neg e']
        exact fromN_get e b n i (by omega)
theorem shape_mk {t : Lit} {R : List LEv} {Fr Fo : List Int} {M : List (List Int)} (hv : valid t = true) (h1 : R.length = (evs 0 t.1).length) (h2 : Fr.length = (evs 0 t.1).length) (h3 : M.length = 3)
    (h4 : ∀ n : Nat, n < (evs 0 t.1).length → (ev R n).1 = (ev (evs 0 t.1) n).1 ∧ (ev R n).2.1 = (ev (evs 0 t.1) n).2.1)
    (h5 : ∀ n : Nat, n < (evs 0 t.1).length → -1 ≤ Fr.getD n 0 ∧ Fr.getD n 0 < ((evs 0 t.1).length : Int) ∧ (0 ≤ Fr.getD n 0 → reads (ev (evs 0 t.1) n).2.1 = true ∧ writes (ev (evs 0 t.1) (Fr.getD n 0)).2.1 = true ∧ (ev (evs 0 t.1) (Fr.getD n 0)).2.1.2.1 = (ev (evs 0 t.1) n).2.1.2.1))
    (h6 : ∀ p < 3, isList (M.getD p []) (evs 0 t.1) (fun o => writes o && decide (o.2.1 = (p : Int))) = true) (h7 : isList Fo (evs 0 t.1) (fun o => decide (o.1 = 4)) = true) : Shape t (R, Fr, M, Fo, ()) :=
  ⟨hv, h1, h2, h3, fun n hn => ⟨(h4 n hn).1, (h4 n hn).2, h5 n hn⟩, h6, h7⟩
theorem graph_shape {t : Lit} (hv : valid t = true) (b : List Int) : Shape t (graph t b) := by
  have hu := valid_ev hv
  have hX3 : ∀ x ∈ evs 0 t.1, Go.Lf.inN x.2.1.2.1 3 := fun x hx => by have := usual_X (hu.2 x hx); exact ⟨this.1, by omega⟩
  have hmo : ∀ p < 3, isList ((mo3 (evs 0 t.1) b).getD p []) (evs 0 t.1) (fun o => writes o && decide (o.2.1 = (p : Int))) = true := by
    intro p hp
    unfold isList
    simp only [Bool.and_eq_true, decide_eq_true_eq]
    refine ⟨⟨?_, fun n hn => ?_⟩, fun n hn hw => ?_⟩
    · unfold mo3
      rw [moN_get _ _ 3 p hp]
      exact shuffled_nodup (sel_nodup _ _)
    · rw [mem_mo3 hp, mem_wr] at hn
      obtain ⟨i, hi, h1, rfl⟩ := hn
      exact ⟨by omega, by omega, h1.1, h1.2⟩
    · rw [mem_mo3 hp, mem_wr]
      exact ⟨n, hn, hw, rfl⟩
  refine shape_mk hv (rounds_len _ _ 8) (fromN_len _ _ _) (moN_len _ _ 3) (fun n hn => rounds_same _ _ _ 8) (fun n hn => ?_) hmo ?_
  · have hfn := hn
    rcases fromN_get (evs 0 t.1) b (evs 0 t.1).length n hn with h | ⟨h1, h2⟩
    · rw [h]; exact ⟨by omega, by omega, fun h => by omega⟩
    · have hx := hX3 _ (ev_mem hn)
      have hx1 := hx.1
      have hx2 := hx.2
      rw [mem_mo3 (by omega), mem_wr] at h2
      obtain ⟨i, hi, h3, h4⟩ := h2
      generalize (fromN (evs 0 t.1) b (evs 0 t.1).length).1.getD n 0 = v at *
      subst h4
      exact ⟨by omega, by omega, fun _ => ⟨h1, h3.1, by rw [h3.2]; omega⟩⟩
  · show isList (foOf (evs 0 t.1) b) (evs 0 t.1) _ = true
    unfold isList foOf
    simp only [Bool.and_eq_true, decide_eq_true_eq]
    refine ⟨⟨shuffled_nodup (sel_nodup _ _), fun n hn => ?_⟩, fun n hn hw => ?_⟩
    · rw [mem_shuffled, mem_fen] at hn
      obtain ⟨i, hi, h1, rfl⟩ := hn
      exact ⟨by omega, by omega, h1⟩
    · rw [mem_shuffled, mem_fen]
      exact ⟨n, hn, hw, rfl⟩

/-- Two graphs with the same events under other numbers. -/
structure Iso (t u : Lit) (g h : Gr) (V T : Nat → Nat) : Prop where
  sg : Shape t g
  sh : Shape u h
  len : h.1.length = g.1.length
  Vl : ∀ k < g.1.length, V k < g.1.length ∧ T (V k) = k
  Tl : ∀ e < g.1.length, T e < g.1.length ∧ V (T e) = e
  kind : ∀ k < g.1.length, (ev h.1 k).2.1.1 = (ev g.1 (V k)).2.1.1 ∧ (ev h.1 k).2.1.2.2.1 = (ev g.1 (V k)).2.1.2.2.1 ∧ (ev h.1 k).2.2.1 = (ev g.1 (V k)).2.2.1
  ord : ∀ a b, a < g.1.length → b < g.1.length → (a < b ∧ (ev h.1 a).1 = (ev h.1 b).1 ↔ V a < V b ∧ (ev g.1 (V a)).1 = (ev g.1 (V b)).1)
  fo : h.2.2.2.1 = g.2.2.2.1.map fun v => ((T v.toNat : Nat) : Int)
  frm : ∀ k < g.1.length, h.2.1.getD k 0 = if g.2.1.getD (V k) 0 < 0 then -1 else ((T (g.2.1.getD (V k) 0).toNat : Nat) : Int)
  plc : ∀ k < g.1.length, (ev g.1 (V k)).2.1.1 ≠ 4 → plc h k = plc g (V k)
  X : ∀ a < g.1.length, ∀ b < g.1.length, (ev g.1 (V a)).2.1.1 ≠ 4 → (ev g.1 (V b)).2.1.1 ≠ 4 → ((ev h.1 a).2.1.2.1 = (ev h.1 b).2.1.2.1 ↔ (ev g.1 (V a)).2.1.2.1 = (ev g.1 (V b)).2.1.2.1)
theorem Shape.ord_lt {t : Lit} {g : Gr} (h : Shape t g) {a b : Nat} (ho : Ord g a b) : a < g.1.length ∧ b < g.1.length := by
  rcases ho with ho | ho
  · exact ⟨by omega, ho.2.1⟩
  · have hfo := h.fo
    have h1 := isList_in hfo (ho.subset (by simp) : (a : Int) ∈ _)
    have h2 := isList_in hfo (ho.subset (by simp) : (b : Int) ∈ _)
    have := h.lenE
    omega
theorem Shape.flow_lt {t : Lit} {g : Gr} (h : Shape t g) {a b : Nat} (ho : Flow g a b) : a < g.1.length ∧ b < g.1.length := by
  rcases ho with ho | ⟨h1, h2⟩
  · exact h.ord_lt ho
  · have hF := h.lenF
    have hE := h.lenE
    obtain ⟨_, _, _, h3, _⟩ := h.src b (by omega)
    rw [h2] at h3
    omega
section
variable {t u : Lit} {g h : Gr} {V T : Nat → Nat} (I : Iso t u g h V T)
include I
theorem Iso.frange {e : Nat} (he : e < g.1.length) : -1 ≤ g.2.1.getD e 0 ∧ g.2.1.getD e 0 < (g.1.length : Int) := by
  have hE := I.sg.lenE
  obtain ⟨_, _, h3, h4, _⟩ := I.sg.src e (by omega)
  exact ⟨h3, by omega⟩
theorem Iso.foOf {v : Int} (hv : v ∈ g.2.2.2.1) : 0 ≤ v ∧ v < (g.1.length : Int) := by
  have h1 := isList_in I.sg.fo hv
  have hE := I.sg.lenE
  exact ⟨h1.1, by have := h1.2.1; omega⟩
theorem Iso.foBack : h.2.2.2.1.map (fun v => ((V v.toNat : Nat) : Int)) = g.2.2.2.1 := by
  rw [I.fo, List.map_map]
  conv => rhs; rw [← List.map_id g.2.2.2.1]
  refine List.map_congr_left fun v hv => ?_
  have := I.foOf hv
  simp only [Function.comp, id, Int.toNat_natCast]
  rw [(I.Tl v.toNat (by omega)).2]; omega
theorem Iso.ordIff {a b : Nat} (ha : a < g.1.length) (hb : b < g.1.length) : Ord h a b ↔ Ord g (V a) (V b) := by
  have h1 := I.ord a b ha hb
  have hVb := (I.Vl b hb).1
  constructor
  · rintro (h2 | h2)
    · have := h1.1 ⟨h2.1, h2.2.2⟩
      exact .inl ⟨this.1, hVb, this.2⟩
    · right
      have h3 := h2.map (fun v : Int => ((V v.toNat : Nat) : Int))
      rw [I.foBack] at h3
      simpa using h3
  · rintro (h2 | h2)
    · have := h1.2 ⟨h2.1, h2.2.2⟩
      exact .inl ⟨this.1, by rw [I.len]; exact hb, this.2⟩
    · right
      have h3 := h2.map (fun v : Int => ((T v.toNat : Nat) : Int))
      rw [← I.fo] at h3
      simpa [(I.Vl a ha).2, (I.Vl b hb).2] using h3
theorem Iso.flowIff {a b : Nat} (ha : a < g.1.length) (hb : b < g.1.length) : Flow h a b ↔ Flow g (V a) (V b) := by
  have hF := I.frm b hb
  have hVa := I.Vl a ha
  have hVb := I.Vl b hb
  have hr := I.frange hVb.1
  have l1 := I.sh.lenF
  have l2 := I.sg.lenF
  have l3 := I.sh.lenE
  have l4 := I.sg.lenE
  have l5 := I.len
  unfold Flow
  rw [I.ordIff ha hb]
  refine or_congr Iff.rfl ⟨fun ⟨h1, h2⟩ => ⟨by omega, ?_⟩, fun ⟨h1, h2⟩ => ⟨by omega, ?_⟩⟩
  · rw [hF] at h2
    split at h2
    · omega
    · have hT := I.Tl (g.2.1.getD (V b) 0).toNat (by omega)
      have e : T (g.2.1.getD (V b) 0).toNat = a := by omega
      rw [e] at hT
      omega
  · rw [hF, h2, if_neg (by omega), Int.toNat_natCast, hVa.2]
theorem Iso.got {k : Nat} (hk : k < g.1.length) : got h k ↔ got g (V k) := by
  obtain ⟨k1, k2, k3⟩ := I.kind k hk
  have hVk := I.Vl k hk
  have hr := I.frange hVk.1
  have hrd : reads (ev h.1 k).2.1 = reads (ev g.1 (V k)).2.1 := by unfold reads; rw [k1]
  have hval : value h.1 (h.2.1.getD k 0) = value g.1 (g.2.1.getD (V k) 0) := by
    rw [I.frm k hk]
    by_cases hn : g.2.1.getD (V k) 0 < 0
    · rw [if_pos hn]
      unfold value
      rw [if_pos (by omega), if_pos hn]
    · rw [if_neg hn]
      have hT := I.Tl (g.2.1.getD (V k) 0).toNat (by omega)
      obtain ⟨m1, m2, m3⟩ := I.kind _ hT.1
      rw [hT.2, Int.toNat_of_nonneg (by omega)] at m1 m2 m3
      unfold value
      rw [if_neg (show ¬ ((T (g.2.1.getD (V k) 0).toNat : Nat) : Int) < 0 by omega), if_neg hn, m1, m2, m3]
  unfold Sp.got
  rw [k3, hrd, hval]
theorem Iso.rightIff : RightP u h ↔ RightP t g := by
  constructor
  · intro hR
    refine I.sg.rightP fun e he => ?_
    have hT := I.Tl e he
    have := (I.got hT.1).1 (hR.got _ (by rw [I.len]; exact hT.1))
    rwa [hT.2] at this
  · intro hR
    refine I.sh.rightP fun k hk => ?_
    rw [I.len] at hk
    exact (I.got hk).2 (hR.got _ (I.Vl k hk).1)
theorem Iso.allowIff : AllowP u h ↔ AllowP t g := by
  have hl := I.len
  constructor
  · intro hA
    refine hA.of (I.rightIff.1 hA.right) T (fun a b hab => ?_) (fun a b hab => ?_) (fun a ha => ?_) (fun a ha b hb h4 h5 hx => ?_)
    · have hlt := I.sg.ord_lt hab
      have ha := I.Tl a hlt.1
      have hb := I.Tl b hlt.2
      rw [I.ordIff ha.1 hb.1, ha.2, hb.2]; exact hab
    · have hlt := I.sg.flow_lt hab
      have ha := I.Tl a hlt.1
      have hb := I.Tl b hlt.2
      rw [I.flowIff ha.1 hb.1, ha.2, hb.2]; exact hab
    · have hT := I.Tl a ha
      have hk := I.kind _ hT.1
      have hp := I.plc _ hT.1
      rw [hT.2] at hk hp
      exact ⟨by omega, hk.1.symm, fun h4 => (hp h4).symm⟩
    · have hTa := I.Tl a ha
      have hTb := I.Tl b hb
      have := I.X _ hTa.1 _ hTb.1
      rw [hTa.2, hTb.2] at this
      exact (this h4 h5).2 hx
  · intro hA
    refine hA.of (I.rightIff.2 hA.right) V (fun a b hab => ?_) (fun a b hab => ?_) (fun a ha => ?_) (fun a ha b hb h4 h5 hx => ?_)
    · have hlt := I.sh.ord_lt hab
      rw [hl] at hlt
      exact (I.ordIff hlt.1 hlt.2).1 hab
    · have hlt := I.sh.flow_lt hab
      rw [hl] at hlt
      exact (I.flowIff hlt.1 hlt.2).1 hab
    · rw [hl] at ha
      have hk := I.kind a ha
      exact ⟨(I.Vl a ha).1, hk.1, fun h4 => I.plc a ha (by rw [← hk.1]; exact h4)⟩
    · rw [hl] at ha hb
      have k1 := I.kind a ha
      have k2 := I.kind b hb
      exact (I.X a ha b hb (by rw [← k1.1]; exact h4) (by rw [← k2.1]; exact h5)).1 hx
theorem Iso.right_eq : right u h = right t g := bool_iff (by rw [right_iff, right_iff]; exact I.rightIff)
theorem Iso.allowed_eq : allowed u h = allowed t g := bool_iff (by rw [allowed_iff, allowed_iff]; exact I.allowIff)
end
end Sp
namespace Sp
theorem swC_swC (p q c : Int) : swC p q (swC p q c) = c := by
  unfold swC
  by_cases h1 : c = p
  · subst h1
    rw [if_pos rfl]
    by_cases h2 : q = c
    · rw [if_pos h2]; exact h2
    · rw [if_neg h2, if_pos rfl]
  · rw [if_neg h1]
    by_cases h2 : c = q
    · subst h2
      rw [if_pos rfl, if_pos rfl]
    · rw [if_neg h2, if_neg h1, if_neg h2]
theorem swC_inj {p q a b : Int} (h : swC p q a = swC p q b) : a = b := by
  have := congrArg (swC p q) h
  rwa [swC_swC, swC_swC] at this
theorem swC_range {p q c : Int} {n : Nat} (hp : 0 ≤ p ∧ p < n) (hq : 0 ≤ q ∧ q < n) (hc : 0 ≤ c ∧ c < n) : 0 ≤ swC p q c ∧ swC p q c < n := by
  unfold swC
  split
  · exact hq
  · split
    · exact hp
    · exact hc
theorem evs_flat {P : List (List LOp)} : ∀ i, i ≤ P.length → evs 0 (P.take i) = (List.range i).flatMap fun (c : Nat) => (P.getD c []).map (mkEv (c : Int))
  | 0, _ => by simp [evs]
  | i + 1, h => by
    have ih := evs_flat (P := P) i (by omega)
    rw [evs_succ (by omega), ih, List.range_succ, List.flatMap_append]
    simp
theorem evs_flat' (P : List (List LOp)) : evs 0 P = (List.range P.length).flatMap fun (c : Nat) => (P.getD c []).map (mkEv (c : Int)) := by
  have := evs_flat (P := P) P.length (Nat.le_refl _)
  rwa [List.take_length] at this
theorem swP_len (P : List (List LOp)) (p q : Nat) : (swP P p q).length = P.length := by simp [swP]
theorem swP_get {P : List (List LOp)} {p q c : Nat} (hp : p < P.length) (hq : q < P.length) (hc : c < P.length) : (swP P p q).getD c [] = P.getD (swC (p : Int) (q : Int) (c : Int)).toNat [] := by
  unfold swP swC
  rw [getD_lt (by simpa using hc), List.getElem_set, List.getElem_set]
  by_cases h1 : c = p
  · rw [if_pos (show (c : Int) = (p : Int) by omega)]
    by_cases h2 : q = c
    · rw [if_pos h2]
      simp only [Int.toNat_natCast]
      rw [← h1, h2]
    · rw [if_neg h2, if_pos h1.symm]; rfl
  · rw [if_neg (show ¬ (c : Int) = (p : Int) by omega)]
    by_cases h2 : q = c
    · rw [if_pos h2, if_pos (show (c : Int) = (q : Int) by omega)]; rfl
    · rw [if_neg h2, if_neg (fun h => h1 h.symm), if_neg (show ¬ (c : Int) = (q : Int) by omega), Int.toNat_natCast, getD_lt hc]

theorem mem_selC {E : List LEv} {c : Int} {m : Nat} {v : Int} : v ∈ selC E c m ↔ ∃ j : Nat, j < m ∧ (ev E j).1 = c ∧ v = (j : Int) := by
  unfold selC
  rw [mem_sel]
  simp only [decide_eq_true_eq]
theorem selC_sorted (E : List LEv) (c : Int) (m : Nat) : (selC E c m).Pairwise (· < ·) := by
  unfold selC sel
  rw [List.pairwise_map]
  exact ((List.pairwise_lt_range (n := m)).filter _).imp (fun h => by omega)
theorem selC_succ (E : List LEv) (c : Int) (m : Nat) : selC E c (m + 1) = selC E c m ++ (if (ev E m).1 = c then [(m : Int)] else []) := by
  unfold selC
  rw [sel_succ]
  simp only [decide_eq_true_eq]

theorem visA_flat (P : List (List LOp)) (E : List LEv) (p q : Int) : visA P E p q = (List.range P.length).flatMap fun (c : Nat) => selC E (swC p q (c : Int)) E.length := by
  unfold visA visN selC sel
  simp
theorem sw_lt {P : List (List LOp)} {p q : Nat} (hp : p < P.length) (hq : q < P.length) {c : Nat} (h : c < P.length) : ∃ d : Nat, d < P.length ∧ swC (p : Int) (q : Int) (c : Int) = (d : Int) := by
  have := swC_range (p := (p : Int)) (q := (q : Int)) (c := (c : Int)) (n := P.length) ⟨by omega, by omega⟩ ⟨by omega, by omega⟩ ⟨by omega, by omega⟩
  exact ⟨(swC (p : Int) (q : Int) (c : Int)).toNat, by omega, by omega⟩
theorem visA_pair (P : List (List LOp)) (E : List LEv) (p q : Int) : (visA P E p q).Pairwise fun v w => v ≠ w ∧ ((ev E v).1 = (ev E w).1 → v < w) := by
  rw [visA_flat, List.pairwise_flatMap]
  refine ⟨fun c _ => (selC_sorted E _ _).imp (fun h => ⟨by omega, fun _ => h⟩), ?_⟩
  refine (List.pairwise_lt_range (n := P.length)).imp (fun {a b} hab v hv w hw => ?_)
  obtain ⟨i, hi, h1, rfl⟩ := mem_selC.1 hv
  obtain ⟨j, hj, h2, rfl⟩ := mem_selC.1 hw
  have hne : (ev E (i : Int)).1 ≠ (ev E (j : Int)).1 := by
    rw [h1, h2]
    intro e
    have := swC_inj e
    omega
  exact ⟨fun e => hne (by rw [e]), fun e => absurd e hne⟩
theorem visA_nodup (P : List (List LOp)) (E : List LEv) (p q : Int) : (visA P E p q).Nodup := (visA_pair _ _ _ _).imp fun h => h.1
section
variable {P : List (List LOp)} {E : List LEv} {p q : Nat} (hp : p < P.length) (hq : q < P.length) (hl : E.length = (evs 0 P).length) (hc : ∀ i : Nat, i < E.length → (ev E i).1 = (ev (evs 0 P) i).1 ∧ (ev E i).2.1 = (ev (evs 0 P) i).2.1)
include hl hc
theorem core_lt {i : Nat} (hi : i < E.length) : 0 ≤ (ev E i).1 ∧ (ev E i).1 < (P.length : Int) := by
  obtain ⟨c, h1, h2, h3⟩ := core_ex (p := P) (i := i) (by omega)
  rw [(hc i hi).1, ev_core h1 h2 h3]
  omega
theorem core_iff {i c : Nat} (hi : i < E.length) (hcl : c < P.length) : (ev E i).1 = (c : Int) ↔ st P c ≤ i ∧ i < st P (c + 1) := by
  obtain ⟨c', h1, h2, h3⟩ := core_ex (p := P) (i := i) (by omega)
  have e := ev_core h1 h2 h3
  rw [(hc i hi).1]
  constructor
  · intro h
    have : c' = c := by omega
    subst this
    exact ⟨h2, h3⟩
  · rintro ⟨h4, h5⟩
    exact ev_core hcl h4 h5
theorem selC_full {c : Nat} (hcl : c < P.length) : selC E (c : Int) E.length = (List.range (P.getD c []).length).map fun i => ((st P c + i : Nat) : Int) := by
  have h1 := st_succ hcl
  have h2 := st_mono (p := P) (show c + 1 ≤ P.length by omega)
  rw [st_all] at h2
  have e : E.length = st P c + ((P.getD c []).length + (E.length - st P (c + 1))) := by omega
  unfold selC sel
  have hfil : (List.range E.length).filter (fun (j : Nat) => decide ((ev E (j : Int)).1 = (c : Int))) = (List.range (P.getD c []).length).map fun i => st P c + i := by
    rw [show List.range E.length = List.range (st P c + ((P.getD c []).length + (E.length - st P (c + 1)))) from by rw [← e], List.range_add, List.filter_append, List.range_add, List.map_append, List.filter_append]
    have f1 : (List.range (st P c)).filter (fun (j : Nat) => decide ((ev E (j : Int)).1 = (c : Int))) = [] := by
      rw [List.filter_eq_nil_iff]
      intro j hj
      simp only [List.mem_range] at hj
      simp only [decide_eq_true_eq]
      rw [core_iff hl hc (by omega) hcl]; omega
    have f2 : ((List.range (P.getD c []).length).map (fun i => st P c + i)).filter (fun (j : Nat) => decide ((ev E (j : Int)).1 = (c : Int))) = (List.range (P.getD c []).length).map fun i => st P c + i := by
      rw [List.filter_eq_self]
      intro j hj
      simp only [List.mem_map, List.mem_range] at hj
      obtain ⟨i, hi, rfl⟩ := hj
      simp only [decide_eq_true_eq]
      rw [core_iff hl hc (by omega) hcl]; omega
    have f3 : (((List.range (E.length - st P (c + 1))).map (fun i => (P.getD c []).length + i)).map (fun i => st P c + i)).filter (fun (j : Nat) => decide ((ev E (j : Int)).1 = (c : Int))) = [] := by
      rw [List.filter_eq_nil_iff]
      intro j hj
      simp only [List.mem_map, List.mem_range] at hj
      obtain ⟨i, ⟨i', hi, rfl⟩, rfl⟩ := hj
      simp only [decide_eq_true_eq]
      rw [core_iff hl hc (by omega) hcl]; omega
    rw [f1, f2, f3, List.nil_append, List.append_nil]
  rw [hfil, List.map_map]
  rfl
include hp hq
theorem mem_visA {v : Int} : v ∈ visA P E p q ↔ 0 ≤ v ∧ v < (E.length : Int) := by
  rw [visA_flat, List.mem_flatMap]
  constructor
  · rintro ⟨c, _, h⟩
    obtain ⟨j, hj, _, rfl⟩ := mem_selC.1 h
    omega
  · rintro ⟨h0, h1⟩
    have hr := core_lt hl hc (i := v.toNat) (by omega)
    have hs := swC_range (p := (p : Int)) (q := (q : Int)) (c := (ev E (v.toNat : Int)).1) (n := P.length) ⟨by omega, by omega⟩ ⟨by omega, by omega⟩ hr
    refine ⟨(swC (p : Int) (q : Int) (ev E (v.toNat : Int)).1).toNat, List.mem_range.2 (by omega), mem_selC.2 ⟨v.toNat, by omega, ?_, by omega⟩⟩
    rw [Int.toNat_of_nonneg hs.1, swC_swC]
theorem visA_len : (visA P E p q).length = E.length := by
  have h1 := nodup_le (l := visA P E p q) (m := (List.range E.length).map fun (i : Nat) => (i : Int)) (visA_nodup _ _ _ _) (fun v hv => by
    have := (mem_visA hp hq hl hc).1 hv
    simp only [List.mem_map, List.mem_range]
    exact ⟨v.toNat, by omega, by omega⟩)
  have h2 := nodup_le (l := (List.range E.length).map fun (i : Nat) => (i : Int)) (m := visA P E p q) (by
    unfold List.Nodup
    rw [List.pairwise_map]
    exact (List.nodup_range (n := E.length)).imp (fun h e => h (by omega))) (fun v hv => by
    simp only [List.mem_map, List.mem_range] at hv
    obtain ⟨i, hi, rfl⟩ := hv
    exact (mem_visA hp hq hl hc).2 ⟨by omega, by omega⟩)
  simp at h1 h2
  omega
theorem swP_evs : evs 0 (swP P p q) = (visA P E p q).map fun v => (swC p q (ev E v).1, (ev E v).2.1, 0, ()) := by
  rw [evs_flat', visA_flat, List.map_flatMap, swP_len, List.flatMap_def, List.flatMap_def]
  congr 1
  refine List.map_congr_left fun c hcc => ?_
  have hcc : c < P.length := by simpa using hcc
  obtain ⟨d, hd, e⟩ := sw_lt hp hq hcc
  have h1 := st_succ hd
  have h2 := st_mono (p := P) (show d + 1 ≤ P.length by omega)
  rw [st_all] at h2
  rw [swP_get hp hq hcc, e, selC_full hl hc hd, List.map_map, Int.toNat_natCast]
  refine List.ext_getElem (by simp) fun i g1 g2 => ?_
  have hi : i < (P.getD d []).length := by simpa using g1
  simp only [List.getElem_map, List.getElem_range, Function.comp]
  have hic := hc (st P d + i) (by omega)
  have hcore : (ev E ((st P d + i : Nat) : Int)).1 = (d : Int) := (core_iff hl hc (by omega) hd).2 ⟨by omega, by omega⟩
  have hop : (ev (evs 0 P) ((st P d + i : Nat) : Int)).2.1 = (P.getD d [])[i] := by
    have e2 : evs 0 P = evs 0 (P.take (d + 1)) ++ evs (0 + ((P.take (d + 1)).length : Int)) (P.drop (d + 1)) := by rw [← evs_append, List.take_append_drop]
    unfold ev
    have hsl : (evs 0 (P.take d)).length = st P d := rfl
    have hsl2 : (evs 0 (P.take (d + 1))).length = st P (d + 1) := rfl
    rw [Int.toNat_natCast, e2, List.getD_eq_getElem?_getD, List.getElem?_append_left (by omega), evs_succ hd, List.getElem?_append_right (by omega), List.getElem?_map, hsl, show st P d + i - st P d = i from by omega, List.getElem?_eq_getElem hi]
    rfl
  rw [hic.2, hop, hcore]
  unfold mkEv
  rw [← e, swC_swC]
end
end Sp
namespace Sp
theorem ren_map {l to : List Int} (h : ∀ v ∈ l, 0 ≤ v ∧ 0 ≤ to.getD v.toNat 0) : ren l to = l.map fun v => to.getD v.toNat 0 := by
  unfold ren renN
  rw [List.take_length]
  induction l with
  | nil => rfl
  | cons v l ih =>
    have hv := h v (by simp)
    rw [List.filterMap_cons, ih (fun w hw => h w (by simp [hw])), if_neg (by omega), if_pos hv.2]
    rfl
theorem idx_get {l : List Int} (h : l.Nodup) {k : Nat} (hk : k < l.length) : idx l (l.getD k 0) = (k : Int) := by
  rw [getD_lt hk]
  unfold idx
  rw [if_pos (List.getElem_mem hk), List.Nodup.idxOf_getElem h]
theorem get_idx {l : List Int} {v : Int} (h : v ∈ l) : l.getD (idx l v).toNat 0 = v := by
  unfold idx
  rw [if_pos h, Int.toNat_natCast, getD_lt (List.idxOf_lt_length_iff.2 h), List.getElem_idxOf]
/-- The graph under the numbers of the exchanged cores. -/
def gswp (P : List (List LOp)) (g : Gr) (p q : Int) : Gr := (reE P g.1 p q, reF P g.1 g.2.1 p q g.1.length, hMN g.2.2.1 (reT P g.1 p q) 3, ren g.2.2.2.1 (reT P g.1 p q), ())
theorem list_shape {l : List Int} {E0 E1 : List LEv} {is : LOp → Bool} {V T : Nat → Nat} {n : Nat} (h0 : E0.length = n) (h1 : E1.length = n) (hV : ∀ k < n, V k < n ∧ T (V k) = k) (hT : ∀ e < n, T e < n ∧ V (T e) = e)
    (hop : ∀ k : Nat, k < n → is (ev E1 k).2.1 = is (ev E0 (V k)).2.1) (h : isList l E0 is = true) : isList (l.map fun v => ((T v.toNat : Nat) : Int)) E1 is = true := by
  unfold isList at h ⊢
  simp only [Bool.and_eq_true, decide_eq_true_eq] at h ⊢
  obtain ⟨⟨m1, m2⟩, m3⟩ := h
  refine ⟨⟨?_, fun w hw => ?_⟩, fun k hk hw => ?_⟩
  · unfold List.Nodup
    rw [List.pairwise_map]
    refine List.Pairwise.imp_of_mem ?_ m1
    intro a b ha hb hab e
    have ha' := m2 a ha
    have hb' := m2 b hb
    have e1 := (hT a.toNat (by omega)).2
    have e2 := (hT b.toNat (by omega)).2
    have : T a.toNat = T b.toNat := by omega
    rw [this, e2] at e1
    omega
  · obtain ⟨v, hv, rfl⟩ := List.mem_map.1 hw
    have hv' := m2 v hv
    have hTv := hT v.toNat (by omega)
    refine ⟨by omega, by omega, ?_⟩
    rw [hop _ hTv.1, hTv.2, Int.toNat_of_nonneg hv'.1]
    exact hv'.2.2
  · rw [h1] at hk
    rw [hop k hk] at hw
    have hVk := hV k hk
    exact List.mem_map.2 ⟨_, m3 (V k) (by omega) hw, by rw [Int.toNat_natCast, hVk.2]⟩

section
variable {P : List (List LOp)} {g : Gr} {p q : Nat}
theorem cores_iso (hp : p < P.length) (hq : q < P.length) (S : Shape (P, ()) g) :
    Iso (P, ()) (swP P p q, ()) g (gswp P g p q) (fun k => ((visA P g.1 p q).getD k 0).toNat) (fun e => (idx (visA P g.1 p q) (e : Int)).toNat) := by
  have hl : g.1.length = (evs 0 P).length := S.lenE
  have hF : g.2.1.length = (evs 0 P).length := S.lenF
  have hM : g.2.2.1.length = 3 := S.lenM
  have hu : (evs 0 P).length ≤ 6 ∧ ∀ x ∈ evs 0 P, usual x.2.1 = true := valid_ev S.valid
  have hc : ∀ i : Nat, i < g.1.length → (ev g.1 i).1 = (ev (evs 0 P) i).1 ∧ (ev g.1 i).2.1 = (ev (evs 0 P) i).2.1 := fun i hi => by
    have := S.src i (by show i < (evs 0 P).length; omega)
    exact ⟨this.1, this.2.1⟩
  have hvl := visA_len hp hq hl hc
  have hvn := visA_nodup P g.1 p q
  have hvp := visA_pair P g.1 p q
  have hvm := fun v => mem_visA (v := v) hp hq hl hc
  have hev := swP_evs hp hq hl hc
  have hVs : ∀ k : Nat, k < g.1.length → (visA P g.1 p q).getD k 0 = (((visA P g.1 p q).getD k 0).toNat : Int) ∧ ((visA P g.1 p q).getD k 0).toNat < g.1.length := by
    intro k hk
    have := (hvm ((visA P g.1 p q).getD k 0)).1 (by rw [getD_lt (by omega)]; exact List.getElem_mem _)
    exact ⟨by omega, by omega⟩
  have hev2 : ∀ k : Nat, k < g.1.length → ev (evs 0 (swP P p q)) (k : Int) = (swC p q (ev g.1 (((visA P g.1 p q).getD k 0).toNat : Int)).1, (ev g.1 (((visA P g.1 p q).getD k 0).toNat : Int)).2.1, 0, ()) := by
    intro k hk
    have hk' : k < (visA P g.1 p q).length := by omega
    unfold ev
    rw [hev, Int.toNat_natCast, getD_lt (by simpa using hk'), List.getElem_map, ← getD_lt (d := 0) hk', ← (hVs k hk).1]
    rfl
  have hlen2 : (evs 0 (swP P p q)).length = g.1.length := by rw [hev, List.length_map, hvl]
  have hE : ∀ k : Nat, k < g.1.length → ev (reE P g.1 p q) (k : Int) = (swC p q (ev g.1 (((visA P g.1 p q).getD k 0).toNat : Int)).1, (ev g.1 (((visA P g.1 p q).getD k 0).toNat : Int)).2.1, (ev g.1 (((visA P g.1 p q).getD k 0).toNat : Int)).2.2.1, ()) := by
    intro k hk
    have h1 : ev (reE P g.1 p q) (k : Int) = if k < (visA P g.1 p q).length then (swC p q (ev g.1 ((visA P g.1 p q).getD k 0)).1, (ev g.1 ((visA P g.1 p q).getD k 0)).2.1, (ev g.1 ((visA P g.1 p q).getD k 0)).2.2.1, ()) else ev0 := by
      unfold reE heV
      show ((List.range g.1.length).map _).getD (Int.toNat (k : Int)) ev0 = _
      rw [Int.toNat_natCast, getD_lt (by simpa using hk)]
      simp
    rw [h1, if_pos (by omega), ← (hVs k hk).1]
  have hElen : (reE P g.1 p q).length = g.1.length := by simp [reE, heV]
  have hT : ∀ v : Int, 0 ≤ v → v < (g.1.length : Int) → (reT P g.1 p q).getD v.toNat 0 = idx (visA P g.1 p q) v ∧ 0 ≤ idx (visA P g.1 p q) v ∧ idx (visA P g.1 p q) v < (g.1.length : Int) := by
    intro v h0 h1
    have hm := (hvm v).2 ⟨h0, h1⟩
    have hi := idx_mem hm
    unfold reT toV
    rw [getD_lt (by simp; omega)]
    simp only [List.getElem_map, List.getElem_range, Int.toNat_of_nonneg h0]
    rw [if_pos hm]
    exact ⟨rfl, hi.1, by omega⟩
  have hVl : ∀ k < g.1.length, ((visA P g.1 p q).getD k 0).toNat < g.1.length ∧ (idx (visA P g.1 p q) ((((visA P g.1 p q).getD k 0).toNat : Nat) : Int)).toNat = k := by
    intro k hk
    refine ⟨(hVs k hk).2, ?_⟩
    rw [← (hVs k hk).1, idx_get hvn (by omega), Int.toNat_natCast]
  have hTl : ∀ e < g.1.length, (idx (visA P g.1 p q) (e : Int)).toNat < g.1.length ∧ ((visA P g.1 p q).getD (idx (visA P g.1 p q) (e : Int)).toNat 0).toNat = e := by
    intro e he
    have := hT e (by omega) (by omega)
    refine ⟨by omega, ?_⟩
    rw [get_idx ((hvm _).2 ⟨by omega, by omega⟩), Int.toNat_natCast]
  have hFr : ∀ k < g.1.length, (reF P g.1 g.2.1 p q g.1.length).getD k 0 = if g.2.1.getD ((visA P g.1 p q).getD k 0).toNat 0 < 0 then -1 else (((idx (visA P g.1 p q) ((g.2.1.getD ((visA P g.1 p q).getD k 0).toNat 0).toNat : Int)).toNat : Nat) : Int) := by
    intro k hk
    have hv := hVs k hk
    unfold reF
    rw [getD_lt (by simpa using hk)]
    simp only [List.getElem_map, List.getElem_range]
    rw [if_pos (by omega)]
    unfold frv
    by_cases hn : g.2.1.getD ((visA P g.1 p q).getD k 0).toNat 0 < 0
    · rw [if_pos hn, if_pos hn]
    · rw [if_neg hn, if_neg hn]
      obtain ⟨_, _, _, h4, _⟩ := S.src ((visA P g.1 p q).getD k 0).toNat (by show _ < (evs 0 P).length; omega)
      have h4 : g.2.1.getD ((visA P g.1 p q).getD k 0).toNat 0 < ((evs 0 P).length : Int) := h4
      have := hT (g.2.1.getD ((visA P g.1 p q).getD k 0).toNat 0) (by omega) (by omega)
      have e0 : (((g.2.1.getD ((visA P g.1 p q).getD k 0).toNat 0).toNat : Nat) : Int) = g.2.1.getD ((visA P g.1 p q).getD k 0).toNat 0 := Int.toNat_of_nonneg (by omega)
      rw [this.1, e0, Int.toNat_of_nonneg this.2.1]
  have hML : ∀ x < 3, ∀ v ∈ g.2.2.1.getD x [], 0 ≤ v ∧ v < (g.1.length : Int) := by
    intro x hx v hv
    have h1 := isList_in (S.mo x hx) hv
    have h2 : v < ((evs 0 P).length : Int) := h1.2.1
    exact ⟨h1.1, by omega⟩
  have hOL : ∀ v ∈ g.2.2.2.1, 0 ≤ v ∧ v < (g.1.length : Int) := by
    intro v hv
    have h1 := isList_in S.fo hv
    have h2 : v < ((evs 0 P).length : Int) := h1.2.1
    exact ⟨h1.1, by omega⟩
  have hren : ∀ l : List Int, (∀ v ∈ l, 0 ≤ v ∧ v < (g.1.length : Int)) → ren l (reT P g.1 p q) = l.map fun v => (((idx (visA P g.1 p q) (v.toNat : Int)).toNat : Nat) : Int) := by
    intro l hl'
    rw [ren_map (fun v hv => ⟨(hl' v hv).1, by have := hT v (hl' v hv).1 (hl' v hv).2; omega⟩)]
    refine List.map_congr_left fun v hv => ?_
    have h1 := hl' v hv
    have h2 := hT v h1.1 h1.2
    rw [h2.1, Int.toNat_of_nonneg h1.1, Int.toNat_of_nonneg h2.2.1]
  have hMr : ∀ x < 3, (gswp P g p q).2.2.1.getD x [] = (g.2.2.1.getD x []).map fun v => (((idx (visA P g.1 p q) (v.toNat : Int)).toNat : Nat) : Int) := by
    intro x hx
    show (hMN g.2.2.1 (reT P g.1 p q) 3).getD x [] = _
    unfold hMN
    rw [getD_lt (by simpa using hx)]
    simp only [List.getElem_map, List.getElem_range]
    exact hren _ (hML x hx)
  have hOr : (gswp P g p q).2.2.2.1 = g.2.2.2.1.map fun v => (((idx (visA P g.1 p q) (v.toNat : Int)).toNat : Nat) : Int) := hren _ hOL
  have hop : ∀ k : Nat, k < g.1.length → (ev (evs 0 (swP P p q)) k).2.1 = (ev (evs 0 P) (((visA P g.1 p q).getD k 0).toNat : Int)).2.1 := by
    intro k hk
    rw [hev2 k hk, (hc _ (hVs k hk).2).2]
  have hsh : Shape (swP P p q, ()) (gswp P g p q) := by
    refine shape_mk ?_ (by rw [hElen]; exact hlen2.symm) ?_ (by simp [hMN]) (fun n hn => ?_) (fun n hn => ?_) (fun x hx => ?_) ?_
    · have hv := S.valid
      unfold valid at hv ⊢
      simp only [Bool.and_eq_true, decide_eq_true_eq, List.all_eq_true] at hv ⊢
      rw [swP_len, hlen2, hl]
      refine ⟨⟨⟨hv.1.1.1, hv.1.1.2⟩, hv.1.2⟩, fun x hx => ?_⟩
      rw [hev, List.mem_map] at hx
      obtain ⟨v, hv', rfl⟩ := hx
      have h3 := (hvm v).1 hv'
      have h4 := (hc v.toNat (by omega)).2
      rw [Int.toNat_of_nonneg h3.1] at h4
      show usual (ev g.1 v).2.1 = true
      rw [h4]
      have := hv.2 _ (ev_mem (n := v.toNat) (by show _ < (evs 0 P).length; omega))
      rwa [Int.toNat_of_nonneg h3.1] at this
    · show (reF P g.1 g.2.1 p q g.1.length).length = _
      rw [hlen2]; simp [reF]
    · have hn : n < g.1.length := by rw [← hlen2]; exact hn
      rw [hE n hn, hev2 n hn]; exact ⟨rfl, rfl⟩
    · have hn : n < g.1.length := by rw [← hlen2]; exact hn
      have hv := hVs n hn
      rw [hFr n hn, hop n hn, hlen2]
      obtain ⟨_, _, h3, h4, h5⟩ := S.src ((visA P g.1 p q).getD n 0).toNat (by show _ < (evs 0 P).length; omega)
      by_cases hneg : g.2.1.getD ((visA P g.1 p q).getD n 0).toNat 0 < 0
      · rw [if_pos hneg]; exact ⟨by omega, by omega, fun h => by omega⟩
      · rw [if_neg hneg]
        have h4 : g.2.1.getD ((visA P g.1 p q).getD n 0).toNat 0 < ((evs 0 P).length : Int) := h4
        have hTT := hTl (g.2.1.getD ((visA P g.1 p q).getD n 0).toNat 0).toNat (by omega)
        obtain ⟨r1, r2, r3⟩ := h5 (by omega)
        refine ⟨by omega, by omega, fun _ => ⟨r1, ?_⟩⟩
        rw [hop _ hTT.1, hTT.2, Int.toNat_of_nonneg (by omega)]
        exact ⟨r2, r3⟩
    · show isList ((gswp P g p q).2.2.1.getD x []) _ _ = true
      rw [hMr x hx]
      exact list_shape hl.symm hlen2 hVl hTl (fun k hk => by rw [hop k hk]) (S.mo x hx)
    · show isList (gswp P g p q).2.2.2.1 _ _ = true
      rw [hOr]
      exact list_shape hl.symm hlen2 hVl hTl (fun k hk => by rw [hop k hk]) S.fo
  refine ⟨S, hsh, hElen, hVl, hTl, fun k hk => ?_, fun a b ha hb => ?_, hOr, hFr, fun k hk h4 => ?_, fun a ha b hb _ _ => ?_⟩
  · show (ev (reE P g.1 p q) k).2.1.1 = _ ∧ (ev (reE P g.1 p q) k).2.1.2.2.1 = _ ∧ (ev (reE P g.1 p q) k).2.2.1 = _
    rw [hE k hk]; exact ⟨rfl, rfl, rfl⟩
  · show (a < b ∧ (ev (reE P g.1 p q) a).1 = (ev (reE P g.1 p q) b).1 ↔ _)
    rw [hE a ha, hE b hb]
    have hpa := hVs a ha
    have hpb := hVs b hb
    have hpw : ∀ i j : Nat, i < g.1.length → j < g.1.length → i < j → (ev g.1 (((visA P g.1 p q).getD i 0).toNat : Int)).1 = (ev g.1 (((visA P g.1 p q).getD j 0).toNat : Int)).1 → ((visA P g.1 p q).getD i 0).toNat < ((visA P g.1 p q).getD j 0).toNat := by
      intro i j hi hj hij hcc
      have := List.pairwise_iff_getElem.1 hvp i j (by omega) (by omega) hij
      rw [← getD_lt (d := 0), ← getD_lt (d := 0)] at this
      have h1 := hVs i hi
      have h2 := hVs j hj
      rw [← h1.1, ← h2.1] at hcc
      have := this.2 hcc
      omega
    constructor
    · rintro ⟨h1, h2⟩
      have h2 := swC_inj h2
      exact ⟨hpw a b ha hb h1 h2, h2⟩
    · rintro ⟨h1, h2⟩
      refine ⟨?_, by rw [h2]⟩
      rcases Nat.lt_trichotomy a b with h3 | h3 | h3
      · exact h3
      · subst h3; omega
      · have := hpw b a hb ha h3 h2.symm
        omega
  · have hv := hVs k hk
    have hu' := usual_X (hu.2 _ (ev_mem (n := ((visA P g.1 p q).getD k 0).toNat) (by omega)))
    rw [← (hc _ hv.2).2] at hu'
    have hEk : (ev (gswp P g p q).1 (k : Int)).2.1 = (ev g.1 (((visA P g.1 p q).getD k 0).toNat : Int)).2.1 := by
      show (ev (reE P g.1 p q) k).2.1 = _
      rw [hE k hk]
    unfold plc
    rw [hEk, hMr _ (by omega)]
    have hmem := hML (ev g.1 (((visA P g.1 p q).getD k 0).toNat : Int)).2.1.2.1.toNat (by omega)
    generalize g.2.2.1.getD (ev g.1 (((visA P g.1 p q).getD k 0).toNat : Int)).2.1.2.1.toNat [] = l at *
    have hinj : ∀ v w : Int, 0 ≤ v → v < (g.1.length : Int) → 0 ≤ w → w < (g.1.length : Int) → (((idx (visA P g.1 p q) (v.toNat : Int)).toNat : Nat) : Int) = (((idx (visA P g.1 p q) (w.toNat : Int)).toNat : Nat) : Int) → v = w := by
      intro v w h1 h2 h3 h4 e
      have e1 := (hTl v.toNat (by omega)).2
      have e2 := (hTl w.toNat (by omega)).2
      have : (idx (visA P g.1 p q) (v.toNat : Int)).toNat = (idx (visA P g.1 p q) (w.toNat : Int)).toNat := by omega
      rw [this, e2] at e1
      omega
    have e1 : idx (l.map fun v => (((idx (visA P g.1 p q) (v.toNat : Int)).toNat : Nat) : Int)) (k : Int) = idx l ((((visA P g.1 p q).getD k 0).toNat : Nat) : Int) := by
      have := idx_map (l := l) (τ := fun v => (((idx (visA P g.1 p q) (v.toNat : Int)).toNat : Nat) : Int)) (v := ((((visA P g.1 p q).getD k 0).toNat : Nat) : Int)) (fun w hw e => hinj _ _ (hmem w hw).1 (hmem w hw).2 (by omega) (by omega) e)
      simp only [Int.toNat_natCast] at this
      rw [(hVl k hk).2] at this
      exact this
    rw [e1]
    congr 1
    congr 1
    show idx _ ((reF P g.1 g.2.1 p q g.1.length).getD (Int.toNat (k : Int)) 0) = _
    rw [Int.toNat_natCast, Int.toNat_natCast, hFr k hk]
    obtain ⟨_, _, h3, h4', h5⟩ := S.src ((visA P g.1 p q).getD k 0).toNat (by show _ < (evs 0 P).length; omega)
    have h4' : g.2.1.getD ((visA P g.1 p q).getD k 0).toNat 0 < ((evs 0 P).length : Int) := h4'
    by_cases hneg : g.2.1.getD ((visA P g.1 p q).getD k 0).toNat 0 < 0
    · rw [if_pos hneg, ← idx_none (fun hm => ?_), ← idx_none (fun hm => ?_)]
      · have := (hmem _ hm).1; omega
      · obtain ⟨w, hw, e⟩ := List.mem_map.1 hm
        omega
    · rw [if_neg hneg]
      exact idx_map (l := l) (τ := fun v => (((idx (visA P g.1 p q) (v.toNat : Int)).toNat : Nat) : Int)) (v := g.2.1.getD ((visA P g.1 p q).getD k 0).toNat 0) (fun w hw e => hinj _ _ (hmem w hw).1 (hmem w hw).2 (by omega) (by omega) e)
  · show (ev (reE P g.1 p q) a).2.1.2.1 = (ev (reE P g.1 p q) b).2.1.2.1 ↔ _
    rw [hE a ha, hE b hb]
end

/-- The exchange of two places. -/
structure Pl (pl : List Int) : Prop where
  len : pl.length = 3
  rng : ∀ x < 3, 0 ≤ pl.getD x 0 ∧ pl.getD x 0 < 3 ∧ pl.getD (pl.getD x 0).toNat 0 = (x : Int)
theorem plA_pl {n0 n1 : Int} (h0 : 0 ≤ n0) (h1 : 0 ≤ n1) : Pl (plA n0 n1) := by
  have a0 : n0 % 3 = 0 ∨ n0 % 3 = 1 ∨ n0 % 3 = 2 := by omega
  have a1 : n1 % 3 = 0 ∨ n1 % 3 = 1 ∨ n1 % 3 = 2 := by omega
  unfold plA
  rcases a0 with h | h | h <;> rcases a1 with h' | h' | h' <;> rw [h, h'] <;> refine ⟨by decide, fun x hx => ?_⟩ <;> (match x, hx with
    | 0, _ => decide
    | 1, _ => decide
    | 2, _ => decide)
section
variable {pl : List Int} (hpl : Pl pl)
theorem mvO_kind (o : LOp) : (mvO pl o).1 = o.1 ∧ (mvO pl o).2.2.1 = o.2.2.1 := by
  unfold mvO; split <;> exact ⟨rfl, rfl⟩
theorem mvO_wr (o : LOp) : writes (mvO pl o) = writes o ∧ reads (mvO pl o) = reads o := by
  unfold writes reads; rw [(mvO_kind o).1]; exact ⟨rfl, rfl⟩
theorem mvO_X {o : LOp} (h : o.1 ≠ 4) : (mvO pl o).2.1 = pl.getD o.2.1.toNat 0 := by unfold mvO; rw [if_neg h]
include hpl
theorem Pl.inj {x y : Int} (hx : 0 ≤ x ∧ x < 3) (hy : 0 ≤ y ∧ y < 3) (h : pl.getD x.toNat 0 = pl.getD y.toNat 0) : x = y := by
  have h1 := (hpl.rng x.toNat (by omega)).2.2
  have h2 := (hpl.rng y.toNat (by omega)).2.2
  rw [h, h2] at h1
  omega
theorem mvO_usual {o : LOp} (h : usual o = true) : usual (mvO pl o) = true := by
  by_cases h4 : o.1 = 4
  · unfold mvO; rw [if_pos h4]; exact h
  · have hX := usual_X h
    have hr := hpl.rng o.2.1.toNat (by omega)
    have hk := mvO_kind (pl := pl) o
    have hXX := mvO_X (pl := pl) h4
    unfold usual at h ⊢
    rw [hk.1, hk.2, hXX]
    rw [if_neg h4] at h ⊢
    split at h
    · rename_i h1
      rw [if_pos h1]
      simp only [Bool.and_eq_true, decide_eq_true_eq] at h ⊢
      omega
    · rename_i h1
      rw [if_neg h1]
      split at h
      · rename_i h2
        rw [if_pos h2]
        simp only [Bool.and_eq_true, decide_eq_true_eq] at h ⊢
        omega
      · cases h
end
theorem evs_mvP (pl : List Int) : ∀ (P : List (List LOp)) (c : Int), evs c (mvP P pl) = (evs c P).map (mvE1 pl)
  | [], c => rfl
  | l :: P, c => by
    have ih := evs_mvP pl P (c + 1)
    unfold mvP at *
    simp only [List.map_cons, evs, List.map_append, List.map_map, ih]
    rfl
theorem ev_map {E : List LEv} (pl : List Int) {k : Nat} (h : k < E.length) : ev (E.map (mvE1 pl)) (k : Int) = mvE1 pl (ev E (k : Int)) := by
  unfold ev
  rw [Int.toNat_natCast, getD_lt (by simpa using h), getD_lt h]
  simp
/-- The graph with exchanged places. -/
def gpl (g : Gr) (pl : List Int) : Gr := (g.1.map (mvE1 pl), g.2.1, mvM g.2.2.1 pl 3, g.2.2.2.1, ())
theorem mvM_succ (M : List (List Int)) (pl : List Int) (i : Nat) : mvM M pl (i + 1) = (mvM M pl i).set (pl.getD i 0).toNat (M.getD i []) := Go.User.fold_succ (fun (m : List (List Int)) (x : Nat) => m.set (pl.getD x 0).toNat (M.getD x [])) _ _
theorem mvM_len (M : List (List Int)) (pl : List Int) : ∀ i, (mvM M pl i).length = M.length
  | 0 => rfl
  | i + 1 => by rw [mvM_succ, List.length_set]; exact mvM_len M pl i
theorem mvM_get {M : List (List Int)} {pl : List Int} (hpl : Pl pl) (hM : M.length = 3) : ∀ i, i ≤ 3 → ∀ x < i, (mvM M pl i).getD (pl.getD x 0).toNat [] = M.getD x []
  | 0, _, x, h => by omega
  | i + 1, hi, x, h => by
    have hx := hpl.rng x (by omega)
    have hi' := hpl.rng i (by omega)
    have hl := mvM_len M pl i
    rw [mvM_succ, getD_lt (by rw [List.length_set]; omega), List.getElem_set]
    by_cases e : (pl.getD i 0).toNat = (pl.getD x 0).toNat
    · rw [if_pos e]
      have : (i : Int) = (x : Int) := by rw [← hi'.2.2, ← hx.2.2, e]
      have : i = x := by omega
      rw [this]
    · rw [if_neg e, ← getD_lt (d := [])]
      exact mvM_get hpl hM i (by omega) x (by
        rcases Nat.lt_or_ge x i with h' | h'
        · exact h'
        · exact absurd (by rw [show i = x from by omega]) e)
theorem places_iso {P : List (List LOp)} {g : Gr} {pl : List Int} (hpl : Pl pl) (S : Shape (P, ()) g) : Iso (P, ()) (mvP P pl, ()) g (gpl g pl) id id := by
  have hl : g.1.length = (evs 0 P).length := S.lenE
  have hF : g.2.1.length = (evs 0 P).length := S.lenF
  have hM : g.2.2.1.length = 3 := S.lenM
  have hu : (evs 0 P).length ≤ 6 ∧ ∀ x ∈ evs 0 P, usual x.2.1 = true := valid_ev S.valid
  have hc : ∀ i : Nat, i < g.1.length → (ev g.1 i).1 = (ev (evs 0 P) i).1 ∧ (ev g.1 i).2.1 = (ev (evs 0 P) i).2.1 := fun i hi => by
    have := S.src i (by show i < (evs 0 P).length; omega)
    exact ⟨this.1, this.2.1⟩
  have hev := evs_mvP pl P 0
  have hlen2 : (evs 0 (mvP P pl)).length = g.1.length := by rw [hev, List.length_map, hl]
  have hE : ∀ k : Nat, k < g.1.length → ev (gpl g pl).1 (k : Int) = mvE1 pl (ev g.1 (k : Int)) := fun k hk => ev_map pl hk
  have hE0 : ∀ k : Nat, k < g.1.length → ev (evs 0 (mvP P pl)) (k : Int) = mvE1 pl (ev (evs 0 P) (k : Int)) := fun k hk => by rw [hev]; exact ev_map pl (by omega)
  have hX : ∀ k : Nat, k < g.1.length → 0 ≤ (ev g.1 (k : Int)).2.1.2.1 ∧ (ev g.1 (k : Int)).2.1.2.1 < 3 := fun k hk => by
    have := usual_X (hu.2 _ (ev_mem (n := k) (by omega)))
    rw [(hc k hk).2]; exact this
  have hMg : ∀ x : Int, 0 ≤ x → x < 3 → (mvM g.2.2.1 pl 3).getD (pl.getD x.toNat 0).toNat [] = g.2.2.1.getD x.toNat [] := fun x h0 h1 => mvM_get hpl hM 3 (Nat.le_refl _) x.toNat (by omega)
  have hOL : ∀ v ∈ g.2.2.2.1, 0 ≤ v := fun v hv => (isList_in S.fo hv).1
  have hid : ∀ v : Int, 0 ≤ v → v < (g.1.length : Int) → ev (evs 0 (mvP P pl)) v = mvE1 pl (ev (evs 0 P) v) := by
    intro v h0 h1
    have := hE0 v.toNat (by omega)
    rwa [Int.toNat_of_nonneg h0] at this
  have hsh : Shape (mvP P pl, ()) (gpl g pl) := by
    refine shape_mk ?_ (by rw [List.length_map]; exact hlen2.symm) (by rw [hF, ← hl]; exact hlen2.symm) (by rw [mvM_len]; exact hM) (fun n hn => ?_) (fun n hn => ?_) (fun x hx => ?_) ?_
    · have hv := S.valid
      unfold valid at hv ⊢
      simp only [Bool.and_eq_true, decide_eq_true_eq, List.all_eq_true] at hv ⊢
      have hl' : (mvP P pl).length = P.length := by simp [mvP]
      rw [hl', hlen2, hl]
      refine ⟨⟨⟨hv.1.1.1, hv.1.1.2⟩, hv.1.2⟩, fun x hx => ?_⟩
      rw [hev, List.mem_map] at hx
      obtain ⟨y, hy, rfl⟩ := hx
      exact mvO_usual hpl (hv.2 y hy)
    · have hn : n < g.1.length := by rw [← hlen2]; exact hn
      rw [ev_map pl hn, hE0 n hn]
      unfold mvE1
      rw [(hc n hn).1, (hc n hn).2]
      exact ⟨rfl, rfl⟩
    · have hn : n < g.1.length := by rw [← hlen2]; exact hn
      obtain ⟨_, _, h3, h4, h5⟩ := S.src n (by show _ < (evs 0 P).length; omega)
      have h4 : g.2.1.getD n 0 < ((evs 0 P).length : Int) := h4
      rw [hlen2]
      refine ⟨h3, by omega, fun h0 => ?_⟩
      obtain ⟨r1, r2, r3⟩ := h5 h0
      rw [hid _ h0 (by omega), hE0 n hn]
      have r1 : reads (ev (evs 0 P) (n : Int)).2.1 = true := r1
      have r2 : writes (ev (evs 0 P) (g.2.1.getD n 0)).2.1 = true := r2
      refine ⟨by rw [← r1]; exact (mvO_wr _).2, by rw [← r2]; exact (mvO_wr _).1, ?_⟩
      show (mvO pl _).2.1 = (mvO pl _).2.1
      rw [mvO_X (writes4 r2), mvO_X (reads4 r1), r3]
    · have hxr := hpl.rng x hx
      have hm := S.mo (pl.getD x 0).toNat (by omega)
      have hmg := hMg (pl.getD x 0) hxr.1 hxr.2.1
      rw [hxr.2.2, Int.toNat_natCast] at hmg
      rw [hmg]
      unfold isList at hm ⊢
      simp only [Bool.and_eq_true, decide_eq_true_eq] at hm ⊢
      obtain ⟨⟨m1, m2⟩, m3⟩ := hm
      have hiff : ∀ o : LOp, usual o = true → ((writes (mvO pl o) = true ∧ (mvO pl o).2.1 = (x : Int)) ↔ (writes o = true ∧ o.2.1 = (((pl.getD x 0).toNat : Nat) : Int))) := by
        intro o ho
        have hoX := usual_X ho
        rw [(mvO_wr o).1]
        refine and_congr_right fun hw => ?_
        rw [mvO_X (writes4 hw)]
        constructor
        · intro h
          have := (hpl.rng o.2.1.toNat (by omega)).2.2
          rw [h, Int.toNat_natCast] at this
          omega
        · intro h
          rw [h, Int.toNat_natCast]; exact hxr.2.2
      refine ⟨⟨m1, fun n hn => ?_⟩, fun n hn hw => ?_⟩
      · obtain ⟨g1, g2, g3⟩ := m2 n hn
        have g2 : n < ((evs 0 P).length : Int) := g2
        have g3 : writes (ev (evs 0 P) n).2.1 = true ∧ (ev (evs 0 P) n).2.1.2.1 = (((pl.getD x 0).toNat : Nat) : Int) := g3
        rw [hlen2, hid n g1 (by omega)]
        refine ⟨g1, by omega, ?_⟩
        refine (hiff _ ?_).2 g3
        have := hu.2 _ (ev_mem (n := n.toNat) (by omega))
        rwa [Int.toNat_of_nonneg g1] at this
      · rw [hlen2] at hn
        rw [hE0 n hn] at hw
        exact m3 n (by show _ < (evs 0 P).length; omega) ((hiff _ (hu.2 _ (ev_mem (by omega)))).1 hw)
    · have hm := S.fo
      unfold isList at hm ⊢
      simp only [Bool.and_eq_true, decide_eq_true_eq] at hm ⊢
      obtain ⟨⟨m1, m2⟩, m3⟩ := hm
      refine ⟨⟨m1, fun n hn => ?_⟩, fun n hn hw => ?_⟩
      · obtain ⟨g1, g2, g3⟩ := m2 n hn
        have g2 : n < ((evs 0 P).length : Int) := g2
        rw [hlen2, hid n g1 (by omega)]
        exact ⟨g1, by omega, by rw [← g3]; exact (mvO_kind _).1⟩
      · rw [hlen2] at hn
        rw [hE0 n hn] at hw
        exact m3 n (by show _ < (evs 0 P).length; omega) (by rw [← hw]; exact (mvO_kind (pl := pl) _).1.symm)
  refine ⟨S, hsh, by show (g.1.map (mvE1 pl)).length = _; simp, fun k hk => ⟨hk, rfl⟩, fun e he => ⟨he, rfl⟩, fun k hk => ?_, fun a b ha hb => ?_, ?_, fun k hk => ?_, fun k hk h4 => ?_, fun a ha b hb h4 h5 => ?_⟩
  · rw [hE k hk]
    exact ⟨(mvO_kind _).1, (mvO_kind _).2, rfl⟩
  · rw [hE a ha, hE b hb]; exact Iff.rfl
  · show g.2.2.2.1 = _
    conv => lhs; rw [← List.map_id g.2.2.2.1]
    refine List.map_congr_left fun v hv => ?_
    have := hOL v hv
    simp only [id]; omega
  · show g.2.1.getD k 0 = _
    obtain ⟨_, _, h3, _⟩ := S.src k (by show _ < (evs 0 P).length; omega)
    split
    · rename_i h; simp only [id] at h; omega
    · rename_i h; simp only [id] at h ⊢; omega
  · have h4 : (ev g.1 (k : Int)).2.1.1 ≠ 4 := h4
    have hx := hX k hk
    have hop : (ev (gpl g pl).1 (k : Int)).2.1 = mvO pl (ev g.1 (k : Int)).2.1 := by rw [hE k hk]; rfl
    unfold plc
    rw [hop, mvO_X h4]
    show (idx ((mvM g.2.2.1 pl 3).getD _ []) _, idx ((mvM g.2.2.1 pl 3).getD _ []) (g.2.1.getD _ 0), ()) = _
    rw [hMg _ hx.1 hx.2]
    rfl
  · have h4 : (ev g.1 (a : Int)).2.1.1 ≠ 4 := h4
    have h5 : (ev g.1 (b : Int)).2.1.1 ≠ 4 := h5
    rw [hE a ha, hE b hb]
    show (mvO pl (ev g.1 (a : Int)).2.1).2.1 = (mvO pl (ev g.1 (b : Int)).2.1).2.1 ↔ (ev g.1 (a : Int)).2.1.2.1 = (ev g.1 (b : Int)).2.1.2.1
    rw [mvO_X h4, mvO_X h5]
    exact ⟨fun h => hpl.inj (hX a ha) (hX b hb) h, fun h => by rw [h]⟩
end Sp
namespace Sp
theorem vis_succ (E : List LEv) (p q : Int) (i e : Nat) : visN E p q i (e + 1) = visN E p q i e ++ (if (ev E e).1 = swC p q (i : Int) then [(e : Int)] else []) := by
  unfold visN
  rw [selC_succ, List.append_assoc]
theorem vis_row (E : List LEv) (p q : Int) (i : Nat) : visN E p q i E.length = visN E p q (i + 1) 0 := by
  unfold visN
  rw [List.range_succ, List.flatMap_append]
  simp [selC, sel]
theorem sel_prefix (P : Nat → Bool) {e n : Nat} (h : e ≤ n) : ∃ t, sel P n = sel P e ++ t := by
  unfold sel
  have : n = e + (n - e) := by omega
  rw [this, List.range_add, List.filter_append, List.map_append]
  exact ⟨_, rfl⟩
theorem vis_prefix {P : List (List LOp)} {E : List LEv} {p q : Int} {i e : Nat} (hi : i < P.length) (he : e ≤ E.length) : ∃ t, visA P E p q = visN E p q i e ++ t := by
  obtain ⟨t, ht⟩ := sel_prefix (fun j => decide ((ev E (j : Int)).1 = swC p q (i : Int))) he
  have e1 : visA P E p q = (List.range P.length).flatMap fun (c : Nat) => selC E (swC p q (c : Int)) E.length := by
    unfold visA visN selC sel
    simp
  have e2 : List.range P.length = List.range i ++ (i :: (List.range (P.length - i - 1)).map fun x => i + 1 + x) := by
    have h1 : P.length = i + (1 + (P.length - i - 1)) := by omega
    conv => lhs; rw [h1]
    rw [List.range_add, List.range_add, List.map_append, List.map_map]
    congr 1
    simp only [List.range_one, List.map_cons, List.map_nil, Nat.add_zero, List.singleton_append]
    congr 1
    refine List.map_congr_left fun x _ => ?_
    simp only [Function.comp]; omega
  rw [e1, e2, List.flatMap_append, List.flatMap_cons]
  unfold visN
  have e3 : selC E (swC p q (i : Int)) E.length = selC E (swC p q (i : Int)) e ++ t := ht
  rw [e3]
  exact ⟨t ++ ((List.range (P.length - i - 1)).map fun x => i + 1 + x).flatMap fun (c : Nat) => selC E (swC p q (c : Int)) E.length, by simp only [List.append_assoc]⟩
theorem toV_at {vis : List Int} {n j : Nat} (h : j < (toV vis n).length) : (toV vis n)[j] = if (j : Int) ∈ vis then idx vis j else 0 := by simp [toV]
theorem heV_at {E : List LEv} {p q : Int} {vis : List Int} {k : Nat} (h : k < (heV E p q vis).length) : (heV E p q vis)[k] = if k < vis.length then (swC p q (ev E (vis.getD k 0)).1, (ev E (vis.getD k 0)).2.1, (ev E (vis.getD k 0)).2.2.1, ()) else ev0 := by simp [heV]
theorem reF_at {P : List (List LOp)} {E : List LEv} {F : List Int} {p q : Int} {m j : Nat} (h : j < (reF P E F p q m).length) : (reF P E F p q m)[j] = if (visA P E p q).getD j 0 < (m : Int) then frv F (reT P E p q) ((visA P E p q).getD j 0) else 0 := by simp [reF]
theorem toV_snoc {vis : List Int} {n e : Nat} (he : e < n) (hm : (e : Int) ∉ vis) : (toV vis n).set e (vis.length : Int) = toV (vis ++ [(e : Int)]) n := by
  refine List.ext_getElem (by simp [toV]) fun j h1 h2 => ?_
  rw [List.getElem_set, toV_at, toV_at]
  by_cases h : e = j
  · subst h
    rw [if_pos rfl, if_pos (by simp)]
    unfold idx
    rw [if_pos (by simp), List.idxOf_append, if_neg hm]
    simp
  · rw [if_neg h]
    by_cases h3 : (j : Int) ∈ vis
    · rw [if_pos h3, if_pos (by simp [h3])]
      unfold idx
      rw [if_pos h3, if_pos (by simp [h3]), List.idxOf_append, if_pos h3]
    · rw [if_neg h3, if_neg (by simp [h3]; omega)]
theorem heV_len (E : List LEv) (p q : Int) (vis : List Int) : (heV E p q vis).length = E.length := by simp [heV]
theorem heV_snoc {E : List LEv} {p q : Int} {vis : List Int} {e : Nat} {v : LEv} (hv : v = (swC p q (ev E (e : Int)).1, (ev E (e : Int)).2)) (hl : vis.length < E.length) : (heV E p q vis).set vis.length v = heV E p q (vis ++ [(e : Int)]) := by
  subst hv
  refine List.ext_getElem (by simp [heV]) fun j h1 h2 => ?_
  rw [List.getElem_set, heV_at, heV_at, List.length_append, List.length_singleton]
  by_cases h : vis.length = j
  · subst h
    rw [if_pos rfl, if_pos (by omega)]
    have : (vis ++ [(e : Int)]).getD vis.length 0 = (e : Int) := by rw [List.getD_eq_getElem?_getD]; simp
    rw [this]
  · rw [if_neg h]
    by_cases h3 : j < vis.length
    · rw [if_pos h3, if_pos (by omega)]
      have : (vis ++ [(e : Int)]).getD j 0 = vis.getD j 0 := by rw [List.getD_eq_getElem?_getD, List.getElem?_append_left h3, ← List.getD_eq_getElem?_getD]
      rw [this]
    · rw [if_neg h3, if_neg (by omega)]
section
variable {P : List (List LOp)} {E : List LEv} {p q : Nat} (hp : p < P.length) (hq : q < P.length) (hl : E.length = (evs 0 P).length) (hc : ∀ i : Nat, i < E.length → (ev E i).1 = (ev (evs 0 P) i).1 ∧ (ev E i).2.1 = (ev (evs 0 P) i).2.1)
include hp hq hl hc
theorem vis_new {i e : Nat} (hi : i < P.length) (he : e < E.length) (hco : (ev E e).1 = swC p q (i : Int)) : (e : Int) ∉ visN E p q i e ∧ (visN E p q i e).length < E.length := by
  obtain ⟨t, ht⟩ := vis_prefix (p := (p : Int)) (q := (q : Int)) hi (show e + 1 ≤ E.length by omega)
  have hn := visA_nodup P E p q
  have hln := visA_len hp hq hl hc
  rw [ht, vis_succ, if_pos hco] at hn hln
  rw [List.nodup_append] at hn
  have hn := hn.1
  rw [List.nodup_append] at hn
  simp only [List.length_append, List.length_singleton] at hln
  exact ⟨fun hm => hn.2.2 _ hm _ (List.mem_singleton.2 rfl) rfl, by omega⟩
theorem vis_le {i e : Nat} (hi : i < P.length) (he : e ≤ E.length) : (visN E p q i e).length ≤ E.length := by
  obtain ⟨t, ht⟩ := vis_prefix (p := (p : Int)) (q := (q : Int)) hi he
  have hln := visA_len hp hq hl hc
  rw [ht, List.length_append] at hln
  omega
theorem reT_get {m : Nat} (hm : m < E.length) : (reT P E p q).getD m 0 = idx (visA P E p q) (m : Int) ∧ 0 ≤ idx (visA P E p q) (m : Int) ∧ idx (visA P E p q) (m : Int) < (E.length : Int) := by
  have h1 := (mem_visA (v := (m : Int)) hp hq hl hc).2 ⟨by omega, by omega⟩
  have hi := idx_mem h1
  have hln := visA_len hp hq hl hc
  unfold reT toV
  rw [getD_lt (by simpa using hm)]
  simp only [List.getElem_map, List.getElem_range]
  rw [if_pos h1]
  exact ⟨rfl, hi.1, by omega⟩
theorem reF_succ {F : List Int} {m : Nat} (hm : m < E.length) {v : Int} (hv : v = frv F (reT P E p q) (m : Int)) : (reF P E F p q m).set ((reT P E p q).getD m 0).toNat v = reF P E F p q (m + 1) := by
  subst hv
  have hT := reT_get hp hq hl hc hm
  have hln := visA_len hp hq hl hc
  have hn := visA_nodup P E p q
  have h1 := (mem_visA (v := (m : Int)) hp hq hl hc).2 ⟨by omega, by omega⟩
  rw [hT.1]
  refine List.ext_getElem (by simp [reF]) fun j g1 g2 => ?_
  have hj : j < E.length := by simpa [reF] using g2
  rw [List.getElem_set, reF_at, reF_at]
  by_cases e : (idx (visA P E p q) (m : Int)).toNat = j
  · rw [if_pos e]
    have h2 := get_idx h1
    rw [e] at h2
    rw [h2, if_pos (by omega)]
  · rw [if_neg e]
    have hne : (visA P E p q).getD j 0 ≠ (m : Int) := by
      intro h
      have := idx_get hn (k := j) (by omega)
      rw [h] at this
      exact e (by omega)
    by_cases h3 : (visA P E p q).getD j 0 < (m : Int)
    · rw [if_pos h3, if_pos (by omega)]
    · rw [if_neg h3, if_neg (by omega)]
theorem vis_all (F : List Int) : toV (visN E p q P.length 0) E.length = reT P E p q ∧ heV E p q (visN E p q P.length 0) = reE P E p q ∧ List.replicate E.length 0 = reF P E F p q 0 := by
  refine ⟨rfl, rfl, ?_⟩
  have hln := visA_len hp hq hl hc
  refine List.ext_getElem (by simp [reF]) fun j g1 g2 => ?_
  have hj : j < E.length := by simpa [reF] using g2
  rw [reF_at, List.getElem_replicate]
  have := (mem_visA (v := (visA P E p q).getD j 0) hp hq hl hc).1 (by rw [getD_lt (by omega)]; exact List.getElem_mem _)
  rw [if_neg (by omega)]
end
theorem mvN_succ {P : List (List LOp)} {pl : List Int} {i : Nat} (h : i < P.length) : mvN P pl (i + 1) = mvN P pl i ++ [(P.getD i []).map (mvO pl)] := by
  unfold mvN
  rw [List.take_succ_eq_append_getElem h, List.map_append, getD_lt h]; rfl
theorem map_take_snoc {l : List LOp} (pl : List Int) {j : Nat} (h : j < l.length) : (l.take (j + 1)).map (mvO pl) = (l.take j).map (mvO pl) ++ [mvO pl (l.getD j (0, 0, 0, ()))] := by
  rw [List.take_succ_eq_append_getElem h, List.map_append, getD_lt h]; rfl
theorem mvEN_len (E : List LEv) (pl : List Int) {m : Nat} (h : m ≤ E.length) : (mvEN E pl m).length = E.length := by
  unfold mvEN
  rw [List.length_append, List.length_map, List.length_take, List.length_drop]; omega
theorem mvEN_cut {E : List LEv} {pl : List Int} {m : Nat} (h : m < E.length) : mvEN E pl m = (E.take m).map (mvE1 pl) ++ ev E (m : Int) :: E.drop (m + 1) := by
  have e : ev E (m : Int) = E[m] := by unfold ev; rw [Int.toNat_natCast, getD_lt h]
  unfold mvEN
  rw [List.drop_eq_getElem_cons h, e]
theorem mvEN_next {E : List LEv} {pl : List Int} {m : Nat} (h : m < E.length) : mvEN E pl (m + 1) = (E.take m).map (mvE1 pl) ++ mvE1 pl (ev E (m : Int)) :: E.drop (m + 1) := by
  have e : ev E (m : Int) = E[m] := by unfold ev; rw [Int.toNat_natCast, getD_lt h]
  unfold mvEN
  rw [List.take_succ_eq_append_getElem h, List.map_append, List.append_assoc, e]
  rfl
theorem mvEN_pre {E : List LEv} {pl : List Int} {m : Nat} (h : m < E.length) : ((E.take m).map (mvE1 pl)).length = m := by
  rw [List.length_map, List.length_take]; omega
theorem mvEN_get {E : List LEv} {pl : List Int} {m : Nat} (h : m < E.length) : (mvEN E pl m).getD m (0, (0, 0, 0, ()), 0, ()) = ev E (m : Int) := by
  have h1 := mvEN_pre (pl := pl) h
  rw [mvEN_cut h, List.getD_eq_getElem?_getD, List.getElem?_append_right (by omega), h1, Nat.sub_self]; rfl
theorem mvEN_succ {E : List LEv} {pl : List Int} {m : Nat} (h : m < E.length) {v : LEv} (hv : v = mvE1 pl (ev E (m : Int))) : (mvEN E pl m).set m v = mvEN E pl (m + 1) := by
  subst hv
  have h1 := mvEN_pre (pl := pl) h
  rw [mvEN_cut h, mvEN_next h, List.set_append, if_neg (by omega), h1, Nat.sub_self, List.set_cons_zero]
theorem mvEN_same {E : List LEv} {pl : List Int} {m : Nat} (h : m < E.length) (h4 : (ev E (m : Int)).2.1.1 = 4) : mvEN E pl m = mvEN E pl (m + 1) := by
  have h5 : mvE1 pl (ev E (m : Int)) = ev E (m : Int) := by
    unfold mvE1 mvO
    rw [if_pos h4]
  rw [mvEN_cut h, mvEN_next h, h5]
end Sp
namespace Go.User
open Go.Proofs Go.Lf
set_option maxRecDepth 100000
theorem vc25 : funI C25 (stpP C25) S25 L25 Try.f25 = (
let q0 : Prop := (True ∧ True) ∧ True;
let q1 : Int := (0 : Int);
let q2 : Prop := True ∧ True ∧ True;
let q3 : Int := (1 : Int);
∀ (x : List Int × List Int × Unit),
  let q4 : Nat := x.1.length;
  let q5 : Nat := x.2.1.length;
  let q6 : Prop := x.1 = x.1 ∧ x.2.1 = x.2.1 ∧ True;
  (q4 ≤ (1000 : Nat) ∧ ∀ (v : Int), v ∈ x.1 → v < (↑q5 : Int)) →
    dFact (Ty.int IntKind.i64).slice x.1 ∧ dFact (Ty.int IntKind.i64).slice x.2.1 ∧ True →
      q0 ∧
        ((True ∧ True) ∧ True ∧ True) ∧
          q0 ∧
            (∃ (x_1 : Nat), x_1 ≤ q4 ∧ q1 = (↑x_1 : Int) ∧ ([] : List tI.den) = Sp.renN x.1 x.2.1 x_1 ∧ q6) ∧
              ∀ (x_1 : Nat),
                let q7 : List Int := Sp.renN x.1 x.2.1 x_1;
                let q8 : Bool := decide ((↑x_1 : Int) < (↑q4 : Int));
                let q9 : Prop := inN (↑x_1 : Int) q4;
                let q10 : Prop := True ∧ True ∧ q9 ∧ q2;
                let q11 : Int := x.1.getD (↑x_1 : Int).toNat q1;
                let q12 : Bool := decide (q11 < q1);
                let q13 : Nat := q7.length;
                let q14 : List Int := q11 :: ([] : List tI.den);
                let q15 : Int := (↑x_1 : Int) + q3;
                let q16 : Prop := (True ∧ inK IntKind.i64 q15 ∧ True ∧ True) ∧ True;
                let q17 : Prop := True ∧ True ∧ True ∧ q9 ∧ True ∧ inN q11 q5 ∧ q2;
                let q18 : Int := x.2.1.getD q11.toNat q1;
                let q19 : Bool := decide (q18 ≥ q1);
                let q20 : List Int := q18 :: ([] : List tI.den);
                x_1 ≤ q4 → dFact (Ty.int IntKind.i64) (↑x_1 : Int) ∧ dFact (Ty.int IntKind.i64).slice q7 ∧ True → ((True ∧ True ∧ q2) ∧ True) ∧ (q8 = true → (q10 ∧ True) ∧ (q12 = true → ((True ∧ q10) ∧ (↑(q13 + q14.length) : Int) ≤ maxNew ∧ True ∧ True) ∧ q16 ∧ ∃ (y : Nat), y ≤ q4 ∧ q4 - y < q4 - x_1 ∧ q15 = (↑y : Int) ∧ q7 ++ q14 = Sp.renN x.1 x.2.1 y ∧ q6) ∧ (q12 = false → (q17 ∧ True) ∧ (q19 = true → ((True ∧ q17) ∧ (↑(q13 + q20.length) : Int) ≤ maxNew ∧ True ∧ True) ∧ q16 ∧ ∃ (y : Nat), y ≤ q4 ∧ q4 - y < q4 - x_1 ∧ q15 = (↑y : Int) ∧ q7 ++ q20 = Sp.renN x.1 x.2.1 y ∧ q6) ∧ (q19 = false → q16 ∧ ∃ (y : Nat), y ≤ q4 ∧ q4 - y < q4 - x_1 ∧ q15 = (↑y : Int) ∧ q7 = Sp.renN x.1 x.2.1 y ∧ q6))) ∧ (q8 = false → (q2 ∧ True) ∧ q7 = Sp.ren x.1 x.2.1)) := by kernel_rfl
theorem vc7 : funI C7 (stpP C7) S7 L7 Try.f7 = (
let q0 : Prop := (True ∧ True) ∧ True;
let q1 : Prop := True ∧ True ∧ True;
let q2 : Prop := q1 ∧ True;
let q3 : Prop := True ∧ q1;
let q4 : Prop := q3 ∧ True ∧ True;
let q5 : Int := (0 : Int);
let q6 : Nat := (100 : Nat);
let q7 : Nat := (3 : Nat);
let q8 : Int := (2 : Int);
let q9 : Nat := (1000 : Nat);
let q10 : Prop := q2 ∧ true = true;
let q11 : Prop := q1 ∧ True ∧ True;
let q12 : Prop := (True ∧ True) ∧ True ∧ True;
let q13 : List (List (Int × Int × Int × Unit)) := ([] : List tLOp.slice.den);
let q14 : List (List Int) := ([] : List tI.slice.den);
let q15 : List Int × Unit := (([] : List tI.den), ());
let q16 : List (List Int) × List Int × Unit := (q14, q15);
let q17 : List Int × List (List Int) × List Int × Unit := (([] : List tI.den), q16);
let q18 : Prop := true = true;
let q19 : Prop := True ∧ q3;
let q20 : Prop := True ∧ q19;
let q21 : Prop := q20 ∧ True;
let q22 : List (List (Int × Int × Int × Unit)) := ([] : List tLOp.den) :: q13;
let q23 : List Step := Step.fst :: ([] : List Step);
let q24 : List Step := List.append._f (([] : List Step)) PUnit.unit q23;
let q25 : Prop := True ∧ q24 = q24 ∧ True;
let q26 : Int := (1 : Int);
let q27 : List Int := -q26 :: ([] : List tI.den);
let q28 : Nat := q27.length;
let q29 : Int × Unit := (q5, ());
let q30 : Int × Int × Int × Unit := (q5, q5, q29);
let q31 : Int × (Int × Int × Int × Unit) × Int × Unit := (q5, q30, q29);
let q32 : Prop := Step.fst = Step.fst ∧ True;
let q33 : Prop := True ∧ True ∧ True ∧ True ∧ True ∧ True ∧ q20;
let q34 : List Step := Step.snd :: q23;
let q35 : List Step := List.append._f (([] : List Step)) PUnit.unit q34;
let q36 : Prop := True ∧ q35 = q35 ∧ True;
let q37 : List Step := List.append._f (([] : List Step)) PUnit.unit (Step.snd :: q34);
let q38 : Prop := (true && true) = true;
let q39 : Prop := q38 → True;
∀ (x : List Int × List Int × Int × Unit),
  let q40 : List (Int × (Int × Int × Int × Unit) × Int × Unit) := Sp.evs q5 (Sp.madeP x.1);
  let q41 : Nat := q40.length;
  let q42 : Prop := q41 ≤ q6 ∧ ∀ (x : Sp.LEv), x ∈ q40 → inN x.2.1.2.1 q7;
  let q43 : Nat := (Sp.madeP x.1).length;
  let q44 : Bool := x.2.2.1 % q8 == q5;
  let q45 : Prop := q41 ≤ q9;
  let q46 : List (List (Int × Int × Int × Unit)) × Unit := (Sp.madeP x.1, ());
  let q47 : List (Int × (Int × Int × Int × Unit) × Int × Unit) := Sp.gE q46 x.2.1;
  let q48 : List Int := Sp.gO q46 x.2.1;
  let q49 : List (Int × (Int × Int × Int × Unit) × Int × Unit) × List Int × List (List Int) × List Int × Unit := (q47, Sp.gF q46 x.2.1, Sp.gM q46 x.2.1, q48, ());
  let q50 : Bool := !Sp.allowed q46 q49;
  let q51 : Prop := (true && bif q50 then false else true) = true → True;
  let q52 : Nat := q48.length;
  let q53 : Int := (↑q52 : Int);
  let q54 : Bool := bif q50 then true else q53 == q5;
  let q55 : Prop := (true && bif q54 then false else true) = true → True;
  let q56 : Bool := bif q54 then true else decide ((↑q47.length : Int) < q8);
  let q57 : Int := x.2.2.1.tmod q53;
  let q58 : Nat := (Sp.madeP x.1).length;
  let q59 : Nat := Sp.goneN (Sp.madeP x.1) x.2.1 x.2.2.1;
  let q60 : Int := (↑q59 : Int);
  let q61 : List (Int × (Int × Int × Int × Unit) × Int × Unit) := Sp.ggE (Sp.madeP x.1) x.2.1 x.2.2.1;
  let q62 : List Int := Sp.ggF (Sp.madeP x.1) x.2.1 x.2.2.1;
  let q63 : List (List Int) := Sp.ggM (Sp.madeP x.1) x.2.1 x.2.2.1;
  let q64 : List Int := Sp.ggO (Sp.madeP x.1) x.2.1 x.2.2.1;
  let q65 : List (Int × (Int × Int × Int × Unit) × Int × Unit) × List Int × List (List Int) × List Int × Unit := (q61, q62, q63, q64, ());
  let q66 : Prop := q46 = q46;
  let q67 : Prop := q18 ∧ q66 ∧ True;
  let q68 : Prop := q65 = q65;
  let q69 : Prop := q60 = q60;
  let q70 : Nat := q61.length;
  let q71 : Nat := q61.length;
  let q72 : List Int := Sp.toL q59 q71;
  let q73 : List (List (Int × Int × Int × Unit)) := Sp.lessP (Sp.madeP x.1) q59;
  let q74 : List (List (Int × Int × Int × Unit)) × Unit := (q73, ());
  let q75 : List (Int × (Int × Int × Int × Unit) × Int × Unit) := q61.eraseIdx q59;
  let q76 : Prop := q18 ∧ q68 ∧ q69 ∧ True;
  let q77 : Nat := q62.length;
  let q78 : Nat := q72.length;
  let q79 : Prop := q72 = q72;
  let q80 : Prop := q74 = q74;
  let q81 : List Int := Sp.hFN q62 q59 q71;
  let q82 : Prop := q18 ∧ q68 ∧ q80 ∧ q79 ∧ True;
  let q83 : Prop := (Sp.evs q5 q73).length ≤ q9;
  let q150 : Prop :=
    ∀ (x_1 : Nat),
      let q84 : Nat := Sp.stp (Sp.madeP x.1) x_1;
      let q85 : Int := (↑q84 : Int);
      let q86 : List Int := Sp.toL q59 q84;
      let q87 : List (List (Int × Int × Int × Unit)) := Sp.lessN (Sp.madeP x.1) q59 x_1;
      let q88 : List (List (Int × Int × Int × Unit)) × Unit := (q87, ());
      let q89 : List (Int × (Int × Int × Int × Unit) × Int × Unit) × List Int × List (List Int) × List Int × Unit := (Sp.hEN q61 q59 q84, q17);
      let q90 : Bool := decide ((↑x_1 : Int) < (↑q43 : Int));
      let q91 : Nat := ((Sp.madeP x.1).getD x_1 (([] : List Sp.LOp))).length;
      let q92 : Prop := q18 ∧ q66 ∧ q68 ∧ q69 ∧ (↑x_1 : Int) = (↑x_1 : Int) ∧ True;
      let q93 : Prop := inN (↑x_1 : Int) q43;
      let q94 : Nat := (↑x_1 : Int).toNat;
      let q95 : List (Int × Int × Int × Unit) := (Sp.madeP x.1).getD q94 (([] : List tLOp.den));
      let q96 : Nat := q95.length;
      let q97 : List Step := List.append._f q23 ⟨List.append._f (([] : List Step)) PUnit.unit, PUnit.unit⟩ (Step.idx q94 :: ([] : List Step));
      let q98 : Int := (↑x_1 : Int) + q26;
      x_1 ≤ q58 →
        dFact (Ty.int IntKind.i64) (↑x_1 : Int) ∧ dFact (Ty.int IntKind.i64) q85 ∧ dFact (Ty.int IntKind.i64) q60 ∧ dFact (((Ty.int IntKind.i64).prod (((Ty.int IntKind.i64).prod ((Ty.int IntKind.i64).prod ((Ty.int IntKind.i64).prod Ty.unit))).prod ((Ty.int IntKind.i64).prod Ty.unit))).slice.prod ((Ty.int IntKind.i64).slice.prod ((Ty.int IntKind.i64).slice.slice.prod ((Ty.int IntKind.i64).slice.prod Ty.unit)))) q65 ∧ dFact (Ty.int IntKind.i64).slice q86 ∧ dFact (((Ty.int IntKind.i64).prod ((Ty.int IntKind.i64).prod ((Ty.int IntKind.i64).prod Ty.unit))).slice.slice.prod Ty.unit) q88 ∧ dFact (((Ty.int IntKind.i64).prod (((Ty.int IntKind.i64).prod ((Ty.int IntKind.i64).prod ((Ty.int IntKind.i64).prod Ty.unit))).prod ((Ty.int IntKind.i64).prod Ty.unit))).slice.prod ((Ty.int IntKind.i64).slice.prod ((Ty.int IntKind.i64).slice.slice.prod ((Ty.int IntKind.i64).slice.prod Ty.unit)))) q89 ∧ True →
          q21 ∧
            (q90 = true →
                (q19 ∧ (↑(q87.length + q22.length) : Int) ≤ maxNew ∧ q25) ∧
                  q0 ∧
                    (∃ (x_2 : Nat),
                        let q99 : Nat := q84 + x_2;
                        (x_1 < q58 ∧ x_2 ≤ q91) ∧ q5 = (↑x_2 : Int) ∧ q85 = q85 + (↑x_2 : Int) ∧ q86 = Sp.toL q59 q99 ∧ (q87 ++ q22, ()) = (q87 ++ Sp.lessK (Sp.madeP x.1) q59 x_1 x_2 :: ([] : List (List Sp.LOp)), ()) ∧ q89 = (Sp.hEN q61 q59 q99, q17) ∧ q92) ∧
                      ∀ (x_2 : Nat),
                        let q100 : Int := q85 + (↑x_2 : Int);
                        let q101 : Nat := q84 + x_2;
                        let q102 : List Int := Sp.toL q59 q101;
                        let q103 : List (List (Int × Int × Int × Unit)) := q87 ++ Sp.lessK (Sp.madeP x.1) q59 x_1 x_2 :: ([] : List (List Sp.LOp));
                        let q104 : List (List (Int × Int × Int × Unit)) × Unit := (q103, ());
                        let q105 : List (Int × (Int × Int × Int × Unit) × Int × Unit) := Sp.hEN q61 q59 q101;
                        let q106 : List (Int × (Int × Int × Int × Unit) × Int × Unit) × List Int × List (List Int) × List Int × Unit := (q105, q17);
                        let q107 : Bool := decide ((↑x_2 : Int) < (↑q96 : Int));
                        let q108 : Bool := q100 == q60;
                        let q109 : Nat := q102.length;
                        let q110 : Int := q100 + q26;
                        let q111 : Prop := (True ∧ inK IntKind.i64 q110 ∧ True ∧ True) ∧ True;
                        let q112 : Int := (↑x_2 : Int) + q26;
                        let q113 : Prop := (True ∧ inK IntKind.i64 q112 ∧ True ∧ True) ∧ True;
                        let q114 : Nat := q105.length;
                        let q115 : List Int := (↑q114 : Int) :: ([] : List tI.den);
                        let q116 : List (Int × (Int × Int × Int × Unit) × Int × Unit) := q61.getD q100.toNat q31 :: ([] : List tLEv.den);
                        let q117 : Prop := inN (↑x_1 : Int) q103.length;
                        let q118 : List (Int × Int × Int × Unit) := q103.getD q94 (([] : List tLOp.den));
                        let q119 : List (Int × Int × Int × Unit) := q95.getD (↑x_2 : Int).toNat q30 :: ([] : List tLOp.den);
                        x_1 < q58 ∧ x_2 ≤ q91 →
                          dFact (Ty.int IntKind.i64) (↑x_2 : Int) ∧ dFact (Ty.int IntKind.i64) q100 ∧ dFact (Ty.int IntKind.i64).slice q102 ∧ dFact (((Ty.int IntKind.i64).prod ((Ty.int IntKind.i64).prod ((Ty.int IntKind.i64).prod Ty.unit))).slice.slice.prod Ty.unit) q104 ∧ dFact (((Ty.int IntKind.i64).prod (((Ty.int IntKind.i64).prod ((Ty.int IntKind.i64).prod ((Ty.int IntKind.i64).prod Ty.unit))).prod ((Ty.int IntKind.i64).prod Ty.unit))).slice.prod ((Ty.int IntKind.i64).slice.prod ((Ty.int IntKind.i64).slice.slice.prod ((Ty.int IntKind.i64).slice.prod Ty.unit)))) q106 ∧ True →
                            ((True ∧ True ∧ True ∧ True ∧ q93 ∧ q3) ∧ True) ∧
                              (q107 = true →
                                  (q3 ∧ True) ∧
                                    (q108 = true →
                                        (q1 ∧ (↑(q109 + q28) : Int) ≤ maxNew ∧ True ∧ True) ∧
                                          q111 ∧
                                            q113 ∧
                                              ∃ (y : Nat),
                                                let q120 : Nat := q84 + y;
                                                (x_1 < q58 ∧ y ≤ q91) ∧ q91 - y < q91 - x_2 ∧ q112 = (↑y : Int) ∧ q110 = q85 + (↑y : Int) ∧ q102 ++ q27 = Sp.toL q59 q120 ∧ q104 = (q87 ++ Sp.lessK (Sp.madeP x.1) q59 x_1 y :: ([] : List (List Sp.LOp)), ()) ∧ q106 = (Sp.hEN q61 q59 q120, q17) ∧ q92) ∧
                                      (q108 = false →
                                        (q20 ∧ (↑(q109 + q115.length) : Int) ≤ maxNew ∧ True ∧ True) ∧
                                          ((True ∧ True ∧ True ∧ True ∧ True ∧ inN q100 q70 ∧ q1) ∧ (↑(q114 + q116.length) : Int) ≤ maxNew ∧ q25) ∧
                                            (((True ∧ True ∧ True ∧ True ∧ True ∧ True ∧ q117 ∧ True ∧ True ∧ True ∧ True ∧ q93 ∧ True ∧ True ∧ inN (↑x_2 : Int) q96 ∧ True ∧ True ∧ (↑(q118.length + q119.length) : Int) ≤ maxNew ∧ q117 ∧ True) ∧ True ∧ True ∧ True ∧ True ∧ True ∧ True ∧ True ∧ True ∧ True ∧ True ∧ True ∧ True ∧ True ∧ True ∧ True ∧ True ∧ True ∧ ((True ∧ q32 ∧ True ∧ True ∧ q32 ∧ True ∧ True ∧ (Step.fst = Step.fst ∧ Step.idx q94 = Step.idx q94 ∧ True) ∧ q33) ∧ True ∧ True ∧ True ∧ True ∧ True ∧ True ∧ True ∧ True ∧ True ∧ True ∧ True ∧ True ∧ True ∧ True ∧ True ∧ True ∧ True ∧ True ∧ True ∧ True ∧ True ∧ True ∧ True ∧ True ∧ True ∧ True ∧ True ∧ True ∧ True ∧ True ∧ True ∧ True ∧ True ∧ True ∧ True ∧ True ∧ True ∧ True ∧ True ∧ True ∧ True ∧ True ∧ True ∧ True ∧ True ∧ True ∧ True ∧ True ∧ True ∧ True ∧ True ∧ True ∧ True ∧ True ∧ True ∧ True ∧ True ∧ True ∧ True ∧ True ∧ True ∧ True ∧ True ∧ True ∧ True ∧ True ∧ True ∧ True ∧ True ∧ True ∧ True ∧ True ∧ True ∧ True ∧ True ∧ True ∧ True ∧ True ∧ True ∧ True ∧ True ∧ True ∧ True ∧ True ∧ True ∧ True ∧ True ∧ True ∧ True ∧ True ∧ True ∧ True ∧ True ∧ True ∧ True ∧ True ∧ True ∧ True ∧ True ∧ True ∧ True ∧ True ∧ True ∧ True ∧ True ∧ True ∧ True ∧ True ∧ True ∧ True ∧ True ∧ True ∧ True ∧ True ∧ True ∧ True ∧ True ∧ True ∧ True ∧ True ∧ True ∧ True ∧ True ∧ True ∧ True ∧ True ∧ True ∧ True ∧ True ∧ True ∧ True ∧ True ∧ True ∧ True ∧ True ∧ True ∧ True ∧ True ∧ True ∧ True ∧ True ∧ True ∧ True ∧ True ∧ True ∧ True ∧ True ∧ True ∧ True ∧ True ∧ True ∧ True ∧ True ∧ True ∧ True ∧ True ∧ True ∧ True ∧ True ∧ True ∧ True ∧ True ∧ True ∧ True ∧ True ∧ True ∧ True ∧ True ∧ True ∧ True ∧ True ∧ True ∧ True ∧ True ∧ True ∧ True ∧ True ∧ True ∧ True ∧ True ∧ True ∧ True ∧ True ∧ True ∧ True ∧ True ∧ True ∧ True ∧ True ∧ True ∧ True ∧ True ∧ True ∧ True ∧ True ∧ True ∧ True ∧ True ∧ q33) ∧ True ∧ True) ∧ q97 = q97 ∧ True) ∧
                                              q111 ∧
                                                q113 ∧
                                                  ∃ (y : Nat),
                                                    let q121 : Nat := q84 + y;
                                                    (x_1 < q58 ∧ y ≤ q91) ∧ q91 - y < q91 - x_2 ∧ q112 = (↑y : Int) ∧ q110 = q85 + (↑y : Int) ∧ q102 ++ q115 = Sp.toL q59 q121 ∧ (q103.set q94 (q118 ++ q119), ()) = (q87 ++ Sp.lessK (Sp.madeP x.1) q59 x_1 y :: ([] : List (List Sp.LOp)), ()) ∧ (q105 ++ q116, q17) = (Sp.hEN q61 q59 q121, q17) ∧ q92)) ∧
                                (q107 = false →
                                  ((True ∧ inK IntKind.i64 q98 ∧ True ∧ True) ∧ True) ∧
                                    ∃ (y : Nat),
                                      let q122 : Nat := Sp.stp (Sp.madeP x.1) y;
                                      y ≤ q58 ∧ q58 - y < q58 - x_1 ∧ q98 = (↑y : Int) ∧ q100 = (↑q122 : Int) ∧ q69 ∧ q68 ∧ q102 = Sp.toL q59 q122 ∧ q104 = (Sp.lessN (Sp.madeP x.1) q59 y, ()) ∧ q106 = (Sp.hEN q61 q59 q122, q17) ∧ q67)) ∧
              (q90 = false →
                q0 ∧
                  (∃ (x : Nat), x ≤ q71 ∧ q5 = (↑x : Int) ∧ q86 = q72 ∧ q88 = q74 ∧ q89 = (q75, Sp.hFN q62 q59 x, q16) ∧ q76) ∧
                    ∀ (x : Nat),
                      let q123 : List (Int × (Int × Int × Int × Unit) × Int × Unit) × List Int × List (List Int) × List Int × Unit := (q75, Sp.hFN q62 q59 x, q16);
                      let q124 : Bool := decide ((↑x : Int) < (↑q70 : Int));
                      let q125 : Bool := (↑x : Int) != q60;
                      let q126 : Prop := (true && bif q125 then true else false) = true;
                      let q127 : Prop := q126 → True;
                      let q128 : Prop := inN (↑x : Int) q77;
                      let q129 : Prop := (True ∧ True ∧ True ∧ True ∧ q127 ∧ q127 ∧ q127 ∧ (q126 → q128) ∧ q127 ∧ q127 ∧ True ∧ True) ∧ True;
                      let q130 : Int := q62.getD (↑x : Int).toNat q5;
                      let q131 : Bool := bif q125 then decide (q130 < q5) else false;
                      let q132 : Nat := (Sp.hFN q62 q59 x).length;
                      let q133 : Bool := bif q125 then decide (q130 ≥ q5) else false;
                      let q134 : Prop := q133 = true;
                      let q135 : Prop := True ∧ True ∧ True ∧ True ∧ True ∧ True ∧ q128 ∧ True ∧ inN q130 q78 ∧ q1;
                      let q136 : List Int := Sp.hFN q62 q59 x ++ q27;
                      let q137 : List Int := q72.getD q130.toNat q5 :: ([] : List tI.den);
                      let q138 : Nat := q137.length;
                      let q139 : Int := (↑x : Int) + q26;
                      let q140 : Prop := (True ∧ inK IntKind.i64 q139 ∧ True ∧ True) ∧ True;
                      let q141 : Prop := q133 = false;
                      x ≤ q71 →
                        dFact (Ty.int IntKind.i64) (↑x : Int) ∧ dFact (Ty.int IntKind.i64).slice q72 ∧ dFact (((Ty.int IntKind.i64).prod ((Ty.int IntKind.i64).prod ((Ty.int IntKind.i64).prod Ty.unit))).slice.slice.prod Ty.unit) q74 ∧ dFact (((Ty.int IntKind.i64).prod (((Ty.int IntKind.i64).prod ((Ty.int IntKind.i64).prod ((Ty.int IntKind.i64).prod Ty.unit))).prod ((Ty.int IntKind.i64).prod Ty.unit))).slice.prod ((Ty.int IntKind.i64).slice.prod ((Ty.int IntKind.i64).slice.slice.prod ((Ty.int IntKind.i64).slice.prod Ty.unit)))) q123 ∧ True →
                          q21 ∧
                            (q124 = true → q129 ∧ (q131 = true → (q3 ∧ (↑(q132 + q28) : Int) ≤ maxNew ∧ q36) ∧ q129 ∧ (q134 → (q135 ∧ (↑(q136.length + q138) : Int) ≤ maxNew ∧ q36) ∧ q140 ∧ ∃ (y : Nat), y ≤ q71 ∧ q71 - y < q71 - x ∧ q139 = (↑y : Int) ∧ q79 ∧ q80 ∧ (q75, q136 ++ q137, q16) = (q75, Sp.hFN q62 q59 y, q16) ∧ q76) ∧ (q141 → q140 ∧ ∃ (y : Nat), y ≤ q71 ∧ q71 - y < q71 - x ∧ q139 = (↑y : Int) ∧ q79 ∧ q80 ∧ (q75, q136, q16) = (q75, Sp.hFN q62 q59 y, q16) ∧ q76)) ∧ (q131 = false → q129 ∧ (q134 → (q135 ∧ (↑(q132 + q138) : Int) ≤ maxNew ∧ q36) ∧ q140 ∧ ∃ (y : Nat), y ≤ q71 ∧ q71 - y < q71 - x ∧ q139 = (↑y : Int) ∧ q79 ∧ q80 ∧ (q75, Sp.hFN q62 q59 x ++ q137, q16) = (q75, Sp.hFN q62 q59 y, q16) ∧ q76) ∧ (q141 → q140 ∧ ∃ (y : Nat), y ≤ q71 ∧ q71 - y < q71 - x ∧ q139 = (↑y : Int) ∧ q79 ∧ q80 ∧ q123 = (q75, Sp.hFN q62 q59 y, q16) ∧ q76))) ∧
                              (q124 = false →
                                q0 ∧
                                  (∃ (x : Nat), x ≤ q7 ∧ q5 = (↑x : Int) ∧ q123 = (q75, q81, Sp.hMN q63 q72 x, q15) ∧ q82) ∧
                                    ∀ (x : Nat),
                                      let q142 : Bool := decide ((↑x : Int) < (3 : Int));
                                      let q143 : List Int := q63.getD (↑x : Int).toNat (([] : List tI.den));
                                      let q144 : List (List Int) := Sp.ren q143 q72 :: q14;
                                      let q145 : Int := (↑x : Int) + q26;
                                      let q146 : List (Int × (Int × Int × Int × Unit) × Int × Unit) × List Int × List (List Int) × List Int × Unit := (q75, q81, Sp.hMN q63 q72 x, Sp.ren q64 q72, ());
                                      let q147 : Bool := Sp.right q74 q146;
                                      let q148 : Prop := (true && bif q147 then true else false) = true;
                                      let q149 : Prop := q148 → True;
                                      x ≤ q7 → dFact (Ty.int IntKind.i64) (↑x : Int) ∧ dFact (((Ty.int IntKind.i64).prod (((Ty.int IntKind.i64).prod ((Ty.int IntKind.i64).prod ((Ty.int IntKind.i64).prod Ty.unit))).prod ((Ty.int IntKind.i64).prod Ty.unit))).slice.prod ((Ty.int IntKind.i64).slice.prod ((Ty.int IntKind.i64).slice.slice.prod ((Ty.int IntKind.i64).slice.prod Ty.unit)))) (q75, q81, Sp.hMN q63 q72 x, q15) ∧ True → q2 ∧ (q142 = true → ((True ∧ True ∧ True ∧ True ∧ True ∧ inN (↑x : Int) q63.length ∧ True ∧ True ∧ (q143.length ≤ q9 ∧ ∀ (v : Int), v ∈ q143 → v < (↑q78 : Int)) ∧ True ∧ True) ∧ (↑((Sp.hMN q63 q72 x).length + q144.length) : Int) ≤ maxNew ∧ True ∧ q37 = q37 ∧ True) ∧ ((True ∧ inK IntKind.i64 q145 ∧ True ∧ True) ∧ True) ∧ ∃ (y : Nat), y ≤ q7 ∧ q7 - y < q7 - x ∧ q145 = (↑y : Int) ∧ (q75, q81, Sp.hMN q63 q72 x ++ q144, q15) = (q75, q81, Sp.hMN q63 q72 y, q15) ∧ q82) ∧ (q142 = false → ((True ∧ True ∧ True ∧ (q64.length ≤ q9 ∧ ∀ (v : Int), v ∈ q64 → v < (↑q78 : Int)) ∧ True ∧ True) ∧ True ∧ True) ∧ ((True ∧ True ∧ q39 ∧ q39 ∧ (q38 → q83) ∧ True ∧ True ∧ q149 ∧ q149 ∧ (q148 → q83) ∧ q1) ∧ True) ∧ (bif q147 then Sp.allowed q74 q146 else false) = true)));
  let q151 : List (Int × (Int × Int × Int × Unit) × Int × Unit) := Sp.iE q46 x.2.1;
  let q152 : List Int := Sp.iO q46 x.2.1;
  let q153 : List (Int × (Int × Int × Int × Unit) × Int × Unit) × List Int × List (List Int) × List Int × Unit := (q151, Sp.iF q46 x.2.1, Sp.iM q46 x.2.1, q152, ());
  let q154 : Bool := !Sp.allowed q46 q153;
  let q155 : Prop := (true && bif q154 then false else true) = true → True;
  let q156 : Nat := q152.length;
  let q157 : Int := (↑q156 : Int);
  let q158 : Bool := bif q154 then true else q157 == q5;
  let q159 : Prop := (true && bif q158 then false else true) = true → True;
  let q160 : Bool := bif q158 then true else decide ((↑q151.length : Int) < q8);
  let q161 : Int := x.2.2.1.tmod q157;
  True →
    dFact (Ty.int IntKind.u8).slice x.1 ∧ dFact (Ty.int IntKind.u8).slice x.2.1 ∧ dFact (Ty.int IntKind.u8) x.2.2.1 ∧ True →
      q0 ∧
        q2 ∧
          q2 ∧
            ((!true) = true → q0 ∧ false = true) ∧
              ((!true) = false →
                q4 ∧
                  ((True ∧ True ∧ (q42 ∧ q43 ≤ q6) ∧ True ∧ True) ∧ True ∧ True) ∧
                    ((True ∧ q8 ≠ q5 ∧ True ∧ True) ∧ True) ∧
                      (q44 = true →
                          ((True ∧ True ∧ q42 ∧ True) ∧ True ∧ True) ∧
                            ((True ∧ True ∧ q45 ∧ True ∧ True ∧ q51 ∧ q51 ∧ q51 ∧ q51 ∧ True ∧ True ∧ q55 ∧ q55 ∧ q55 ∧ q55 ∧ True ∧ True) ∧ True) ∧
                              (q56 = true → q10) ∧
                                (q56 = false →
                                  ((True ∧ True ∧ True ∧ True ∧ True ∧ True ∧ True ∧ q53 ≠ q5 ∧ inN q57 q52 ∧ q1) ∧ True) ∧
                                    q11 ∧
                                      q4 ∧
                                        q12 ∧
                                          q0 ∧
                                            q0 ∧
                                              (∃ (x_1 : Nat),
                                                  let q162 : Nat := Sp.stp (Sp.madeP x.1) x_1;
                                                  x_1 ≤ q58 ∧ q5 = (↑x_1 : Int) ∧ q5 = (↑q162 : Int) ∧ q48.getD q57.toNat q5 = q60 ∧ q49 = q65 ∧ ([] : List tI.den) = Sp.toL q59 q162 ∧ (q13, ()) = (Sp.lessN (Sp.madeP x.1) q59 x_1, ()) ∧ (([] : List tLEv.den), q17) = (Sp.hEN q61 q59 q162, q17) ∧ q67) ∧
                                                q150)) ∧
                        (q44 = false →
                          ((True ∧ True ∧ q45 ∧ True ∧ True ∧ q155 ∧ q155 ∧ q155 ∧ q155 ∧ True ∧ True ∧ q159 ∧ q159 ∧ q159 ∧ q159 ∧ True ∧ True) ∧ True) ∧
                            (q160 = true → q10) ∧
                              (q160 = false →
                                ((True ∧ True ∧ True ∧ True ∧ True ∧ True ∧ True ∧ q157 ≠ q5 ∧ inN q161 q156 ∧ q1) ∧ True) ∧
                                  q11 ∧
                                    q4 ∧
                                      q12 ∧
                                        q0 ∧
                                          q0 ∧
                                            (∃ (x_1 : Nat),
                                                let q163 : Nat := Sp.stp (Sp.madeP x.1) x_1;
                                                x_1 ≤ q58 ∧ q5 = (↑x_1 : Int) ∧ q5 = (↑q163 : Int) ∧ q152.getD q161.toNat q5 = q60 ∧ q153 = q65 ∧ ([] : List tI.den) = Sp.toL q59 q163 ∧ (q13, ()) = (Sp.lessN (Sp.madeP x.1) q59 x_1, ()) ∧ (([] : List tLEv.den), q17) = (Sp.hEN q61 q59 q163, q17) ∧ q67) ∧
                                              q150)))) := by kernel_rfl
end Go.User
namespace Sp
def emb (gone a : Nat) : Nat := if a < gone then a else a + 1
def tau (gone : Nat) (v : Int) : Int := tq gone v.toNat
theorem tq_emb (gone a : Nat) : tq gone (emb gone a) = (a : Int) := by
  unfold tq emb
  split <;> split <;> first | omega | (split <;> omega)
theorem emb_ne (gone a : Nat) : emb gone a ≠ gone := by unfold emb; split <;> omega
theorem tq_ge {gone i : Nat} (h : i ≠ gone) : 0 ≤ tq gone i := by unfold tq; rw [if_neg h]; split <;> omega
theorem emb_tq {gone i : Nat} (h : i ≠ gone) : emb gone (tq gone i).toNat = i := by
  unfold tq emb
  rw [if_neg h]
  split <;> split <;> omega
theorem emb_lt {gone a n : Nat} (hg : gone < n) (h : a < n - 1) : emb gone a < n := by unfold emb; split <;> omega
theorem tq_lt {gone i n : Nat} (hg : gone < n) (h : i < n) : tq gone i < ((n - 1 : Nat) : Int) := by
  unfold tq
  split
  · omega
  · split <;> omega
theorem tau_inj {gone : Nat} {v w : Int} (hv : 0 ≤ v) (hw : 0 ≤ w) (h1 : v.toNat ≠ gone) (h2 : w.toNat ≠ gone) (h : tau gone v = tau gone w) : v = w := by
  unfold tau at h
  have a := emb_tq h1
  have b := emb_tq h2
  rw [h] at a
  omega

theorem toL_len (gone n : Nat) : (toL gone n).length = n := by simp [toL]
theorem toL_get {gone n i : Nat} (h : i < n) : (toL gone n).getD i 0 = tq gone i := by
  rw [getD_lt (by rw [toL_len]; exact h)]; simp [toL]
theorem toL_succ (gone n : Nat) : toL gone (n + 1) = toL gone n ++ [tq gone n] := by simp [toL, List.range_succ]

theorem erase_ev {E : List LEv} {gone a : Nat} : ev (E.eraseIdx gone) (a : Int) = ev E (emb gone a : Int) := by
  unfold ev emb
  simp only [Int.toNat_natCast]
  rw [List.getD_eq_getElem?_getD, List.getElem?_eraseIdx, List.getD_eq_getElem?_getD]
  split <;> rfl

theorem renN_succ {l to : List Int} {n : Nat} (h : n < l.length) : renN l to (n + 1) = renN l to n ++ (if l.getD n 0 < 0 then [l.getD n 0] else if 0 ≤ to.getD (l.getD n 0).toNat 0 then [to.getD (l.getD n 0).toNat 0] else []) := by
  unfold renN
  rw [List.take_succ_eq_append_getElem h, List.filterMap_append, getD_lt h]
  congr 1
  by_cases h1 : l[n] < 0
  · simp [h1]
  · by_cases h2 : 0 ≤ to.getD l[n].toNat 0
    · simp only [h1, if_false, h2, if_true, List.filterMap_cons, List.filterMap_nil]
    · simp only [h1, if_false, h2, List.filterMap_cons, List.filterMap_nil]
theorem renN_le (l to : List Int) (n : Nat) : (renN l to n).length ≤ n := by
  unfold renN
  exact Nat.le_trans (List.length_filterMap_le _ _) (by simp; omega)
theorem ren_toL {gone n : Nat} : ∀ {l : List Int}, (∀ v ∈ l, 0 ≤ v ∧ v < n) → ren l (toL gone n) = (l.filter fun v => !decide (v.toNat = gone)).map (tau gone)
  | [], _ => rfl
  | v :: l, h => by
    have ih := ren_toL (gone := gone) (n := n) (l := l) (fun w hw => h w (by simp [hw]))
    have hv := h v (by simp)
    unfold ren renN at *
    rw [List.take_length] at *
    rw [List.filterMap_cons, ih]
    have hg := toL_get (gone := gone) (n := n) (i := v.toNat) (by omega)
    rw [hg, if_neg (by omega)]
    by_cases e : v.toNat = gone
    · have : ¬ 0 ≤ tq gone v.toNat := by unfold tq; rw [if_pos e]; omega
      rw [if_neg this]
      simp [e]
    · rw [if_pos (tq_ge e)]
      simp [e, tau]

theorem hFN_full {F : List Int} {gone : Nat} : ∀ m, hFN F gone m = (List.range (if gone < m then m - 1 else m)).map fun a => hF1 F gone (emb gone a)
  | 0 => by simp [hFN]
  | m + 1 => by
    have ih := hFN_full (F := F) (gone := gone) m
    unfold hFN at *
    rw [List.range_succ, List.filter_append, List.map_append, ih]
    rcases Nat.lt_trichotomy m gone with h | h | h
    · rw [if_neg (by omega), if_neg (by omega), List.range_succ, List.map_append]
      congr 1
      have : emb gone m = m := by unfold emb; rw [if_pos h]
      simp [this, Nat.ne_of_lt h]
    · subst h
      rw [if_neg (by omega), if_pos (by omega)]
      simp
    · rw [if_pos (by omega), if_pos (by omega)]
      have e : m + 1 - 1 = (m - 1) + 1 := by omega
      rw [e, List.range_succ, List.map_append]
      congr 1
      have : emb gone (m - 1) = m := by unfold emb; rw [if_neg (by omega)]; omega
      simp [this, Nat.ne_of_gt h]
theorem hFN_succ (F : List Int) (gone n : Nat) : hFN F gone (n + 1) = hFN F gone n ++ (if n = gone then [] else [hF1 F gone n]) := by
  unfold hFN
  rw [List.range_succ, List.filter_append, List.map_append]
  congr 1
  by_cases h : n = gone <;> simp [h]
theorem hFN_le (F : List Int) (gone n : Nat) : (hFN F gone n).length ≤ n := by
  unfold hFN
  rw [List.length_map]
  have := List.length_filter_le (fun i => !decide (i = gone)) (List.range n)
  rwa [List.length_range] at this

theorem stp_succ {p : List (List LOp)} {c : Nat} (h : c < p.length) : stp p (c + 1) = stp p c + (p.getD c []).length := st_succ h
theorem stp_all (p : List (List LOp)) : stp p p.length = (evs 0 p).length := st_all p
theorem stp_mono {p : List (List LOp)} {c d : Nat} (h : c ≤ d) : stp p c ≤ stp p d := st_mono h
theorem map_erase {α β : Type} (f : α → β) : ∀ (l : List α) (i : Nat), (l.map f).eraseIdx i = (l.eraseIdx i).map f
  | [], i => by simp
  | a :: l, 0 => by simp
  | a :: l, i + 1 => by simp [map_erase f l i]
theorem lessN_succ (p : List (List LOp)) (gone i : Nat) : lessN p gone (i + 1) = lessN p gone i ++ [lessK p gone i (p.getD i []).length] := by simp [lessN, List.range_succ]
theorem lessN_len (p : List (List LOp)) (gone i : Nat) : (lessN p gone i).length = i := by simp [lessN]
theorem lessN_evs {p : List (List LOp)} {gone : Nat} : ∀ i, i ≤ p.length → evs 0 (lessN p gone i) = (evs 0 (p.take i)).eraseIdx gone
  | 0, _ => by simp [lessN, evs]
  | i + 1, h => by
    have ih := lessN_evs (p := p) (gone := gone) i (by omega)
    have hs : (evs 0 (p.take i)).length = stp p i := rfl
    rw [lessN_succ, evs_append, ih, lessN_len, evs_succ (by omega)]
    simp only [evs, List.append_nil, Int.zero_add]
    by_cases hg : stp p i ≤ gone
    · rw [List.eraseIdx_append_of_length_le (by omega), List.eraseIdx_of_length_le (l := evs 0 (p.take i)) (by omega)]
      unfold lessK
      rw [if_pos hg, List.take_length, map_erase, hs]
    · rw [List.eraseIdx_append_of_lt_length (by omega)]
      unfold lessK
      rw [if_neg hg, List.take_length]
theorem lessP_evs (p : List (List LOp)) (gone : Nat) : evs 0 (lessP p gone) = (evs 0 p).eraseIdx gone := by
  unfold lessP
  rw [lessN_evs _ (Nat.le_refl _), List.take_length]

section
variable {p : List (List LOp)} {g : Gr} {gone : Nat}
/-- The graph without the fence. -/
def gless (g : Gr) (gone : Nat) : Gr := (g.1.eraseIdx gone, hFN g.2.1 gone g.1.length, hMN g.2.2.1 (toL gone g.1.length) 3, ren g.2.2.2.1 (toL gone g.1.length), ())

theorem gless_right (h : RightP (p, ()) g) (hg : gone < g.1.length) (hf : (ev g.1 gone).2.1.1 = 4) (h2 : 2 ≤ g.1.length) : RightP (lessP p gone, ()) (gless g gone) ∧
    (∀ x < 3, (gless g gone).2.2.1.getD x [] = (g.2.2.1.getD x []).map (tau gone)) ∧
    (gless g gone).2.2.2.1 = (g.2.2.2.1.filter fun v => !decide (v.toNat = gone)).map (tau gone) := by
  have hE : g.1.length = (evs 0 p).length := h.lenE
  have hF : g.2.1.length = (evs 0 p).length := h.lenF
  have hu := valid_ev h.valid
  have hu : (evs 0 p).length ≤ 6 ∧ ∀ x ∈ evs 0 p, usual x.2.1 = true := hu
  have hops : ∀ a : Nat, a < g.1.length → (ev g.1 (a : Int)).2.1 = (ev (evs 0 p) (a : Int)).2.1 := fun a ha => (h.src a (by show a < (evs 0 p).length; omega)).2.1
  have hev : evs 0 (lessP p gone) = (evs 0 p).eraseIdx gone := lessP_evs p gone
  have hlen : (evs 0 (lessP p gone)).length = g.1.length - 1 := by rw [hev, List.length_eraseIdx, if_pos (by omega), hE]
  have hFl : hFN g.2.1 gone g.1.length = (List.range (g.1.length - 1)).map fun a => hF1 g.2.1 gone (emb gone a) := by rw [hFN_full, if_pos hg]
  have hFg : ∀ a : Nat, a < g.1.length - 1 → (hFN g.2.1 gone g.1.length).getD a 0 = hF1 g.2.1 gone (emb gone a) := by
    intro a ha
    rw [hFl, getD_lt (by simpa using ha)]; simp
  have hMx : ∀ x, x < 3 → (∀ v ∈ g.2.2.1.getD x [], 0 ≤ v ∧ v < (g.1.length : Int) ∧ writes (ev g.1 v).2.1 = true ∧ (ev g.1 v).2.1.2.1 = (x : Int) ∧ v.toNat ≠ gone) := by
    intro x hx v hv
    have h1 := isList_in (h.mo x hx) hv
    have h1v : v < ((evs 0 p).length : Int) := h1.2.1
    have h3 := h1.2.2
    simp only [Bool.and_eq_true, decide_eq_true_eq] at h3
    have e := hops v.toNat (by omega)
    rw [Int.toNat_of_nonneg h1.1] at e
    rw [← e] at h3
    refine ⟨h1.1, by omega, h3.1, h3.2, fun e' => ?_⟩
    have hv' : v = (gone : Int) := by omega
    rw [hv'] at h3
    exact writes4 h3.1 hf
  have hOx : ∀ v ∈ g.2.2.2.1, 0 ≤ v ∧ v < (g.1.length : Int) ∧ (ev g.1 v).2.1.1 = 4 := by
    intro v hv
    have h1 := isList_in h.fo hv
    have h1v : v < ((evs 0 p).length : Int) := h1.2.1
    have h3 := h1.2.2
    simp only [decide_eq_true_eq] at h3
    have e := hops v.toNat (by omega)
    rw [Int.toNat_of_nonneg h1.1] at e
    rw [← e] at h3
    exact ⟨h1.1, by omega, h3⟩
  have hMr : ∀ x < 3, (gless g gone).2.2.1.getD x [] = (g.2.2.1.getD x []).map (tau gone) := by
    intro x hx
    show (hMN g.2.2.1 (toL gone g.1.length) 3).getD x [] = _
    unfold hMN
    rw [getD_lt (by simpa using hx)]
    simp only [List.getElem_map, List.getElem_range]
    rw [ren_toL (fun v hv => ⟨(hMx x hx v hv).1, (hMx x hx v hv).2.1⟩)]
    congr 1
    rw [List.filter_eq_self]
    intro v hv
    simp [(hMx x hx v hv).2.2.2.2]
  have hOr : (gless g gone).2.2.2.1 = (g.2.2.2.1.filter fun v => !decide (v.toNat = gone)).map (tau gone) := ren_toL (fun v hv => ⟨(hOx v hv).1, (hOx v hv).2.1⟩)
  have hfrm : ∀ a : Nat, a < g.1.length - 1 → (g.2.1.getD (emb gone a) 0 < 0 ∧ hF1 g.2.1 gone (emb gone a) = -1 ∧ g.2.1.getD (emb gone a) 0 = -1) ∨
      (0 ≤ g.2.1.getD (emb gone a) 0 ∧ g.2.1.getD (emb gone a) 0 < (g.1.length : Int) ∧ (g.2.1.getD (emb gone a) 0).toNat ≠ gone ∧ hF1 g.2.1 gone (emb gone a) = tau gone (g.2.1.getD (emb gone a) 0) ∧ reads (ev g.1 (emb gone a)).2.1 = true ∧
        writes (ev g.1 (g.2.1.getD (emb gone a) 0)).2.1 = true ∧ (ev g.1 (g.2.1.getD (emb gone a) 0)).2.1.2.1 = (ev g.1 (emb gone a)).2.1.2.1) := by
    intro a ha
    have hla := emb_lt hg ha
    obtain ⟨_, e2, h3, h4, h5⟩ := h.src (emb gone a) (by show _ < (evs 0 p).length; omega)
    have h4 : g.2.1.getD (emb gone a) 0 < ((evs 0 p).length : Int) := h4
    unfold hF1
    by_cases hn : g.2.1.getD (emb gone a) 0 < 0
    · left; exact ⟨hn, if_pos hn, by omega⟩
    · right
      obtain ⟨r1, r2, r3⟩ := h5 (by omega)
      have r2 : writes (ev (evs 0 p) (g.2.1.getD (emb gone a) 0)).2.1 = true := r2
      have r3 : (ev (evs 0 p) (g.2.1.getD (emb gone a) 0)).2.1.2.1 = (ev (evs 0 p) (emb gone a)).2.1.2.1 := r3
      have r1 : reads (ev (evs 0 p) (emb gone a)).2.1 = true := r1
      have e := hops (g.2.1.getD (emb gone a) 0).toNat (by omega)
      rw [Int.toNat_of_nonneg (by omega)] at e
      have e2 : (ev g.1 (emb gone a)).2.1 = (ev (evs 0 p) (emb gone a)).2.1 := e2
      refine ⟨by omega, by omega, fun e' => ?_, if_neg hn, by rw [e2]; exact r1, by rw [e]; exact r2, by rw [e, r3, e2]⟩
      have hv' : g.2.1.getD (emb gone a) 0 = (gone : Int) := by omega
      rw [hv'] at e r2
      rw [← e] at r2
      exact writes4 r2 hf
  refine ⟨?_, hMr, hOr⟩
  have hval : ∀ a : Nat, a < g.1.length - 1 → value (g.1.eraseIdx gone) (hF1 g.2.1 gone (emb gone a)) = value g.1 (g.2.1.getD (emb gone a) 0) := by
    intro a ha
    rcases hfrm a ha with ⟨h1, h2, h3⟩ | ⟨h1, h2, h3, h4, _⟩
    · rw [h2, h3]; rfl
    · rw [h4]
      unfold value tau
      have hq := tq_ge h3
      have e := erase_ev (E := g.1) (gone := gone) (a := (tq gone (g.2.1.getD (emb gone a) 0).toNat).toNat)
      rw [Int.toNat_of_nonneg hq, emb_tq h3, Int.toNat_of_nonneg h1] at e
      rw [if_neg (show ¬ tq gone (g.2.1.getD (emb gone a) 0).toNat < 0 by omega), if_neg (show ¬ g.2.1.getD (emb gone a) 0 < 0 by omega)]
      simp only [e]
  refine ⟨?_, ?_, ?_, ?_, fun n hn => ?_, fun n hn => ?_, fun q hq => ?_, ?_⟩
  · have hv := h.valid
    unfold valid at *
    simp only [Bool.and_eq_true, decide_eq_true_eq, List.all_eq_true] at *
    have hl : (lessP p gone).length = p.length := lessN_len _ _ _
    rw [hl, hlen]
    refine ⟨⟨⟨hv.1.1.1, by omega⟩, by omega⟩, fun x hx => hv.2 x ?_⟩
    rw [hev] at hx
    exact List.mem_of_mem_eraseIdx hx
  · show (g.1.eraseIdx gone).length = (evs 0 (lessP p gone)).length
    rw [hlen, List.length_eraseIdx, if_pos hg]
  · show (hFN g.2.1 gone g.1.length).length = (evs 0 (lessP p gone)).length
    rw [hlen, hFl]; simp
  · show (hMN g.2.2.1 (toL gone g.1.length) 3).length = 3
    simp [hMN]
  · have hn : n < g.1.length - 1 := by rw [← hlen]; exact hn
    have hla := emb_lt hg hn
    have hs := h.src (emb gone n) (by show _ < (evs 0 p).length; omega)
    show (ev (g.1.eraseIdx gone) n).1 = (ev (evs 0 (lessP p gone)) n).1 ∧ (ev (g.1.eraseIdx gone) n).2.1 = (ev (evs 0 (lessP p gone)) n).2.1 ∧ -1 ≤ (hFN g.2.1 gone g.1.length).getD n 0 ∧ (hFN g.2.1 gone g.1.length).getD n 0 < ((evs 0 (lessP p gone)).length : Int) ∧
      (0 ≤ (hFN g.2.1 gone g.1.length).getD n 0 → reads (ev (evs 0 (lessP p gone)) n).2.1 = true ∧ writes (ev (evs 0 (lessP p gone)) ((hFN g.2.1 gone g.1.length).getD n 0)).2.1 = true ∧ (ev (evs 0 (lessP p gone)) ((hFN g.2.1 gone g.1.length).getD n 0)).2.1.2.1 = (ev (evs 0 (lessP p gone)) n).2.1.2.1)
    rw [hFg n hn, hlen, hev, erase_ev, erase_ev]
    refine ⟨hs.1, hs.2.1, ?_⟩
    rcases hfrm n hn with ⟨h1, h2, h3⟩ | ⟨h1, h2, h3, h4, h5, h6, h7⟩
    · rw [h2]; exact ⟨by omega, by omega, fun h => by omega⟩
    · have hq := tq_ge h3
      have hq2 := tq_lt hg (i := (g.2.1.getD (emb gone n) 0).toNat) (by omega)
      have e := erase_ev (E := evs 0 p) (gone := gone) (a := (tq gone (g.2.1.getD (emb gone n) 0).toNat).toNat)
      rw [Int.toNat_of_nonneg hq, emb_tq h3, Int.toNat_of_nonneg h1] at e
      have e1 := hops (g.2.1.getD (emb gone n) 0).toNat (by omega)
      rw [Int.toNat_of_nonneg h1] at e1
      rw [h4]
      unfold tau
      rw [e, ← e1, ← hops _ hla]
      exact ⟨by omega, hq2, fun _ => ⟨h5, h6, h7⟩⟩
  · have hn : n < (g.1.eraseIdx gone).length := hn
    rw [List.length_eraseIdx, if_pos hg] at hn
    have hla := emb_lt hg hn
    have hgo := h.got (emb gone n) hla
    unfold got at *
    show (ev (g.1.eraseIdx gone) n).2.2.1 = if reads (ev (g.1.eraseIdx gone) n).2.1 = true then value (g.1.eraseIdx gone) ((hFN g.2.1 gone g.1.length).getD n 0) else 0
    rw [hFg n hn, erase_ev, hval n hn]
    exact hgo
  · show isList ((gless g gone).2.2.1.getD q []) (evs 0 (lessP p gone)) _ = true
    rw [hMr q hq]
    have hm := h.mo q hq
    unfold isList at hm ⊢
    simp only [Bool.and_eq_true, decide_eq_true_eq] at hm ⊢
    obtain ⟨⟨m1, m2⟩, m3⟩ := hm
    refine ⟨⟨?_, fun w hw => ?_⟩, fun n hn hw => ?_⟩
    · unfold List.Nodup
      rw [List.pairwise_map]
      refine List.Pairwise.imp_of_mem ?_ m1
      intro a b ha hb hab e
      have ha' := hMx q hq a ha
      have hb' := hMx q hq b hb
      exact hab (tau_inj ha'.1 hb'.1 ha'.2.2.2.2 hb'.2.2.2.2 e)
    · obtain ⟨v, hv, rfl⟩ := List.mem_map.1 hw
      have hv' := hMx q hq v hv
      have hq1 := tq_ge hv'.2.2.2.2
      have hq2 := tq_lt hg (i := v.toNat) (by omega)
      have e := erase_ev (E := evs 0 p) (gone := gone) (a := (tq gone v.toNat).toNat)
      rw [Int.toNat_of_nonneg hq1, emb_tq hv'.2.2.2.2, Int.toNat_of_nonneg hv'.1] at e
      unfold tau
      rw [hlen, hev, e]
      exact ⟨hq1, hq2, (m2 v hv).2.2⟩
    · rw [hlen] at hn
      rw [hev, erase_ev] at hw
      have := m3 (emb gone n) (by have := emb_lt hg hn; show _ < (evs 0 p).length; omega) hw
      refine List.mem_map.2 ⟨_, this, ?_⟩
      unfold tau
      rw [Int.toNat_natCast, tq_emb]
  · show isList (gless g gone).2.2.2.1 (evs 0 (lessP p gone)) _ = true
    rw [hOr]
    have hm := h.fo
    unfold isList at hm ⊢
    simp only [Bool.and_eq_true, decide_eq_true_eq] at hm ⊢
    obtain ⟨⟨m1, m2⟩, m3⟩ := hm
    have hin : ∀ v ∈ g.2.2.2.1.filter (fun v => !decide (v.toNat = gone)), v ∈ g.2.2.2.1 ∧ v.toNat ≠ gone := by
      intro v hv
      have := List.mem_filter.1 hv
      exact ⟨this.1, by simpa using this.2⟩
    refine ⟨⟨?_, fun w hw => ?_⟩, fun n hn hw => ?_⟩
    · unfold List.Nodup
      rw [List.pairwise_map]
      refine List.Pairwise.imp_of_mem ?_ (m1.filter _)
      intro a b ha hb hab e
      have ha' := hin a ha
      have hb' := hin b hb
      exact hab (tau_inj (hOx a ha'.1).1 (hOx b hb'.1).1 ha'.2 hb'.2 e)
    · obtain ⟨v, hv, rfl⟩ := List.mem_map.1 hw
      have hv' := hin v hv
      have hvO := hOx v hv'.1
      have hq1 := tq_ge hv'.2
      have hq2 := tq_lt hg (i := v.toNat) (by omega)
      have e := erase_ev (E := evs 0 p) (gone := gone) (a := (tq gone v.toNat).toNat)
      rw [Int.toNat_of_nonneg hq1, emb_tq hv'.2, Int.toNat_of_nonneg hvO.1] at e
      unfold tau
      rw [hlen, hev, e]
      exact ⟨hq1, hq2, (m2 v hv'.1).2.2⟩
    · rw [hlen] at hn
      rw [hev, erase_ev] at hw
      have := m3 (emb gone n) (by have := emb_lt hg hn; show _ < (evs 0 p).length; omega) hw
      refine List.mem_map.2 ⟨_, List.mem_filter.2 ⟨this, ?_⟩, ?_⟩
      · simpa using emb_ne gone n
      · unfold tau
        rw [Int.toNat_natCast, tq_emb]

theorem gless_allowed (h : AllowP (p, ()) g) (hg : gone < g.1.length) (hf : (ev g.1 gone).2.1.1 = 4) (h2 : 2 ≤ g.1.length) : AllowP (lessP p gone, ()) (gless g gone) := by
  obtain ⟨hR, hMr, hOr⟩ := gless_right h.right hg hf h2
  have hE : g.1.length = (evs 0 p).length := h.right.lenE
  have hl : (gless g gone).1.length = g.1.length - 1 := by
    show (g.1.eraseIdx gone).length = _
    rw [List.length_eraseIdx, if_pos hg]
  have hF : g.2.1.length = (evs 0 p).length := h.right.lenF
  have hFl : (gless g gone).2.1 = (List.range (g.1.length - 1)).map fun a => hF1 g.2.1 gone (emb gone a) := by
    show hFN g.2.1 gone g.1.length = _
    rw [hFN_full, if_pos hg]
  have hFg : ∀ a : Nat, a < g.1.length - 1 → (gless g gone).2.1.getD a 0 = hF1 g.2.1 gone (emb gone a) := by
    intro a ha
    rw [hFl, getD_lt (by simpa using ha)]; simp
  have hev : ∀ a : Nat, ev (gless g gone).1 (a : Int) = ev g.1 (emb gone a : Int) := fun a => erase_ev
  have hops : ∀ a : Nat, a < g.1.length → (ev g.1 (a : Int)).2.1 = (ev (evs 0 p) (a : Int)).2.1 := fun a ha => (h.right.src a (by show a < (evs 0 p).length; omega)).2.1
  have hO : ∀ a b : Nat, Ord (gless g gone) a b → Ord g (emb gone a) (emb gone b) := by
    intro a b hab
    have hlt := hR.ord_lt hab
    rw [hl] at hlt
    rcases hab with ⟨h1, h3, h4⟩ | h1
    · left
      rw [hev, hev] at h4
      refine ⟨?_, emb_lt hg hlt.2, h4⟩
      unfold emb; split <;> split <;> omega
    · right
      rw [hOr] at h1
      have h3 := h1.map (fun v : Int => ((emb gone v.toNat : Nat) : Int))
      rw [List.map_map] at h3
      have e : (g.2.2.2.1.filter fun v => !decide (v.toNat = gone)).map ((fun v : Int => ((emb gone v.toNat : Nat) : Int)) ∘ tau gone) = g.2.2.2.1.filter fun v => !decide (v.toNat = gone) := by
        conv => rhs; rw [← List.map_id (g.2.2.2.1.filter fun v => !decide (v.toNat = gone))]
        refine List.map_congr_left fun v hv => ?_
        have hv := List.mem_filter.1 hv
        have hv0 := (isList_in h.right.fo hv.1).1
        simp only [Function.comp, id, tau]
        rw [emb_tq (by simpa using hv.2), Int.toNat_of_nonneg hv0]
      rw [e] at h3
      simp only [List.map_cons, List.map_nil, Int.toNat_natCast] at h3
      exact h3.trans List.filter_sublist
  refine h.of hR (emb gone) hO (fun a b hab => ?_) (fun a ha => ?_) (fun a ha b hb h4 h5 hx => ?_)
  · have hlt := hR.flow_lt hab
    rw [hl] at hlt
    rcases hab with hab | ⟨h1, h3⟩
    · exact .inl (hO a b hab)
    · right
      rw [hFg b hlt.2] at h3
      unfold hF1 at h3
      split at h3
      · omega
      · rename_i hn
        have hne : (g.2.1.getD (emb gone b) 0).toNat ≠ gone := by
          intro e
          rw [e] at h3
          unfold tq at h3
          rw [if_pos rfl] at h3
          omega
        have := emb_tq hne
        rw [h3, Int.toNat_natCast] at this
        exact ⟨by have := emb_lt hg hlt.2; omega, by omega⟩
  · rw [hl] at ha
    have hla := emb_lt hg ha
    refine ⟨hla, by rw [hev], fun h4 => ?_⟩
    rw [hev] at h4
    have hu := usual_X ((valid_ev h.right.valid).2 _ (ev_mem (n := emb gone a) (by show _ < (evs 0 p).length; omega)))
    have hu : 0 ≤ (ev (evs 0 p) (emb gone a)).2.1.2.1 ∧ (ev (evs 0 p) (emb gone a)).2.1.2.1 < 3 := hu
    rw [← hops _ hla] at hu
    have hML := fun v => isList_in (n := v) (h.right.mo (ev g.1 (emb gone a)).2.1.2.1.toNat (by omega))
    unfold plc
    rw [hev, hMr _ (by omega), Int.toNat_natCast, Int.toNat_natCast]
    have hML : ∀ v ∈ g.2.2.1.getD (ev g.1 (emb gone a)).2.1.2.1.toNat [], 0 ≤ v ∧ v.toNat ≠ gone := by
      intro v hv
      have h1 := hML v hv
      have h1' : v < ((evs 0 p).length : Int) := h1.2.1
      have h3 := h1.2.2
      simp only [Bool.and_eq_true] at h3
      have h3 : writes (ev (evs 0 p) v).2.1 = true := h3.1
      refine ⟨h1.1, fun e => ?_⟩
      have hv' : v = (gone : Int) := by omega
      rw [hv', ← hops gone hg] at h3
      exact writes4 h3 hf
    generalize g.2.2.1.getD (ev g.1 (emb gone a)).2.1.2.1.toNat [] = l at *
    have e1 : idx (l.map (tau gone)) (a : Int) = idx l ((emb gone a : Nat) : Int) := by
      have : (a : Int) = tau gone ((emb gone a : Nat) : Int) := by unfold tau; rw [Int.toNat_natCast, tq_emb]
      rw [this]
      refine idx_map (fun w hw e => ?_)
      exact tau_inj (hML w hw).1 (by omega) (hML w hw).2 (by rw [Int.toNat_natCast]; exact emb_ne gone a) e
    rw [e1]
    congr 1
    congr 1
    rw [hFg a ha]
    unfold hF1
    split
    · rename_i hn
      rw [← idx_none (fun hm => ?_), ← idx_none (fun hm => ?_)]
      · have := (hML _ hm).1; omega
      · obtain ⟨w, hw, e⟩ := List.mem_map.1 hm
        have := tq_ge (hML w hw).2
        unfold tau at e
        omega
    · rename_i hn
      refine idx_map (τ := tau gone) (fun w hw e => ?_)
      obtain ⟨_, _, _, _, h6⟩ := h.right.src (emb gone a) (by show _ < (evs 0 p).length; omega)
      have r2 : writes (ev (evs 0 p) (g.2.1.getD (emb gone a) 0)).2.1 = true := (h6 (by omega)).2.1
      refine tau_inj (hML w hw).1 (by omega) (hML w hw).2 (fun e' => ?_) e
      have hv' : g.2.1.getD (emb gone a) 0 = (gone : Int) := by omega
      rw [hv', ← hops gone hg] at r2
      exact writes4 r2 hf
  · rw [hev, hev] at hx
    exact hx
end
end Sp
