/- Codes and orders that are equal; registers; what an instruction accesses. -/
import Derived.Test.YtdcbiadlojcaoaaLfk
set_option linter.unusedVariables false
set_option linter.unusedSimpArgs false
namespace Sp
theorem fst_inst (s : Mk) : (bV s).1 = s.1 := by
 unfold bV instF
 repeat' split
 all_goals rfl
theorem fst_instN : ∀ (k : Nat) (s : Mk), (instN k s).1 = s.1
 | 0, s => rfl
 | k + 1, s => (fst_instN k (bV s)).trans (fst_inst s)
theorem fst_ins (s : Mk) : (insM s).1 = s.1 := fst_instN _ (nxM s)
theorem fst_rg2 (b last : Int) (s : Mk) : (rg2 b last s).1 = s.1 := rg2_cases (fun t => t.1 = s.1) b last s rfl rfl
theorem fst_rgN (last : Int) : ∀ (k : Nat) (s : Mk), (rgN last k s).1 = s.1
 | 0, s => rfl
 | k + 1, s => (fst_rgN last k _).trans ((fst_rg2 _ _ _).trans (fst_ins s))
theorem fst_rg (s : Mk) (n : Int) : (rgM s n).1 = s.1 := (fst_ins _).trans (fst_rgN _ _ (fH s))
def Byt (s : Mk) : Prop := ∀ v ∈ s.1, 0 <= v /\ v <= 255
theorem Byt.to {s t : Mk} (h : Byt s) (e : t.1 = s.1) : Byt t := fun v hv => h v (e ▸ hv)
theorem aG.rgN {last : Int} : ∀ {k n : Nat} {s : Mk}, aG n s -> Byt s -> aG (n + 55 * k) (rgN last k s) /\ bY (Sp.rgN last k s) = bY s + k
 | 0, n, s, h, hb => ⟨h, rfl⟩
 | k + 1, n, s, h, hb => by
  have h1 := (rg_facts h hb (last - ((k + 1 : Nat) : Int)) last).2.2.2
  have h2 := (rg_len (last - ((k + 1 : Nat) : Int)) last s).2.2
  obtain ⟨h3, h4⟩ := aG.rgN (last := last) (k := k) h1 (hb.to ((fst_rg2 _ _ _).trans (fst_ins s)));exact ⟨h3.mono (by omega), by show bY (Sp.rgN last k _) = _; rw [h4, h2]; omega⟩
theorem aG.rg {n : Nat} {s : Mk} {k : Int} (h : aG n s) (hb : Byt s) (h0 : 0 <= k) (h2 : k <= 2) : aG (n + 161) (rgM s k) /\ has (rgM s k) := by
 have h1 := aG.rgN (last := nB s + k) (k := k.toNat) h.bl hb
 have h3 := h1.1.insM (hb.to (fst_rgN _ _ (fH s)))
 refine ⟨h3.mono (by omega), has_iff.2 ?_⟩
 have e : bY (rgM s k) = bY (fH s) + k.toNat := (lenB_ins _).trans h1.2
 rw [e, lenB_blk]; omega
theorem fst_lp6 (s : Mk) : (lp6 s).1 = s.1 := fst_ins _
theorem lp_cases (P : Mk -> Prop) (s : Mk) (h1 : P (wT (nxM (nxM (lp6 s))) (nB s + 1) (tB (eN (nxM (lp6 s))) (nB s) (nB s + 2)))) (h2 : P (nxM (lp6 s))) : P (lpM s) := by
 unfold lpM
 split
 ·exact h1
 ·exact h2
theorem fst_lp (s : Mk) : (lpM s).1 = s.1 := lp_cases (fun t => t.1 = s.1) s (fst_lp6 s) (fst_lp6 s)
theorem aG.lp {n : Nat} {s : Mk} (h : aG n s) (hh : has s) (hb : Byt s) : aG (n + 59) (lpM s) /\ has (lpM s) := by
 have h1 := (lp_facts h hh hb).2.2.2.2.2.2.2.2.2
 have h2 := (lp_len s).2.2.2.2.2
 refine lp_cases (fun t => aG (n + 59) t /\ has t) s ⟨h1.nx.nx.wT _ _, has_iff.2 ?_⟩ ⟨h1.nx.mono (by omega), has_iff.2 ?_⟩
 ·rw [lenB_wT]; show 0 < bY (lp6 s); omega
 ·show 0 < bY (lp6 s); omega
theorem bd3 (s : Mk) (hb : Byt s) : 0 <= Int.tmod (nxV s) 3 /\ Int.tmod (nxV s) 3 <= 2 := by
 have := eO (fM s hb).1 (k := 3) (by decide)
 omega
theorem fst_q1 (s : Mk) : (q1 s).1 = s.1 := fst_rg (nxM s) _
theorem aG.q1 {n : Nat} {s : Mk} (h : aG n s) (hb : Byt s) : aG (n + 162) (q1 s) /\ has (Sp.q1 s) := by
 obtain ⟨h1, h2⟩ := bd3 s hb
 obtain ⟨h3, h4⟩ := aG.rg h.nx (s := nxM s) hb h1 h2
 exact ⟨h3.mono (by omega), h4⟩
theorem q2_cases (P : Mk -> Prop) (s : Mk) (h1 : P (fH (lpM (nxM s)))) (h2 : P (nxM s)) : P (q2 s) := by
 unfold q2
 split
 ·exact h1
 ·exact h2
theorem fst_q2 (s : Mk) : (q2 s).1 = s.1 := q2_cases (fun t => t.1 = s.1) s (fst_lp (nxM s)) rfl
theorem aG.q2 {n : Nat} {s : Mk} (h : aG n s) (hh : has s) (hb : Byt s) : aG (n + 61) (q2 s) /\ has (Sp.q2 s) := by
 obtain ⟨h1, h2⟩ := aG.lp h.nx (s := nxM s) hh hb
 refine q2_cases (fun t => aG (n + 61) t /\ has t) s ⟨h1.bl.mono (by omega), has_iff.2 ?_⟩ ⟨h.nx.mono (by omega), hh⟩
 rw [lenB_blk]; omega
theorem q4_cases (P : Mk -> Prop) (b : Int) (s : Mk) (h1 : P (wT (nxM (nxM (nxM (nxM (nxM s))))) b (tC (nxM s) b))) (h2 : P (nxM s)) : P (q4 b s) := by
 unfold q4
 split
 ·exact h1
 ·exact h2
theorem fst_q4 (b : Int) (s : Mk) : (q4 b s).1 = s.1 := q4_cases (fun t => t.1 = s.1) b s rfl rfl
theorem aG.q4 {n : Nat} {s : Mk} (b : Int) (h : aG n s) : aG (n + 5) (q4 b s) := q4_cases (fun t => aG (n + 5) t) b s (h.nx.nx.nx.nx.nx.wT _ _) (h.nx.mono (by omega))
theorem fst_mdS (s : Mk) : (mdS s).1 = s.1 := (fst_q4 _ _).trans ((fst_q2 _).trans (fst_q1 s))
theorem aG.mdS {n : Nat} {s : Mk} (h : aG n s) (hb : Byt s) : aG (n + 228) (mdS s) := by
 obtain ⟨h1, h2⟩ := h.q1 hb
 obtain ⟨h3, h4⟩ := h1.q2 h2 (hb.to (fst_q1 s))
 exact (h3.wT _ _).q4 _
theorem aG.mdN : ∀ {k n : Nat} {s : Mk}, aG n s -> Byt s -> aG (n + 228 * k) (mdN k s) /\ (Sp.mdN k s).1 = s.1
 | 0, n, s, h, hb => ⟨h, rfl⟩
 | k + 1, n, s, h, hb => by
  obtain ⟨h3, h4⟩ := aG.mdN (k := k) (h.mdS hb) (hb.to (fst_mdS s));exact ⟨h3.mono (by omega), h4.trans (fst_mdS s)⟩
theorem aG.wS {n : Nat} {s : Mk} (h : aG n s) (k : Int) : aG n (wS s k) := ⟨h.at0, h.at1, h.arr, h.blk, h.ins, h.lps⟩
theorem aG.sbN : ∀ {k n : Nat} {s : Mk}, aG n s -> aG n (sbN k s) /\ (Sp.sbN k s).1 = s.1
 | 0, n, s, h => ⟨h, rfl⟩
 | k + 1, n, s, h => by
  show aG n (if _ then _ else _) /\ Prod.fst (if _ then _ else _) = _
  split
  ·exact aG.sbN (h.wS _)
  ·exact ⟨h, rfl⟩
theorem aG.md1 (L : List Int) : aG 1 (md1 L) := ⟨Int.le_of_lt Int.zero_lt_one, Int.le_refl _, rfl, Nat.zero_le _, fun b hb => (List.not_mem_nil hb).elim, Nat.zero_le _⟩
theorem aG.md2 (L : List Int) : aG 2 (md2 L) /\ (Sp.md2 L).1 = L := aG.sbN (aG.md1 L).nx
theorem aG.md3 (L : List Int) (hb : Byt (Sp.md0 L)) : aG 500 (md3 L) /\ (Sp.md3 L).1 = L := by
 obtain ⟨h1, h2⟩ := aG.md2 L
 have hb2 : Byt (Sp.md2 L) := hb.to h2
 have hk := bd3 _ hb2
 obtain ⟨h3, h4⟩ := aG.mdN (k := (Int.tmod (nxV (Sp.md2 L)) 3).toNat) (s := nxM (Sp.md2 L)) h1.nx hb2
 unfold Sp.md3
 exact ⟨h3.mono (by omega), h4.trans h2⟩
theorem q5_cases (P : Mk -> Prop) (s : Mk) (h1 : P (insM (fH (lpM (nxM s))))) (h2 : P (nxM s)) : P (q5 s) := by
 unfold q5
 split
 ·exact h1
 ·exact h2
theorem aG.q5 {n : Nat} {s : Mk} (h : aG n s) (hh : has s) (hb : Byt s) : aG (n + 112) (q5 s) /\ has (Sp.q5 s) /\ (Sp.q5 s).1 = s.1 := by
 obtain ⟨h5, h6⟩ := aG.lp h.nx (s := nxM s) hh hb
 have e : (lpM (nxM s)).1 = s.1 := fst_lp (nxM s)
 have hb5 : Byt (lpM (nxM s)) := hb.to e
 have h7 := h5.bl.insM (s := fH (lpM (nxM s))) hb5
 have e2 : (Sp.insM (fH (lpM (nxM s)))).1 = s.1 := (fst_ins _).trans e
 have h8 : has (Sp.insM (fH (lpM (nxM s)))) := has_iff.2 (by rw [lenB_ins, lenB_blk]; omega)
 exact q5_cases (fun t => aG (n + 112) t /\ has t /\ t.1 = s.1) s ⟨h7.mono (by omega), h8, e2⟩ ⟨h.nx.mono (by omega), hh, rfl⟩
theorem aG.md4 (L : List Int) (hb : Byt (Sp.md0 L)) : aG 800 (md4 L) /\ has (Sp.md4 L) /\ (Sp.md4 L).1 = L := by
 obtain ⟨h1, h2⟩ := aG.md3 L hb
 have hb3 : Byt (Sp.md3 L) := hb.to h2
 obtain ⟨h3, h4⟩ := h1.q1 hb3
 have hb4 : Byt (Sp.q1 (Sp.md3 L)) := hb3.to (fst_q1 _)
 obtain ⟨h5, h6, h7⟩ := h3.q5 h4 hb4
 unfold Sp.md4
 exact ⟨h5.mono (by decide), h6, h7.trans ((fst_q1 _).trans h2)⟩
end Sp
namespace Go.User
open Go.Lf Go.Proofs
theorem at_of {n : Nat} {s : Sp.Mk} (h : Sp.aG n s) (hn : n <= 5000) : 0 <= s.2.1 /\ s.2.1 <= 5000 := ⟨h.at0, by have := h.at1; omega⟩
theorem k3 : ¬((3 : Int) = 0) := by decide
theorem k5 : ¬((5 : Int) = 0) := by decide
theorem k6 : ¬((6 : Int) = 0) := by decide
set_option maxHeartbeats 4000000 in
set_option maxRecDepth 100000 in
theorem ok21 : FOk Try.prog 21 S21 := by
 have hC : aF Try.prog C21 := okM' 0 (aE ok46 aO) (b9 pk47 (b9 pk48 (b9 pk49 (b9 pk50 (b9 pk51 (b9 pk52 eI)))))) rfl rfl rfl rfl rfl rfl
 refine FOk.introT hC (stpN_ok hC numsO_ok) Try.call21 Try.func21 rfl (by kernel_rfl) T21 ?_
 rw [vc21]
 simp only [zz, zy]
 rintro ⟨⟨L, u⟩, u2⟩ hx
 dsimp only
 have hb : Sp.Byt (Sp.md0 L) := dM hx.1
 have hI : ∀ z : Int, -10 <= z -> z <= 100000 -> inK .i64 z := fun z _ _ => aS (by omega) (by omega)
 have m1 := Sp.aG.md1 L
 obtain ⟨m2, e2⟩ := Sp.aG.md2 L
 have hb2 : Sp.Byt (Sp.md2 L) := hb.to e2
 obtain ⟨m3, e3⟩ := Sp.aG.md3 L hb
 have hb3 : Sp.Byt (Sp.md3 L) := hb.to e3
 obtain ⟨m4, h4, e4⟩ := Sp.aG.md4 L hb
 have hb1 : Sp.Byt (Sp.md1 L) := hb
 have d1 := Sp.bd3 _ hb1
 have d2 := Sp.bd3 _ hb2
 have d3 := Sp.bd3 _ hb3
 refine ⟨?_, fun _ => ⟨?_, fun _ => ⟨?_, fun _ => ⟨?_, fun _ => ⟨?_, fun _ => ⟨?_, fun _ => ?_⟩⟩⟩⟩⟩⟩
 ·have a1 : inN ((Sp.nxV (L, 0, (0, 0, 0, 0, 0, [], [], [], ()), ())).tmod 5) 5 := inN_t (Sp.md0 L) hb 5 (by decide)
  have a2 : (0 : Int) <= 0 /\ (0 : Int) <= 5000 := ⟨Int.le_refl _, by decide⟩
  repeat' first | exact a1 | exact a2 | exact k5 | exact ⟨(), rfl, rfl⟩ | constructor
 ·refine ⟨⟨at_of m1 (by decide), k3⟩, ⟨((Int.tmod (Sp.nxV (Sp.md1 L)) 3).toNat, Sp.nxM (Sp.md1 L)), ⟨by dsimp only; omega, m1.nx, ?_, ?_, ?_, ?_, rfl⟩, rfl, by dsimp only; omega⟩, ?_⟩
  ·show (1 : Int) <= 1; decide
  ·show (1 : Int) <= 4; decide
  ·intro _; show (1 : Int) <= 2; decide
  ·intro _; show (1 : Int) <= 1; decide
  rintro ⟨k, s⟩
  dsimp only
  rintro ⟨g1, g2, g3, g4, g5, g6, g7⟩ _
  have g3 : 1 <= s.2.2.1.2.1 := g3
  have g4 : s.2.2.1.2.1 <= 4 := g4
  have a1 : inK .i64 (2 * s.2.2.1.2.1) := hI _ (by omega) (by omega)
  refine ⟨⟨fun _ => a1, fun _ => by omega⟩, ?_, ?_⟩
  ·rintro ⟨c1, c2⟩
   obtain ⟨j, rfl⟩ : ∃ j, k = j + 1 := ⟨k - 1, by omega⟩
   have g5 : s.2.2.1.2.1 <= 2 := g5 (by omega)
   refine ⟨a1, hI _ (by omega) (by omega), (j, Sp.wS s (2 * Sp.gS s)), ⟨by dsimp only; omega, g2.wS _, ?_, ?_, ?_, ?_, ?_⟩, by dsimp only; omega, rfl, by dsimp only; omega⟩
   ·show 1 <= 2 * s.2.2.1.2.1; omega
   ·show 2 * s.2.2.1.2.1 <= 4; omega
   ·intro h
    have g6 : s.2.2.1.2.1 <= 1 := g6 (by dsimp only at h; omega)
    show 2 * s.2.2.1.2.1 <= 2; omega
   ·intro h; dsimp only at h; omega
   ·rw [<- g7]
    show _ = (if _ then _ else _)
    have c3 : Int.tmod (Sp.gG s) (2 * Sp.gS s) = 0 := c2
    rw [if_pos c3]
  ·intro hf
   refine ⟨(), ?_⟩
   rw [<- g7];cases k with
   | zero => rfl
   | succ j =>
    show _ = (if _ then _ else _)
    rw [if_neg];intro c;have c : s.2.2.1.1.tmod (2 * s.2.2.1.2.1) = 0 := c;rw [c] at hf;have h0 : (0 : Int) < ((j + 1 : Nat) : Int) := by omega
    rw [decide_eq_true h0] at hf;exact absurd hf (by decide)
 ·refine ⟨⟨at_of m2 (by decide), k3⟩, ⟨((Int.tmod (Sp.nxV (Sp.md2 L)) 3).toNat, Sp.nxM (Sp.md2 L)), ⟨by dsimp only; omega, m2.nx.mono (by dsimp only; omega), rfl⟩, rfl, by dsimp only; omega⟩, ?_⟩
  rintro ⟨k, s⟩
  dsimp only
  rintro ⟨g1, g2, g3⟩ hd
  have hbs : Sp.Byt s := dM hd.2.1.1
  refine ⟨fun hk => ?_, fun hk => ⟨(), ?_⟩⟩
  ·obtain ⟨n1, n2⟩ := g2.q1 hbs
   have hbq : Sp.Byt (Sp.q1 s) := hbs.to (Sp.fst_q1 s)
   obtain ⟨n3, n4⟩ := n1.q2 n2 hbq;have hbq2 : Sp.Byt (Sp.q2 (Sp.q1 s)) := hbq.to (Sp.fst_q2 _);obtain ⟨n5, n6⟩ := Sp.aG.lp n1.nx (s := Sp.nxM (Sp.q1 s)) n2 hbq;have ds := Sp.bd3 _ hbs;have hl : (Sp.cB (Sp.q2 (Sp.q1 s)).2.2.1).length <= 5000 := Nat.le_trans n3.blk (by omega);have hl0 : 0 < (Sp.cB (Sp.q2 (Sp.q1 s)).2.2.1).length := n4;have n0 : Sp.nB (Sp.q2 (Sp.q1 s)) = ((Sp.cB (Sp.q2 (Sp.q1 s)).2.2.1).length : Int) := rfl;have a1 : inK .i64 (Sp.nB (Sp.q2 (Sp.q1 s)) - 1 + 1) := hI _ (by omega) (by omega);have a2 : inK .i64 (Sp.nB (Sp.q2 (Sp.q1 s)) - 1) := hI _ (by omega) (by omega);have a3 : inN (Sp.nB (Sp.q2 (Sp.q1 s)) - 1) (Sp.bY (Sp.q2 (Sp.q1 s))) := by rw [n0]; exact inN_last hl0
   have n7 : Sp.aG (700 - 310 * k + 162 + 61) (Sp.q3 (Sp.q2 (Sp.q1 s))) := n3.wT _ _
   have a4 : inN (Sp.nB (Sp.q2 (Sp.q1 s)) - 1) (Sp.bY (Sp.q3 (Sp.q2 (Sp.q1 s)))) := by
    have e : Sp.bY (Sp.q3 (Sp.q2 (Sp.q1 s))) = Sp.bY (Sp.q2 (Sp.q1 s)) := Sp.lenB_wT _ _ _
    rw [e]; exact a3
   have hbq3 : Sp.Byt (Sp.q3 (Sp.q2 (Sp.q1 s))) := hbq2
   have n8 := g2.mdS hbs
   have t0 := at_of n7 (by omega)
   refine ⟨⟨⟨⟨at_of g2 (by omega), k3, g2.nx.mono (by omega), ds.1, ds.2⟩, (), rfl⟩, fun _ => ⟨⟨⟨at_of n1 (by omega), k3⟩, fun c => ⟨⟨n1.nx.mono (by omega), n2⟩, n5.mono (by omega), (), ?_⟩, fun c => ⟨(), ?_⟩⟩, fun _ => ⟨⟨a2, (), rfl⟩, fun _ => ⟨⟨⟨a1, a3⟩, (), rfl⟩, fun _ => ⟨⟨t0, k3⟩, fun c => ?_, fun c => ⟨(), ?_⟩⟩⟩⟩⟩⟩, fun _ => ?_⟩
   ·unfold Sp.q2
    rw [if_pos c]
    rfl
   ·unfold Sp.q2
    rw [if_neg c]
    rfl
   ·have E : ∀ A, A = Sp.wT (Sp.nxM (Sp.nxM (Sp.nxM (Sp.nxM (Sp.nxM (Sp.q3 (Sp.q2 (Sp.q1 s)))))))) (Sp.nB (Sp.q2 (Sp.q1 s)) - 1) (Sp.tC (Sp.nxM (Sp.q3 (Sp.q2 (Sp.q1 s)))) (Sp.nB (Sp.q2 (Sp.q1 s)) - 1)) -> A = Sp.mdS s := by
     rintro A rfl
     unfold Sp.mdS Sp.q4;rw [if_pos c]
    clear hx hd n8 n5 n6 n3 n4 t0 a2 a3;have n7 : Sp.aG 930 (Sp.q3 (Sp.q2 (Sp.q1 s))) := n7.mono (by omega);generalize Sp.q2 (Sp.q1 s) = z at *;have z0 : 0 <= z.2.1 := n7.at0;have z1 : z.2.1 <= 930 := n7.at1;have T : ∀ a : Int, 0 <= a -> a <= 5000 -> Sp.aG 5000 (z.1, a, Sp.fK z.2.2.1 (Sp.setT (Sp.cB z.2.2.1) (Sp.nB z - 1) (Sp.tJ 3 (Sp.nB z - 1 + 1) 0)), ()) := fun a h0 h1 =>
     ⟨h0, h1, n7.arr, Nat.le_trans n7.blk (by decide), fun b hb => Nat.le_trans (n7.ins b hb) (by decide), Nat.le_trans n7.lps (by decide)⟩
    have t1 : 0 <= z.2.1 + 1 /\ z.2.1 + 1 <= 5000 := ⟨by omega, by omega⟩
    have t2 := T (z.2.1 + 1 + 1) (by omega) (by omega)
    have t3 := T (z.2.1 + 1 + 1 + 1) (by omega) (by omega)
    have t4 := T (z.2.1 + 1 + 1 + 1 + 1) (by omega) (by omega)
    have t5 : inK .i64 (1 + (Sp.nxV (z.1, z.2.1 + 1, Sp.fK z.2.2.1 (Sp.setT (Sp.cB z.2.2.1) (Sp.nB z - 1) (Sp.tJ 3 (Sp.nB z - 1 + 1) 0)), ())).tmod 6) := inK_ct (Sp.nxM (Sp.q3 z)) hbq3 1 6 (by decide) (by decide)
    have a4 : inN (Sp.nB z - 1) (Sp.setT (Sp.cB z.2.2.1) (Sp.nB z - 1) (Sp.tJ 3 (Sp.nB z - 1 + 1) 0)).length := a4
    repeat' first | with_reducible exact a1 | with_reducible exact a4 | with_reducible exact k6 | with_reducible exact t5 | with_reducible exact t1 | with_reducible exact t2 | with_reducible exact t3 | with_reducible exact t4 | with_reducible apply And.intro | exact ⟨(), E _ rfl⟩
   ·unfold Sp.mdS Sp.q4
    rw [if_neg c]
    rfl
   ·obtain ⟨j, rfl⟩ : ∃ j, k = j + 1 := ⟨k - 1, by omega⟩
    exact ⟨hI _ (by omega) (by omega), (j, Sp.mdS s), ⟨by dsimp only; omega, n8.mono (by dsimp only; omega), g3⟩, by dsimp only; omega, rfl, by dsimp only; omega⟩
  ·have : k = 0 := by omega
   subst this;exact g3
 ·exact ⟨⟨at_of m3 (by decide), k3, m3.nx.mono (by decide), d3.1, d3.2⟩, (), rfl⟩
 ·obtain ⟨n1, n2⟩ := m3.q1 hb3
  have hb4 : Sp.Byt (Sp.q1 (Sp.md3 L)) := hb3.to (Sp.fst_q1 _)
  obtain ⟨n3, n4⟩ := Sp.aG.lp n1.nx (s := Sp.nxM (Sp.q1 (Sp.md3 L))) n2 hb4;refine ⟨⟨at_of n1 (by decide), k3⟩, fun c => ⟨⟨n1.nx.mono (by decide), n2⟩, n3.mono (by decide), ⟨n3.bl.mono (by decide), Sp.has.bl⟩, (), ?_⟩, fun c => ⟨(), ?_⟩⟩
  ·unfold Sp.md4 Sp.q5
   rw [if_pos c]
   rfl
  ·unfold Sp.md4 Sp.q5
   rw [if_neg c]
   rfl
 ·have hl : (Sp.cB (Sp.md4 L).2.2.1).length <= 5000 := Nat.le_trans m4.blk (by decide)
  have hl0 : 0 < (Sp.cB (Sp.md4 L).2.2.1).length := h4
  refine ⟨⟨hI (((Sp.cB (Sp.md4 L).2.2.1).length : Int) - 1) (by omega) (by omega), inN_last hl0⟩, (), rfl⟩
 ·rfl
end Go.User
namespace Sp
end Sp
namespace Go.User
open Go.Lf
abbrev mBlk : Md := .pair (.own .shr) (.pair .shr .shr)
abbrev mCp : Md := .pair .shr (.pair .shr (.pair .shr (.pair .shr (.pair .shr (.pair (.own .shr) (.pair (.own .shr) (.pair (.own mBlk) .shr)))))))
def codeOK (n : Nat) (c : Sp.Code) : Prop := (Sp.cA c).length <= n /\ (Sp.cL c).length <= n /\ (Sp.cB c).length <= n /\ ∀ b ∈ Sp.cB c, b.1.length <= n
def S20 : bG := { args := [.val bT], multi := false, res := bT, mode := mCp, pre := fun x => codeOK 5000 x.1, fn := fun x => x.1 }
def C20 : Ctx := { mkC 44 [] with mds := [(2, mCp), (15, .own mBlk), (3, .own mBlk), (38, mBlk), (39, .own mBlk)] }
def L20 (x : aN S20.args) : List aW := [
 {ι := Nat, inv := fun i => i <= (Sp.cB x.1).length, dec := fun i => (Sp.cB x.1).length - i, ovr := fun i => [(3, .own (.slice fY) (.own mBlk) ((Sp.cB x.1).take i)), (4, .shr tI (i : Int))], keep := [1, 2] }]
end Go.User
namespace Go.User
open Go.Proofs Go.Lf
set_option maxRecDepth 100000
theorem vc20 : (c9 C20 (cN C20) S20 L20 Try.f20) = (
let q0 : Nat := (5000 : Nat);
let q1 : Nat := (2 : Nat);
let q2 : Prop := True /\ True /\ True;
let q3 : Nat := (0 : Nat);
let q4 : Prop := (True /\ True) /\ True /\ True;
let q5 : Int := (0 : Int);
let q6 : Sp.Code := (q5, q5, q5, q5, q5, ([] : List cG.den), ([] : List bF.den), ([] : List fY.den), ());
let q7 : Prop := q6 = q6 /\ True;
let q8 : Prop := True /\ True /\ q2;
let q9 : Sp.Opd := (q5, q5, q5, ());
let q10 : Sp.Block := (([] : List aL.den), (q5, q5, q9, q9, q9, List.replicate q1 q5, ()), ());
let q11 : Int := (1 : Int);
∀ (x : Sp.Code × Unit),
 let q12 : Nat := (Sp.cB x.1).length;
 let q13 : Int × List Sp.Arr × List Sp.Opd × List Sp.Block × Unit := x.1.2.2.2.2;
 let q14 : List Sp.Arr × List Sp.Opd × List Sp.Block × Unit := q13.2;
 let q15 : List Sp.Arr := q14.1;
 let q16 : List Sp.Opd × List Sp.Block × Unit := q14.2;
 let q17 : List Sp.Opd := q16.1;
 let q18 : Int := x.1.2.2.2.1;
 let q19 : Int := q13.1;
 let q20 : List Sp.Block × Unit := q16.2;
 let q21 : Sp.Code := (x.1.1, x.1.2.1, x.1.2.2.1, q18, q19, q15, q17, q20);
 let q22 : Prop := q21 = q21 /\ q7;
 let q23 : List Sp.Block := q20.1;
 let q24 : Nat := q23.length;
 ((Sp.cA x.1).length <= q0 /\ (Sp.cL x.1).length <= q0 /\ q12 <= q0 /\ ∀ (b : Sp.Block), b ∈ Sp.cB x.1 -> b.1.length <= q0) ->
 aB (tI.prod (tI.prod (tI.prod (tI.prod (tI.prod (cG.slice.prod (bF.slice.prod ((aL.slice.prod ((tI.prod (tI.prod (aQ.prod (aQ.prod (aQ.prod ((Ty.arr q1 tI).prod Ty.unit)))))).prod Ty.unit)).slice.prod Ty.unit)))))))) x.1 /\ True ->
 (q2 /\ True) /\
 ((True /\ True /\ True /\ (↑(q3 + q15.length) : Int) <= maxNew /\ True /\ True) /\ True /\ True) /\
 ((True /\ True /\ True /\ (↑(q3 + q17.length) : Int) <= maxNew /\ True /\ True) /\ True /\ True) /\
 q4 /\
 ((True /\ True) /\ True) /\
 (∃ (x_1 : Nat), x_1 <= q12 /\ ([] : List fY.den) = List.take x_1 (Sp.cB x.1) /\ q5 = (↑x_1 : Int) /\ q22) /\
 ∀ (x_1 : Nat),
 let q25 : List Sp.Block := List.take x_1 (Sp.cB x.1);
 let q26 : Bool := decide ((↑x_1 : Int) < (↑q24 : Int));
 let q27 : Prop := inN (↑x_1 : Int) q24;
 let q28 : Sp.Block := q23.getD (↑x_1 : Int).toNat q10;
 let q29 : List Sp.Inst := q28.1;
 let q30 : List Sp.Block := (q29, q28.2.1, ()) :: ([] : List fY.den);
 let q31 : Int := (↑x_1 : Int) + q11;
 x_1 <= q12 -> aB (aL.slice.prod ((tI.prod (tI.prod (aQ.prod (aQ.prod (aQ.prod ((Ty.arr q1 tI).prod Ty.unit)))))).prod Ty.unit)).slice q25 /\ aB tI (↑x_1 : Int) /\ True -> ((True /\ q8) /\ True) /\ (q26 = true -> ((True /\ True /\ True /\ True /\ True /\ q27 /\ True /\ True /\ (↑(q3 + q29.length) : Int) <= maxNew /\ True /\ True /\ True /\ q27 /\ q8) /\ (↑(q25.length + q30.length) : Int) <= maxNew /\ True /\ True) /\ ((True /\ inK IntKind.i64 q31 /\ True /\ True) /\ True) /\ ∃ (y : Nat), y <= q12 /\ q12 - y < q12 - x_1 /\ q25 ++ q30 = List.take y (Sp.cB x.1) /\ q31 = (↑y : Int) /\ q22) /\ (q26 = false -> (q2 /\ True /\ True) /\ q4 /\ (x.1.1, x.1.2.1, x.1.2.2.1, q18, q19, q15, q17, q25, q20.2) = x.1)) := by kernel_rfl
end Go.User
namespace Sp
noncomputable def eqBlk (a b : Block) : Bool := @decide (a = b) (Classical.propDecidable _)
noncomputable def gC (a b : Code) : Bool := @decide (a = b) (Classical.propDecidable _)
def eqOrd (a b : List (List Int) × Unit) : Bool := decide (a = b)
def eqArrs (a b : List Arr) : Bool := decide (a = b)
def eqLps (a b : List Loop) : Bool := decide (a = b)
noncomputable def eqIns (a b : List Inst) : Bool := @decide (a = b) (Classical.propDecidable _)
def eqInt (a b : List Int) : Bool := decide (a = b)
def mem (l : List Int) (n : Int) : Bool := decide (n ∈ l)
def opI (i : Inst) : Int := i.1
def nI (i : Inst) : Int := i.2.2.1
def dI (i : Inst) : Opd := i.2.2.2.1
def aI (i : Inst) : Opd := i.2.2.2.2.1
def bI (i : Inst) : Opd := i.2.2.2.2.2.1
def cI (i : Inst) : Opd := i.2.2.2.2.2.2.1
def def0 (o : Opd) : Int := if o.1 = 2 then o.2.1 else -1
def defI (i : Inst) : Int := def0 (dI i)
def addN (l : List Int) (n : Int) : List Int := if n ∈ l then l else l.takeWhile (fun v => decide (v < n)) ++ [n] ++ l.dropWhile (fun v => decide (v < n))
def regL : List Opd -> List Int -> List Int
 | [], out => out
 | o :: l, out => regL l (if o.1 = 2 then addN out o.2.1 else out)
def useI (i : Inst) : List Int := regL [aI i, bI i, cI i] []
def idxL (l : List Int) (n : Int) : Int := if n ∈ l then ((l.idxOf n : Nat) : Int) else -1
def hitB (i j : Inst) : Bool := decide (0 <= defI i) && (decide (defI j = defI i) || mem (useI j) (defI i))
def arr0 : Arr := ([], 0, 0, 0, ())
def spc (c : Code) (n : Int) : Int := ((cA c).getD n.toNat arr0).2.1
def arrB (i : Inst) : Bool := decide (opI i = 7) || decide (opI i = 8) || decide (opI i = 9)
def sltB (i : Inst) : Bool := decide (opI i = 11) || decide (opI i = 12)
def strB (i : Inst) : Bool := decide (opI i = 10) || decide (opI i = 9)
def visB (c : Code) (i : Inst) : Bool := strB i || arrB i && !decide (spc c (nI i) = 3)
def headB (a b : Code) : Bool := decide (a.1 = b.1) && decide (a.2.1 = b.2.1) && decide (a.2.2.1 = b.2.2.1) && decide (a.2.2.2.1 = b.2.2.2.1) && decide (a.2.2.2.2.1 = b.2.2.2.2.1) && decide (cA a = cA b) && decide (cL a = cL b)
def ac0 : Acs := (-1, -1, false, false, false, ())
def accI (c : Code) (i : Inst) : Acs :=
 if opI i = 7 ∨ opI i = 8 ∨ opI i = 9 then (nI i, -1, decide (opI i = 7), decide (opI i = 9), !decide (spc c (nI i) = 3), ())
 else if opI i = 11 ∨ opI i = 12 then (-1, nI i, decide (opI i = 11), false, false, ())
 else if opI i = 10 then (-1, -1, false, true, true, ()) else ac0
def accB (a b : Acs) : Bool :=
 (decide (0 <= a.1) && decide (a.1 = b.1) || decide (0 <= a.2.1) && decide (a.2.1 = b.2.1)) && (a.2.2.2.2.1 || !a.2.2.1 || !b.2.2.1) || a.2.2.2.1 && b.2.2.2.2.1 || b.2.2.2.1 && a.2.2.2.2.1
def aY (c : Code) (i j : Inst) : Bool := hitB i j || hitB j i || accB (accI c i) (accI c j)
def bM (c : Code) (i j : Inst) : Bool :=
 hitB i j || hitB j i || arrB i && arrB j && decide (nI i = nI j) && (!decide (opI i = 7) || !decide (opI j = 7) || visB c i) || sltB i && sltB j && decide (nI i = nI j) && (!decide (opI i = 11) || !decide (opI j = 11)) || strB i && visB c j || strB j && visB c i
end Sp
namespace Go.User
open Go.Lf
def gA (c : Sp.Code) (i : Sp.Inst) : Prop := (Sp.opI i = 7 ∨ Sp.opI i = 8 ∨ Sp.opI i = 9) -> 0 <= Sp.nI i /\ Sp.nI i < ((Sp.cA c).length : Int)
def eqL {α : Type} (a b : List α) (s : Nat) (keep : List Nat) : aW := { ι := Nat, inv := fun i => i <= a.length /\ a.length = b.length /\ a.take i = b.take i, dec := fun i => a.length - i, ovr := fun i => [(s, .shr tI (i : Int))], keep := keep }
def S26 : bG := { args := [.val (.slice tI), .val (.slice tI)], multi := false, res := .bool, mode := .shr, pre := fun _ => True, fn := fun x => Sp.eqInt x.1 x.2.1 }
def C26 : Ctx := mkC 26 []
def L26 (x : aN S26.args) : List aW := [eqL (α := Int) x.1 x.2.1 5 [0, 1]]
noncomputable def S30 : bG := { args := [.val fY, .val fY], multi := false, res := .bool, mode := .shr, pre := fun _ => True, fn := fun x => Sp.eqBlk x.1 x.2.1 }
def C30 : Ctx := mkC 38 []
def L30 (x : aN S30.args) : List aW := [eqL (α := Sp.Inst) x.1.1 x.2.1.1 5 [2, 3]]
def S24 : bG := { args := [.val bT, .val bT], multi := false, res := .bool, mode := .shr, pre := fun _ => True, fn := fun x => Sp.headB x.1 x.2.1 }
def C24 : Ctx := mkC 94 []
def L24 (x : aN S24.args) : List aW := [eqL (Sp.cA x.1) (Sp.cA x.2.1) 5 [2, 3], eqL (Sp.cL x.1) (Sp.cL x.2.1) 6 [2, 3]]
noncomputable def S13 : bG := { args := [.val bT, .val bT], multi := false, res := .bool, mode := .shr, pre := fun _ => True, fn := fun x => Sp.gC x.1 x.2.1 }
noncomputable def C13 : Ctx := mkC 38 [(24, S24), (30, S30)]
def L13 (x : aN S13.args) : List aW := [eqL (Sp.cB x.1) (Sp.cB x.2.1) 5 [2, 3]]
def S12 : bG := { args := [.val fW, .val fW], multi := false, res := .bool, mode := .shr, pre := fun _ => True, fn := fun x => Sp.eqOrd x.1 x.2.1 }
def C12 : Ctx := mkC 32 [(26, S26)]
def L12 (x : aN S12.args) : List aW := [eqL (α := List Int) x.1.1 x.2.1.1 5 [2, 3]]
def S38 : bG := { args := [.val (.slice tI), .val tI], multi := false, res := .bool, mode := .shr, pre := fun _ => True, fn := fun x => Sp.mem x.1 x.2.1 }
def C38 : Ctx := mkC 18 []
def L38 (x : aN S38.args) : List aW := [{ ι := Nat, inv := fun i => i <= List.length x.1 /\ (x.2.1 : Int) ∉ List.take i x.1, dec := fun i => List.length x.1 - i, ovr := fun i => [(5, .shr tI (i : Int))], keep := [0, 1] }]
def S69 : bG := { args := [.val (.slice tI), .val tI], multi := false, res := tI, mode := .shr, pre := fun _ => True, fn := fun x => Sp.idxL x.1 x.2.1 }
def C69 : Ctx := mkC 19 []
def L69 (x : aN S69.args) : List aW := [{ ι := Nat, inv := fun i => i <= List.length x.1 /\ (x.2.1 : Int) ∉ List.take i x.1, dec := fun i => List.length x.1 - i, ovr := fun i => [(8, .shr tI (i : Int)), (7, .shr tI (List.length x.1 : Int))], keep := [0, 1] }]
def S61 : bG := { args := [.val (.slice tI), .val tI], multi := false, res := .bool, mode := .shr, pre := fun _ => True, fn := fun x => Sp.mem x.1 x.2.1 }
def C61 : Ctx := mkC 9 [(69, S69)]
def L61 (x : aN S61.args) : List aW := []
def eqR {α : Type} (a b : List α) : aW := { ι := Nat, inv := fun i => i <= a.length /\ a.length = b.length /\ a.take i = b.take i, dec := fun i => a.length - i, ovr := fun i => [(13, .shr tI (i : Int)), (12, .shr tI (a.length : Int))], keep := [0, 1] }
def S39 : bG := { args := [.val (.slice cG), .val (.slice cG)], multi := false, res := .bool, mode := .shr, pre := fun _ => True, fn := fun x => Sp.eqArrs x.1 x.2.1 }
def C39 : Ctx := mkC 26 []
def L39 (x : aN S39.args) : List aW := [eqR (α := Sp.Arr) x.1 x.2.1]
def S40 : bG := { args := [.val (.slice bF), .val (.slice bF)], multi := false, res := .bool, mode := .shr, pre := fun _ => True, fn := fun x => Sp.eqLps x.1 x.2.1 }
def C40 : Ctx := mkC 26 []
def L40 (x : aN S40.args) : List aW := [eqR (α := Sp.Loop) x.1 x.2.1]
noncomputable def S42 : bG := { args := [.val (.slice aL), .val (.slice aL)], multi := false, res := .bool, mode := .shr, pre := fun _ => True, fn := fun x => Sp.eqIns x.1 x.2.1 }
def C42 : Ctx := mkC 26 []
def L42 (x : aN S42.args) : List aW := [eqR (α := Sp.Inst) x.1 x.2.1]
def S56 : bG := { args := [.val (.slice cG)], multi := false, res := .slice cG, mode := .own .shr, pre := fun x => List.length x.1 <= 5000, fn := fun x => x.1 }
def C56 : Ctx := mkC 8 []
def L56 (x : aN S56.args) : List aW := []
def S57 : bG := { args := [.val (.slice bF)], multi := false, res := .slice bF, mode := .own .shr, pre := fun x => List.length x.1 <= 5000, fn := fun x => x.1 }
def C57 : Ctx := mkC 8 []
def L57 (x : aN S57.args) : List aW := []
def S58 : bG := { args := [.val (.slice fY)], multi := false, res := .slice fY, mode := .own .shr, pre := fun x => List.length x.1 <= 5000, fn := fun x => x.1 }
def C58 : Ctx := mkC 8 []
def L58 (x : aN S58.args) : List aW := []
def S68 : bG := { args := [.val aQ], multi := false, res := tI, mode := .shr, pre := fun _ => True, fn := fun x => Sp.def0 x.1 }
def C68 : Ctx := mkC 8 []
def L68 (x : aN S68.args) : List aW := []
def S60 : bG := { args := [.val aL], multi := false, res := tI, mode := .shr, pre := fun _ => True, fn := fun x => Sp.defI x.1 }
def C60 : Ctx := mkC 6 [(68, S68)]
def L60 (x : aN S60.args) : List aW := []
def S63 : bG := { args := [.val aL], multi := false, res := tI, mode := .shr, pre := fun _ => True, fn := fun x => Sp.defI x.1 }
def C63 : Ctx := mkC 10 []
def L63 (x : aN S63.args) : List aW := []
def S34 : bG := { args := [.val aL], multi := false, res := .bool, mode := .shr, pre := fun _ => True, fn := fun x => Sp.arrB x.1 }
def C34 : Ctx := mkC 16 []
def L34 (x : aN S34.args) : List aW := []
def S36 : bG := { args := [.val aL], multi := false, res := .bool, mode := .shr, pre := fun _ => True, fn := fun x => Sp.sltB x.1 }
def C36 : Ctx := mkC 11 []
def L36 (x : aN S36.args) : List aW := []
def S37 : bG := { args := [.val aL], multi := false, res := .bool, mode := .shr, pre := fun _ => True, fn := fun x => Sp.strB x.1 }
def C37 : Ctx := mkC 11 []
def L37 (x : aN S37.args) : List aW := []
def S35 : bG := { args := [.val bT, .val aL], multi := false, res := .bool, mode := .shr, pre := fun x => gA x.1 x.2.1, fn := fun x => Sp.visB x.1 x.2.1 }
def C35 : Ctx := mkC 21 [(37, S37), (34, S34)]
def L35 (x : aN S35.args) : List aW := []
def S75 : bG := { args := [.val (.slice tI), .val tI], multi := false, res := .slice tI, mode := .shr, pre := fun x => List.length x.1 <= 5000, fn := fun x => Sp.addN x.1 x.2.1 }
def C75 : Ctx := mkC 36 [(38, S38)]
def L75 (x : aN S75.args) : List aW := [{ ι := Nat, inv := fun i => i <= (List.takeWhile (fun v => decide (v < (x.2.1 : Int))) x.1).length, dec := fun i => List.length x.1 - i, ovr := fun i => [(5, .shr tI (i : Int))], keep := [0, 1] }]
def S71 : bG := { args := [.val (.slice aQ)], multi := false, res := .slice tI, mode := .shr, pre := fun x => List.length x.1 <= 1000, fn := fun x => Sp.regL x.1 [] }
def C71 : Ctx := { mkC 26 [(75, S75)] with frz := [5] }
def L71 (x : aN S71.args) : List aW := [{ ι := Nat × List Int, inv := fun t => t.1 <= List.length x.1 /\ t.2.length <= t.1 /\ Sp.regL (List.drop t.1 x.1) t.2 = Sp.regL x.1 [], dec := fun t => List.length x.1 - t.1, ovr := fun t => [(3, .shr (.slice tI) t.2), (4, .shr tI (t.1 : Int))], keep := [0] }]
def S64 : bG := { args := [.val aL], multi := false, res := .slice tI, mode := .shr, pre := fun _ => True, fn := fun x => Sp.useI x.1 }
def C64 : Ctx := { mkC 11 [(71, S71)] with frz := [9] }
def L64 (x : aN S64.args) : List aW := []
def S33 : bG := { args := [.val aL, .val aL], multi := false, res := .bool, mode := .shr, pre := fun _ => True, fn := fun x => Sp.hitB x.1 x.2.1 }
def C33 : Ctx := mkC 22 [(63, S63), (38, S38), (64, S64)]
def L33 (x : aN S33.args) : List aW := []
def S15 : bG := { args := [.val bT, .val aL, .val aL], multi := false, res := .bool, mode := .shr, pre := fun x => gA x.1 x.2.1 /\ gA x.1 x.2.2.1, fn := fun x => Sp.bM x.1 x.2.1 x.2.2.1 }
def C15 : Ctx := mkC 82 [(33, S33), (34, S34), (35, S35), (36, S36), (37, S37)]
def L15 (x : aN S15.args) : List aW := []
def S62 : bG := { args := [.val aL], multi := false, res := .slice tI, mode := .shr, pre := fun _ => True, fn := fun x => Sp.useI x.1 }
def S70 : bG := { args := [.val (.slice aQ)], multi := false, res := .slice tI, mode := .shr, pre := fun x => List.length x.1 <= 3, fn := fun x => Sp.regL x.1 [] }
def C62 : Ctx := { mkC 11 [(70, S70)] with frz := [9] }
def L62 (x : aN S62.args) : List aW := []
def S32 : bG := { args := [.val aL, .val aL], multi := false, res := .bool, mode := .shr, pre := fun _ => True, fn := fun x => Sp.hitB x.1 x.2.1 }
def C32 : Ctx := mkC 22 [(60, S60), (61, S61), (62, S62)]
def L32 (x : aN S32.args) : List aW := []
def S31 : bG := { args := [.val bT, .val aL], multi := false, res := tAcs, mode := .shr, pre := fun x => gA x.1 x.2.1, fn := fun x => Sp.accI x.1 x.2.1 }
def C31 : Ctx := mkC 48 []
def L31 (x : aN S31.args) : List aW := []
def S14 : bG := { args := [.val bT, .val aL, .val aL], multi := false, res := .bool, mode := .shr, pre := fun x => gA x.1 x.2.1 /\ gA x.1 x.2.2.1, fn := fun x => Sp.aY x.1 x.2.1 x.2.2.1 }
def C14 : Ctx := mkC 79 [(31, S31), (32, S32)]
def L14 (x : aN S14.args) : List aW := []
end Go.User
