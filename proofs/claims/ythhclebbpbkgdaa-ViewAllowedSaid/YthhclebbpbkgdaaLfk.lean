/- slices.Repeat of one element is as it should be. slices.Insert of one outcome: what it does, road by road. Operations one by one: for bodies that are walked by hand. slices.Insert of one outcome is as it should be. Written by gen.py: what is left to show of each function. The search visits all states. Written by gen.py: what is left to show of each function. Valid tests, the state at first: as they should be. A closure that captures the variable that it is put into: how it comes to be. A body that makes a closure which captures its own variable: from its proposition to its contract. All outcomes: what is computed. Written by gen.py: what is left to show of each function. All outcomes: as they should be. The examples: what is computed. Written by gen.py: what is left to show of each function. The examples are as they should be. Tests out of bytes, whether a test is valid: the reference: what is computed. Written by gen.py: what is left to show of each function. Tests out of bytes, whether a test is valid: as they should be. Whether a test is valid: the reference: as it should be. ViewRefuses: what is computed. ViewRefuses: what is computed. The reference's state at first: what is computed. -/
import Derived.Test.YthhclebbpbkgdaaLfj
import Derived.Lib.Overlaps
set_option linter.unusedVariables false
set_option linter.unusedSimpArgs false
namespace Go.User
open Go Go.Proofs Go.RowKit Go.Lf
theorem rep_drop (V : List Value) : ∀ (i c : Nat), ((List.replicate c V).flatten).drop (i * V.length) = (List.replicate (c - i) V).flatten
 | 0, c => by simp
 | i + 1, 0 => by simp
 | i + 1, c + 1 => by
  have := rep_drop V i c
  rw [show (i + 1) * V.length = V.length + i * V.length from by rw [Nat.succ_mul, Nat.add_comm], <- List.drop_drop, List.replicate_succ, List.flatten_cons, List.drop_left, this, show c + 1 - (i + 1) = c - i from by omega]
theorem rep_seg {V : List Value} {i c : Nat} (h : i < c) : seg ((List.replicate c V).flatten) (i * V.length) V.length = V := by
 unfold seg
 rw [rep_drop]
 obtain ⟨m, hm⟩ : ∃ m, c - i = m + 1 := ⟨c - i - 1, by omega⟩
 rw [hm, List.replicate_succ, List.flatten_cons, List.take_left]
theorem rep_post {F : aA} {w' : World} {e : Ty} {V : List Value} (hV : V.length = e.size) {x0 : e.den} (hown : Own F w' e .shr none' V x0) {c N : Nat} {T : TypeId} (hh : w'.heap[N]? = some (.cells ((List.replicate c V).flatten).toArray T (0, 0))) (hc : c <= 6) :
  aP F w' (.slice e) (.own .shr) (fun b => b = N) (.slice (some ⟨N, 0, none⟩) c c) (List.replicate c x0) := by
 refine ⟨[.slice (some ⟨N, 0, none⟩) c c], rfl, some ⟨N, 0, none⟩, c, by rw [List.length_replicate], by rw [List.length_replicate]; exact Nat.le_refl _, by rw [List.length_replicate]; unfold lim; omega,
  .inr ⟨N, 0, _, T, fun _ => none', rfl, rfl, hh, ?_, fun _ _ h => h.elim, fun _ h => h.elim, fun _ _ _ _ h => h.elim, fun i x h => ?_⟩⟩
 ·simp only [List.size_toArray, List.length_flatten, List.map_replicate, List.sum_replicate_nat, hV]; omega
 ·rw [List.getElem?_replicate] at h
  split at h
  ·rename_i hi
   injection h with h;subst h;have := rep_seg (V := V) hi;rw [hV] at this;simp only [Nat.zero_add];rw [this]; exact hown
  ·cases h
theorem one_cells {F : aA} {w : World} {e : Ty} {v : Value} {xs : List e.den} (h : aP F w (.slice e) .shr none' v xs) (hl : xs.length = 1) :
  ∃ b off cap cs, v = .slice (some ⟨b, off, none⟩) 1 cap /\ F b /\ Own F w e .shr none' cs (xs.getD 0 e.dflt) /\ cs.length = e.size /\ ∀ j u, cs[j]? = some u -> w.cell? ((⟨b, off, none⟩ : Addr).add j) = some u := by
 obtain ⟨cs, rfl, ao, cap, rfl, h1, h2, h3⟩ := h
 rcases h3 with h3 | ⟨b, off, row, T, fr, rfl, hb, hr, hsz, hel⟩
 ·rw [h3] at hl; cases hl
 ·rw [hl] at hsz
  have h0 : xs[0]? = some (xs.getD 0 e.dflt) := by
   rw [List.getD_eq_getElem?_getD, List.getElem?_eq_getElem (show 0 < xs.length by omega)]; rfl
  have ho := hel 0 _ h0
  rw [Nat.zero_mul, Nat.add_zero] at ho;refine ⟨b, off, cap, _, by rw [hl]; rfl, hb, ho, ho.len, fun j u hj => ?_⟩
  have e1 : (⟨b, off, none⟩ : Addr).add j = ⟨b, off + j, none⟩ := by unfold Addr.add; split <;> simp_all
  rw [e1];simp only [World.cell?, hr];unfold seg at hj;rw [List.getElem?_take] at hj;split at hj
  ·rw [List.getElem?_drop] at hj
   simpa using hj
  ·cases hj
theorem rep_end {F : aA} {w w' : World} {e : Ty} {V : List Value} (hF : ∀ b, F b -> b < w.heap.size) (hV : V.length = e.size) {x0 : e.den} (hfl : e.flat = true) (hown : Own F w e .shr none' V x0) {c : Nat} {T : TypeId}
  {en : Ending} (h1 : en = .returned (.slice (some ⟨w.heap.size, 0, none⟩) c c)) (h2 : Below w.heap.size w w') (hh : w'.heap[w.heap.size]? = some (.cells ((List.replicate c V).flatten).toArray T (0, 0))) (hs : w'.heap.size = w.heap.size + 1) (hc : c <= 6) :
  Post F w false (.slice e) (.own .shr) (List.replicate c x0) en w' := by
 refine ⟨_, F, fun b => b = w.heap.size, h1, h2, fun _ h => h, fun b h h' => absurd h h', ?_, ?_, rep_post hV (Own.flat hfl hown) hh hc⟩
 ·rintro b (h | rfl)
  ·have := hF b h; omega
  ·omega
 ·rintro b rfl
  exact ⟨Nat.le_refl _, fun h => by have := hF _ h; omega⟩
theorem ok45 : FOk Try.prog 45 S45 := by
 refine ⟨Try.call45, fun w F vs xs hF hargs hpre => ?_⟩
 obtain ⟨l, n, u⟩ := xs
 obtain ⟨hl, h0, h6⟩ : List.length l = 1 /\ 1 <= n /\ n <= 6 := hpre
 obtain ⟨v1, r1, rfl, a1, v2, r2, rfl, a2, rfl⟩ := hargs
 have a1 : aP F w (.slice tI) .shr none' v1 l := a1
 have a2 : aP F w tI .shr none' v2 n := a2
 obtain ⟨b, off, cap, cs, rfl, hb, ho, hcl, hc⟩ := one_cells a1 hl
 obtain ⟨rfl, -, -⟩ := a2.int_eq
 have hcs : cs = [.int .i64 (l.getD 0 0)] := ho.1
 have ho' : Own F w tI .shr none' [.int .i64 (l.getD 0 0)] (l.getD 0 0) := by rw [<- hcs]; exact ho
 rw [hcs] at hc
 obtain ⟨m, rfl⟩ := Int.eq_ofNat_of_zero_le (Int.le_trans (by decide) h0)
 have h0 : 1 <= (m : Int) := h0
 have h6 : (m : Int) <= 6 := h6
 have hm : m = 1 ∨ m = 2 ∨ m = 3 ∨ m = 4 ∨ m = 5 ∨ m = 6 := by omega
 rcases hm with rfl | rfl | rfl | rfl | rfl | rfl
 ·exact (rep45_1 w b off cap _ hc (hF b hb)).mono fun e w' ⟨h1, h2, h3, h4⟩ => rep_end hF rfl rfl ho' h1 h2 h3 h4 (Nat.le_of_ble_eq_true rfl)
 ·exact (rep45_2 w b off cap _ hc (hF b hb)).mono fun e w' ⟨h1, h2, h3, h4⟩ => rep_end hF rfl rfl ho' h1 h2 h3 h4 (Nat.le_of_ble_eq_true rfl)
 ·exact (rep45_3 w b off cap _ hc (hF b hb)).mono fun e w' ⟨h1, h2, h3, h4⟩ => rep_end hF rfl rfl ho' h1 h2 h3 h4 (Nat.le_of_ble_eq_true rfl)
 ·exact (rep45_4 w b off cap _ hc (hF b hb)).mono fun e w' ⟨h1, h2, h3, h4⟩ => rep_end hF rfl rfl ho' h1 h2 h3 h4 (Nat.le_of_ble_eq_true rfl)
 ·exact (rep45_5 w b off cap _ hc (hF b hb)).mono fun e w' ⟨h1, h2, h3, h4⟩ => rep_end hF rfl rfl ho' h1 h2 h3 h4 (Nat.le_of_ble_eq_true rfl)
 ·exact (rep45_6 w b off cap _ hc (hF b hb)).mono fun e w' ⟨h1, h2, h3, h4⟩ => rep_end hF rfl rfl ho' h1 h2 h3 h4 (Nat.le_of_ble_eq_true rfl)
theorem ok44 : FOk Try.prog 44 S44 := by
 refine ⟨Try.call44, fun w F vs xs hF hargs hpre => ?_⟩
 obtain ⟨l, n, u⟩ := xs
 obtain ⟨hl, h0, h6⟩ : List.length l = 1 /\ 1 <= n /\ n <= 4 := hpre
 obtain ⟨v1, r1, rfl, a1, v2, r2, rfl, a2, rfl⟩ := hargs
 have a1 : aP F w (.slice tV3) .shr none' v1 l := a1
 have a2 : aP F w tI .shr none' v2 n := a2
 obtain ⟨b, off, cap, cs, rfl, hb, ho, hcl, hc⟩ := one_cells a1 hl
 obtain ⟨rfl, -, -⟩ := a2.int_eq
 have hdf : l.getD 0 tV3.dflt = l.getD 0 [] := by
  rw [List.getD_eq_getElem?_getD, List.getD_eq_getElem?_getD, List.getElem?_eq_getElem (show 0 < l.length by omega)]; rfl
 rw [hdf] at ho
 obtain ⟨hx3, hc3, Si, hS1, hS2, hel⟩ := ho
 obtain ⟨p0, p1, p2, hp⟩ : ∃ p0 p1 p2 : Int, l.getD 0 [] = [p0, p1, p2] := by
  match hx : l.getD 0 [], hx3 with
  | [p0, p1, p2], _ => exact ⟨p0, p1, p2, rfl⟩
 have ho : Own F w tV3 .shr none' cs [p0, p1, p2] := ⟨rfl, hc3, Si, hS1, hS2, fun i x h => hel i x (by rw [hp]; exact h)⟩
 match cs, hc3 with
 | [c0, c1, c2], _ =>
  have q0 := (hel 0 p0 (by rw [hp]; rfl)).1
  have q1 := (hel 1 p1 (by rw [hp]; rfl)).1
  have q2 := (hel 2 p2 (by rw [hp]; rfl)).1
  have q0 : [c0] = [Value.int .i64 p0] := q0
  have q1 : [c1] = [Value.int .i64 p1] := q1
  have q2 : [c2] = [Value.int .i64 p2] := q2
  injection q0 with e0 _;injection q1 with e1 _;injection q2 with e2 _;subst e0 e1 e2;obtain ⟨m, rfl⟩ := Int.eq_ofNat_of_zero_le (Int.le_trans (by decide) h0);have h0 : 1 <= (m : Int) := h0;have h6 : (m : Int) <= 4 := h6;show Calls _ _ _ _ (Post F w false (.slice tV3) (.own .shr) (List.replicate m (l.getD 0 [])));rw [hp];have hm : m = 1 ∨ m = 2 ∨ m = 3 ∨ m = 4 := by omega
  rcases hm with rfl | rfl | rfl | rfl
  ·exact (rep44_1 w b off cap _ _ _ hc (hF b hb)).mono fun e w' ⟨h1, h2, h3, h4⟩ => rep_end (e := tV3) hF rfl rfl ho h1 h2 h3 h4 (Nat.le_of_ble_eq_true rfl)
  ·exact (rep44_2 w b off cap _ _ _ hc (hF b hb)).mono fun e w' ⟨h1, h2, h3, h4⟩ => rep_end (e := tV3) hF rfl rfl ho h1 h2 h3 h4 (Nat.le_of_ble_eq_true rfl)
  ·exact (rep44_3 w b off cap _ _ _ hc (hF b hb)).mono fun e w' ⟨h1, h2, h3, h4⟩ => rep_end (e := tV3) hF rfl rfl ho h1 h2 h3 h4 (Nat.le_of_ble_eq_true rfl)
  ·exact (rep44_4 w b off cap _ _ _ hc (hF b hb)).mono fun e w' ⟨h1, h2, h3, h4⟩ => rep_end (e := tV3) hF rfl rfl ho h1 h2 h3 h4 (Nat.le_of_ble_eq_true rfl)
end Go.User
namespace Go.User
open Go Go.Proofs Go.RowKit Go.Lib
set_option maxHeartbeats 4000000 in
set_option maxRecDepth 100000 in
theorem ins_end (w : World) (ao : Option Addr) (n cap vb voff vc : Nat) (R : Value) (w1 : World) (hap : (Builtin.append_ #[29, 29] 29 #[.slice ao n cap, .slice (some ⟨vb, voff, none⟩) 1 vc]).run Try.prog w = .ok R w1) (hnc : n <= cap) (hnil : ao = none -> cap = 0) :
  Calls Try.prog 74 #[.slice ao n cap, .int .i64 n, .slice (some ⟨vb, voff, none⟩) 1 vc] w fun e w' => e = .returned R /\ w' = w1 := by
 have mixed : Try.prog.follows .mixedOrders = true := (okA fns_nil : Go.Lf.aJ Try.prog (mkC 0 [])).mixed
 go_enter Try.func74, Try.ntmps74
 cases ao with
 | none =>
  have h0 := hnil rfl
  subst h0;obtain rfl : n = 0 := by omega
  go_wp2_with (at_builtin; refine Lib.wpList_append_run _ rfl _ _ _ _ rfl _ _ rfl rfl _ _ hap ?_)
  all_goals (go_ret; exact ⟨rfl, rfl⟩)
 | some a =>
  obtain ⟨ab, ao, asp⟩ := a
  go_wp2_with (at_builtin; refine Lib.wpList_append_run _ rfl _ _ _ _ rfl _ _ rfl rfl _ _ hap ?_)
  all_goals (go_ret; exact ⟨rfl, rfl⟩)

theorem add_lit2 (b o j : Nat) : (⟨b, o, none⟩ : Addr).add j = ⟨b, o + j, none⟩ := by unfold Addr.add; split <;> simp_all
theorem row_cell' {W : World} {g o : Nat} {cur cs : List Value} {t : TypeId} (hg : W.heap[g]? = some (.cells cur.toArray t (0, 0))) (h : ∀ j u, cs[j]? = some u -> cur[o + j]? = some u) : ∀ j u, cs[j]? = some u -> W.cell? ((⟨g, o, none⟩ : Addr).add j) = some u := by
 intro j u hj
 rw [add_lit2]
 simp only [World.cell?, hg, List.getElem?_toArray]
 exact h j u hj
theorem copy_ex2 {P : Program} (W : World) (dT sT elem : TypeId) (g o dLen dCap : Nat) (a : Addr) (sLen sCap es k : Nat) (cur : List Value) (t : TypeId) (cs : List Value)
  (hu : P.underlying dT = some (.slice elem)) (hs : (P.info? elem).map (·.size) = some es) (hk : Nat.min sLen dLen = k)
  (hg : W.heap[g]? = some (.cells cur.toArray t (0, 0))) (hn : cs.length = k * es)
  (hsrc : ∀ j v, cs[j]? = some v -> W.cell? (a.add j) = some v) (hfit : o + cs.length <= cur.length) (h1 : ∀ v ∈ cs, v.oneCell' = true) :
  ∃ W', (∀ ty, (Builtin.copy_ #[dT, sT] ty #[.slice (some ⟨g, o, none⟩) dLen dCap, .slice (some a) sLen sCap]).run P W = .ok (goInt k) W') /\ W'.heap[g]? = some (.cells (cur.take o ++ cs ++ cur.drop (o + cs.length)).toArray t (0, 0)) /\
   W'.heap.size = W.heap.size /\ (∀ j, j ≠ g -> W'.heap[j]? = W.heap[j]?) /\ W'.os = W.os /\ W'.tape = W.tape /\ W'.output = W.output := by
 subst hk
 refine ⟨_, fun ty => run_copy_k W dT sT ty elem g o dLen dCap a sLen sCap es cur.toArray t cs hu hs hg hn hsrc (by simpa using hfit) h1, ?_, ?_, ?_, rfl, rfl, rfl⟩
 ·simpa using setRow_heap W g _ _ t _ hg
 ·simp [World.setRow]
 ·intro j hj; exact setRow_other W g j _ hj
set_option maxHeartbeats 8000000 in
set_option maxRecDepth 100000 in
theorem ins_shift (w : World) (b off n c i vb voff vc : Nat) (row V : List Value) (T : TypeId) (hi : i < n) (hroom : n + 1 <= c) (hn : n <= 500000000) (hvb : vb ≠ b) (hrow : w.heap[b]? = some (.cells row.toArray T (0, 0))) (hsz : off + c * 2 <= row.length)
  (h1 : ∀ v ∈ (row.drop (off + i * 2)).take ((n - i) * 2), v.oneCell' = true) (hV : V.length = 2) (h1V : ∀ v ∈ V, v.oneCell' = true) (vrow : List Value) (TV : TypeId) (hvrow : w.heap[vb]? = some (.cells vrow.toArray TV (0, 0))) (hvs : ∀ j u, V[j]? = some u -> vrow[voff + j]? = some u) :
  Calls Try.prog 74 #[.slice (some ⟨b, off, none⟩) n c, .int .i64 i, .slice (some ⟨vb, voff, none⟩) 1 vc] w fun e w' => e = .returned (.slice (some ⟨b, off, none⟩) (n + 1) c) /\
   w'.os = w.os /\ w'.tape = w.tape /\ w'.output = w.output /\ w'.heap.size = w.heap.size /\ (∀ k, k ≠ b -> w'.heap[k]? = w.heap[k]?) /\
   w'.heap[b]? = some (.cells (((row.take (off + (i + 1) * 2) ++ (row.drop (off + i * 2)).take ((n - i) * 2) ++ row.drop (off + (i + 1) * 2 + (n - i) * 2)).take (off + i * 2)) ++ V ++ (row.take (off + (i + 1) * 2) ++ (row.drop (off + i * 2)).take ((n - i) * 2) ++ row.drop (off + (i + 1) * 2 + (n - i) * 2)).drop (off + i * 2 + 2)).toArray T (0, 0)) := by
 have mixed : Try.prog.follows .mixedOrders = true := (okA fns_nil : Go.Lf.aJ Try.prog (mkC 0 [])).mixed
 have hs46 : (Try.prog.info? 46).map (·.size) = some 2 := by kernel_rfl
 have hz2 : ¬ ((i : Int) = (n : Int)) := by omega
 have hov : ∀ lb cb, (callFunc 92 #[.slice (some ⟨vb, voff, none⟩) 1 vc, .slice (some ⟨b, off + (i + 1) * 2, none⟩) lb cb]).run Try.prog w = .ok (.value (.bool false)) w := fun lb cb => by
  rw [run_callFunc_extern Try.func92 (by kernel_rfl) (by kernel_rfl) (by kernel_rfl) (e := Extern.SlicesOverlaps.overlaps #[29, 29] #[4]) (by kernel_rfl),
   Lib.run_overlaps_apart w 29 4 46 Try.underlying29 2 Try.sizeOf46 ⟨vb, voff, none⟩ ⟨b, off + (i + 1) * 2, none⟩ 1 vc lb cb hvb TV T vrow.length row.length (by simp [World.shape?, hvrow]) (by simp [World.shape?, hrow]) (by omega) (by simp [World.frozen?, hvrow]) (by simp [World.frozen?, hvrow])]
  rfl
 have hb2 : ¬ (c = i + 1) := by omega
 have hb4 : ¬ (c = i) := by omega
 have hcl : ((row.drop (off + i * 2)).take ((n - i) * 2)).length = (n - i) * 2 := by rw [List.length_take, List.length_drop]; omega
 have hdrow : w.drew.heap[b]? = some (.cells row.toArray T (0, 0)) := hrow
 obtain ⟨W1, hc1, hr1, hs1, ho1, q1, q2, q3⟩ := copy_ex2 (P := Try.prog) w.drew 29 29 46 b (off + (i + 1) * 2) (n + 1 - (i + 1)) (c - (i + 1)) ⟨b, off + i * 2, none⟩ (n + 1 - i) (c - i) 2 (n - i) row T ((row.drop (off + i * 2)).take ((n - i) * 2)) Try.underlying29 hs46 (by simp only [Nat.min_def]; split <;> omega) hdrow hcl
  (row_cell' hdrow (by intro j u hj; rw [List.getElem?_take] at hj; split at hj; rwa [List.getElem?_drop] at hj; cases hj)) (by rw [hcl]; omega) h1
 rw [hcl] at hr1
 obtain ⟨row1, hrow1⟩ : ∃ row1, row1 = row.take (off + (i + 1) * 2) ++ (row.drop (off + i * 2)).take ((n - i) * 2) ++ row.drop (off + (i + 1) * 2 + (n - i) * 2) := ⟨_, rfl⟩
 rw [<- hrow1] at hr1 ⊢
 have hl1 : row1.length = row.length := by
  rw [hrow1, List.length_append, List.length_append, hcl, List.length_take, List.length_drop]; omega
 have hvW : W1.heap[vb]? = some (.cells vrow.toArray TV (0, 0)) := by rw [ho1 vb hvb]; exact hvrow
 obtain ⟨W2, hc2, hr2, hs2, ho2, q4, q5, q6⟩ := copy_ex2 (P := Try.prog) W1 29 29 46 b (off + i * 2) (n + 1 - i) (c - i) ⟨vb, voff, none⟩ 1 vc 2 1 row1 T V Try.underlying29 hs46 (by simp only [Nat.min_def]; split <;> omega) hr1 hV
  (row_cell' hvW hvs) (by rw [hV, hl1]; omega) h1V
 rw [hV] at hr2
 have hw1 : IntKind.i64.wrap ((i : Int) + 1) = (i : Int) + 1 := by rw [IntKind.wrap_i64]; omega
 have hb1 : (0 : Int) <= (i : Int) + 1 := by omega
 have hin : i <= n := by omega
 have htn : ((i : Int) + 1).toNat = i + 1 := by omega
 have hb3 : (i : Int) <= (n : Int) + 1 := by omega
 have e1 : W2.os = w.os := q4.trans q1
 have e2 : W2.tape = w.tape := q5.trans q2
 have e3 : W2.output = w.output := q6.trans q3
 have e4 : W2.heap.size = w.heap.size := hs2.trans hs1
 have e5 : ∀ k, k ≠ b -> W2.heap[k]? = w.heap[k]? := fun k hk => (ho2 k hk).trans (ho1 k hk)
 clear hrow1 hr1 hcl hvW hl1 hs1 ho1 q1 q2 q3 hdrow
 go_enter Try.func74, Try.ntmps74
 go_wp2_with (simp only [hov])
 go_region_law_o (refine step_copy_runI rfl _ _ 29 29 rfl _ _ (by simp [Act.eval, Act.put]) (by simp [Act.eval, Act.put]) (hc1 _) ?_)
 go_wp2_with (at_builtin; refine wpList_copy_runI _ rfl _ _ 29 29 rfl _ _ rfl rfl (hc2 _) ?_)
 go_ret
 exact ⟨rfl, e1, e2, e3, e4, e5, hr2⟩
set_option maxHeartbeats 8000000 in
set_option maxRecDepth 100000 in
theorem ins_grow (w : World) (b off n c i vb voff vc : Nat) (row V : List Value) (T : TypeId) (hi : i < n) (hnc : n <= c) (hroom : c < n + 1) (hn : n <= 500000000) (hrow : w.heap[b]? = some (.cells row.toArray T (0, 0))) (hsz : off + c * 2 <= row.length)
  (h1 : ∀ v ∈ (row.drop (off + i * 2)).take ((n - i) * 2), v.oneCell' = true) (hV : V.length = 2) (h1V : ∀ v ∈ V, v.oneCell' = true) (vrow : List Value) (TV : TypeId) (hvrow : w.heap[vb]? = some (.cells vrow.toArray TV (0, 0))) (hvs : ∀ j u, V[j]? = some u -> vrow[voff + j]? = some u) :
  Calls Try.prog 74 #[.slice (some ⟨b, off, none⟩) n c, .int .i64 i, .slice (some ⟨vb, voff, none⟩) 1 vc] w fun e w' => ∃ G Z, n + 1 <= G /\ Z.length = (G - (n + 1)) * 2 /\ e = .returned (.slice (some ⟨w.heap.size, 0, none⟩) (n + 1) G) /\
   w'.os = w.os /\ w'.tape = w.tape /\ w'.output = w.output /\ w'.heap.size = w.heap.size + 1 /\ (∀ k, k ≠ w.heap.size -> w'.heap[k]? = w.heap[k]?) /\
   w'.heap[w.heap.size]? = some (.cells ((row.drop off).take (i * 2) ++ V ++ (row.drop (off + i * 2)).take ((n - i) * 2) ++ Z).toArray 46 (0, 0)) := by
 have mixed : Try.prog.follows .mixedOrders = true := (okA fns_nil : Go.Lf.aJ Try.prog (mkC 0 [])).mixed
 have hs46 : (Try.prog.info? 46).map (·.size) = some 2 := by kernel_rfl
 obtain ⟨i0, hi0, hz0, hzs, hzb⟩ : ∃ i0, Try.prog.info? 46 = some i0 /\ i0.zero = some (.agg #[.slice none 0 0, .slice none 0 0]) /\ i0.size = 2 /\ i0.bytes = 48 := ⟨_, rfl, rfl, rfl, rfl⟩
 have hbw : b < w.heap.size := by
  rcases Nat.lt_or_ge b w.heap.size with h | h
  ·exact h
  ·rw [Array.getElem?_eq_none h] at hrow; cases hrow
 have hvw : vb < w.heap.size := by
  rcases Nat.lt_or_ge vb w.heap.size with h | h
  ·exact h
  ·rw [Array.getElem?_eq_none h] at hvrow; cases hvrow
 have hcA : ((row.drop off).take (i * 2)).length = i * 2 := by rw [List.length_take, List.length_drop]; omega
 have hcB : ((row.drop (off + i * 2)).take ((n - i) * 2)).length = (n - i) * 2 := by rw [List.length_take, List.length_drop]; omega
 obtain ⟨A, hA⟩ : ∃ A, A = (row.drop off).take (i * 2) := ⟨_, rfl⟩
 obtain ⟨B, hB⟩ : ∃ B, B = (row.drop (off + i * 2)).take ((n - i) * 2) := ⟨_, rfl⟩
 rw [<- hA] at hcA ⊢
 rw [<- hB] at hcB h1 ⊢
 have hdrow : w.drew.heap[b]? = some (.cells row.toArray T (0, 0)) := hrow
 have hold : (Builtin.firstCells i0.size i (.slice (some ⟨b, off, none⟩) i c)).run Try.prog w.drew = .ok A.toArray w.drew := by
  refine run_firstCells_some w.drew i0.size i ⟨b, off, none⟩ i c A (by rw [hcA, hzs]) (row_cell' hdrow ?_)
  intro j u hj;rw [hA, List.getElem?_take] at hj;split at hj
  ·rwa [List.getElem?_drop] at hj
  ·cases hj
 have hik : i + (n + 1 - i) = n + 1 := by omega
 have hkk : (n : Int) + 1 - (i : Int) = ((n + 1 - i : Nat) : Int) := by omega
 obtain ⟨G, hG⟩ : ∃ G, G = grownCap w (n + 1) c 46 := ⟨_, rfl⟩
 have hGn : n + 1 <= G := by rw [hG]; exact grownCap_ge w _ _ _
 obtain ⟨zs, hzs', hzl⟩ : ∃ zs : List Value, zs = ((Builtin.zeroCells (Value.agg #[.slice none 0 0, .slice none 0 0]).cells (n + 1 - i)) ++ (Builtin.zeroCells (Value.agg #[.slice none 0 0, .slice none 0 0]).cells (G - (n + 1)))).toList /\ zs.length = (n + 1 - i) * 2 + (G - (n + 1)) * 2 := by
  refine ⟨_, rfl, ?_⟩
  simp [Builtin.zeroCells, Value.cells]; try omega
 have hrz : ∀ ty, (Builtin.append_ #[29, 3] ty #[.slice (some ⟨b, off, none⟩) i c, .int .i64 ((n : Int) + 1 - (i : Int))]).run Try.prog w =
   .ok (.slice (some ⟨w.heap.size, 0, none⟩) (n + 1) G) (w.drew.alloc (.cells (A ++ zs).toArray 46)) := fun ty => by
  have h := Lib.run_append_grow_zeros w 29 3 ty 46 i0 _ .i64 .i64 Try.underlying29 Try.underlying3 hi0 hz0 (some ⟨b, off, none⟩) i c A hold (n + 1 - i) (by omega) (by omega) (by omega) (by omega) (by rw [hzb]; omega) (by rw [hzb, hik]; exact growslice_fits hroom (by omega))
  rw [hik, <- hG] at h;rw [hkk, h, hzs'];have hcells : ∀ X Y : Array Value, A.toArray ++ X ++ Y = (A ++ (X ++ Y).toList).toArray := by intro X Y; apply Array.ext'; simp
  rw [hcells]
 obtain ⟨W0, hW0⟩ : ∃ W0, W0 = w.drew.alloc (.cells (A ++ zs).toArray 46) := ⟨_, rfl⟩
 rw [<- hW0] at hrz
 have hr0 : W0.heap[w.heap.size]? = some (.cells (A ++ zs).toArray 46 (0, 0)) := by rw [hW0]; show (w.heap.push _)[w.heap.size]? = _; simp
 have hs0 : W0.heap.size = w.heap.size + 1 := by rw [hW0]; show (w.heap.push _).size = _; simp
 have ho0 : ∀ k, k ≠ w.heap.size -> W0.heap[k]? = w.heap[k]? := by
  intro k hk;rw [hW0]; show (w.heap.push _)[k]? = _;rw [Array.getElem?_push, if_neg hk]
 have p1 : W0.os = w.os := by rw [hW0]; rfl
 have p2 : W0.tape = w.tape := by rw [hW0]; rfl
 have p3 : W0.output = w.output := by rw [hW0]; rfl
 clear hW0
 have hv0 : W0.heap[vb]? = some (.cells vrow.toArray TV (0, 0)) := by rw [ho0 vb (by omega)]; exact hvrow
 have hG63 : G <= 9223372036854775807 := by
  have := grownCap_le_maxLen w (n + 1) c 46 (by unfold maxLen; omega)
  rw [<- hG] at this;unfold maxLen at this;omega
 obtain ⟨W1, hc1, hr1, hs1, ho1, q1, q2, q3⟩ := copy_ex2 (P := Try.prog) W0 29 29 46 w.heap.size (i * 2) (n + 1 - i) (G - i) ⟨vb, voff, none⟩ 1 vc 2 1 (A ++ zs) 46 V Try.underlying29 hs46 (by simp only [Nat.min_def]; split <;> omega) hr0 hV
  (row_cell' hv0 hvs) (by rw [hV, List.length_append, hcA, hzl]; omega) h1V
 rw [hV] at hr1
 have hb1' : W1.drew.heap[b]? = some (.cells row.toArray T (0, 0)) := by show W1.heap[b]? = _; rw [ho1 b (by omega), ho0 b (by omega)]; exact hrow
 have hr1' : W1.drew.heap[w.heap.size]? = some (.cells ((A ++ zs).take (i * 2) ++ V ++ (A ++ zs).drop (i * 2 + 2)).toArray 46 (0, 0)) := hr1
 have hl1 : ((A ++ zs).take (i * 2) ++ V ++ (A ++ zs).drop (i * 2 + 2)).length = G * 2 := by
  rw [List.length_append, List.length_append, hV, List.length_take, List.length_drop, List.length_append, hcA, hzl]; omega
 obtain ⟨W2, hc2, hr2, hs2, ho2, q4, q5, q6⟩ := copy_ex2 (P := Try.prog) W1.drew 29 29 46 w.heap.size ((i + 1) * 2) (n + 1 - (i + 1)) (G - (i + 1)) ⟨b, off + i * 2, none⟩ (n - i) (c - i) 2 (n - i) _ 46 B Try.underlying29 hs46 (by simp only [Nat.min_def]; split <;> omega) hr1' hcB
  (row_cell' hb1' (by intro j u hj; rw [hB, List.getElem?_take] at hj; split at hj; rwa [List.getElem?_drop] at hj; cases hj)) (by rw [hcB, hl1]; omega) h1
 have hfin : ∃ Z : List Value, Z.length = (G - (n + 1)) * 2 /\ W2.heap[w.heap.size]? = some (.cells (A ++ V ++ B ++ Z).toArray 46 (0, 0)) := by
  refine ⟨((A ++ zs).take (i * 2) ++ V ++ (A ++ zs).drop (i * 2 + 2)).drop ((i + 1) * 2 + B.length), by rw [List.length_drop, hl1, hcB]; omega, ?_⟩
  rw [hr2];have : ((A ++ zs).take (i * 2) ++ V ++ (A ++ zs).drop (i * 2 + 2)).take ((i + 1) * 2) = A ++ V := by
   have e1 : (A ++ zs).take (i * 2) = A := by rw [<- hcA]; exact List.take_left
   have e2 : (A ++ V).length = (i + 1) * 2 := by rw [List.length_append, hcA, hV]; omega
   rw [e1, <- e2]; exact List.take_left
  rw [this]
 obtain ⟨Z, hZl, hZ⟩ := hfin
 have e1 : W2.os = w.os := q4.trans (q1.trans p1)
 have e2 : W2.tape = w.tape := q5.trans (q2.trans p2)
 have e3 : W2.output = w.output := q6.trans (q3.trans p3)
 have e4 : W2.heap.size = w.heap.size + 1 := hs2.trans (hs1.trans hs0)
 have e5 : ∀ k, k ≠ w.heap.size -> W2.heap[k]? = w.heap[k]? := fun k hk => (ho2 k hk).trans ((ho1 k hk).trans (ho0 k hk))
 have hz2 : ¬ ((i : Int) = (n : Int)) := by omega
 have hz3 : (c : Int) < (n : Int) + 1 := by omega
 have hGi : ¬ (G = i) := by omega
 have hGim : ¬ (G = i + 1) := by omega
 have hci : ¬ (c = i) := by omega
 have hw1 : IntKind.i64.wrap ((i : Int) + 1) = (i : Int) + 1 := by rw [IntKind.wrap_i64]; omega
 have hb1 : (0 : Int) <= (i : Int) + 1 := by omega
 have hin : i <= n := by omega
 have htn : ((i : Int) + 1).toNat = i + 1 := by omega
 have hb3 : (i : Int) <= (n : Int) + 1 := by omega
 clear hkk hik hold hG hr0 hs0 ho0 p1 p2 p3 hv0 hr1 hs1 ho1 q1 q2 q3 hb1' hr1' hl1 hr2 hs2 ho2 q4 q5 q6 hzs' hzl hA hB hcA hcB
 go_enter Try.func74, Try.ntmps74
 go_wp2_with (first
  | (at_builtin; refine Lib.wpList_append_run _ rfl _ _ _ _ rfl _ _ rfl rfl _ _ (hrz _) ?_)
  | (at_builtin; refine wpList_copy_runI _ rfl _ _ 29 29 rfl _ _ rfl rfl (hc1 _) ?_))
 go_region_law_o (refine step_copy_runI rfl _ _ 29 29 rfl _ _ (by simp [Act.eval, Act.put]) (by simp [Act.eval, Act.put]) (hc2 _) ?_)
 go_wp2
 go_ret
 exact ⟨G, Z, hGn, hZl, rfl, e1, e2, e3, e4, e5, hZ⟩
end Go.User
namespace Go.Lf
section
variable {P : Program} {C : Ctx} {ops : Array Oper} {Q : Exit -> Act -> World -> Prop} {a : Act} {w w' : World} {o : Oper} {v : Value} {i : Nat} {rest : List Nat}

theorem ops_value (ho : ops[i]? = some o) (hg : o.guard = none) (hrun : (execOp a.eval o).run P w = .ok (.value v) w') (hK : wpOps P ops Q rest (a.put o.dst v) w') : wpOps P ops Q (i :: rest) a w := by
 rw [wpOps_cons]
 unfold wpOp
 have hw : Region.wanted o (yielded ops a.tmps) = true := by simp [Region.wanted, hg]
 simp only [ho, hw, if_true]
 refine .inl ?_
 unfold Oper.wp
 rw [hrun, Oper.upon_value]
 exact hK
theorem ops_skip (ho : ops[i]? = some o) (hg : o.guard = none) (hrun : (execOp a.eval o).run P w = .ok .skip w') (hd : o.dst = none) (hK : wpOps P ops Q rest a w') : wpOps P ops Q (i :: rest) a w := by
 rw [wpOps_cons]
 unfold wpOp
 have hw : Region.wanted o (yielded ops a.tmps) = true := by simp [Region.wanted, hg]
 simp only [ho, hw, if_true]
 refine .inl ?_
 unfold Oper.wp
 rw [hrun, Oper.upon_skip, hd]
 exact hK
theorem ops_nil (h : Q .normal a w) : wpOps P ops Q [] a w := by simpa [wpOps] using h
theorem run_cells {b off : Nat} {row : Array Value} {T0 : TypeId} (hr : w.heap[b]? = some (.cells row T0 (0, 0))) {cs : List Value} (ho : off + cs.length <= row.size) (h1 : ∀ v ∈ cs, v.oneCell' = true) :
  ∃ w', (storeCells ⟨b, off, none⟩ cs).run P w = .ok () w' /\ w'.heap[b]? = some (.cells (row.toList.take off ++ cs ++ row.toList.drop (off + cs.length)).toArray T0 (0, 0)) /\ (∀ k, k ≠ b -> w'.heap[k]? = w.heap[k]?) /\
   w'.heap.size = w.heap.size /\ w'.os = w.os /\ w'.tape = w.tape /\ w'.output = w.output := by
 have hs := run_storeCells_at (P := P) b off T0 cs 0 row w hr (by omega) h1
 refine ⟨w.setRow b (row.toList.take (off + 0) ++ cs ++ row.toList.drop (off + 0 + cs.length)).toArray, ?_, ?_, ?_, ?_, rfl, rfl, rfl⟩
 ·simpa using hs
 ·simp [World.setRow, Array.getElem?_modify, hr]
 ·intro k hk
  simp only [World.setRow, Array.getElem?_modify];rw [if_neg (Ne.symm hk)]
 ·simp [World.setRow]
end
end Go.Lf
namespace Go.User
open Go Go.Proofs Go.RowKit Go.Lf
theorem sg_mid {A B D : List Value} {o n k : Nat} (hA : A.length = k) (h : o + n <= k) : seg (A ++ B ++ D) o n = seg A o n := by
 unfold seg
 rw [List.append_assoc, List.drop_append_of_le_length (by omega), List.take_append_of_le_length (by rw [List.length_drop]; omega)]
theorem sg_in {A B D : List Value} {o n k : Nat} (hA : A.length = k) (h1 : k <= o) (h2 : o + n <= k + B.length) : seg (A ++ B ++ D) o n = seg B (o - k) n := by
 unfold seg
 rw [List.append_assoc, List.drop_append, List.drop_eq_nil_of_le (by omega), List.nil_append, hA, List.drop_append_of_le_length (by omega), List.take_append_of_le_length (by rw [List.length_drop]; omega)]
theorem sg_sg {A : List Value} {o m p n : Nat} (h : p + n <= m) : seg (seg A o m) p n = seg A (o + p) n := by
 unfold seg
 rw [List.drop_take, List.take_take, Nat.min_eq_left (by omega), List.drop_drop]
theorem own_ins {F : aA} {w' : World} {b2 off2 cap2 : Nat} {row2 : Array Value} {T : TypeId} {x : List bO.den} {y : bO.den} {i : Nat} {A V B : List Value} (hA : A.length = i * 2) (hi : i <= x.length) (hB : B.length = (x.length - i) * 2) (hV : V.length = 2)
  (hAel : ∀ k e, k < i -> x[k]? = some e -> Own F w' bO .shr none' (seg A (k * 2) 2) e) (hBel : ∀ k e, x[i + k]? = some e -> Own F w' bO .shr none' (seg B (k * 2) 2) e) (hVel : Own F w' bO .shr none' V y)
  (hheap : w'.heap[b2]? = some (.cells row2 T (0, 0))) (hsz : off2 + cap2 * 2 <= row2.size) (hD : seg row2.toList off2 ((x.length + 1) * 2) = A ++ V ++ B) (hcap : x.length + 1 <= cap2) (hlim : x.length <= 500000000) :
  aP F w' (.slice bO) (.own .shr) (fun k => k = b2) (.slice (some ⟨b2, off2, none⟩) (x.length + 1) cap2) (insOut x [y] (i : Int)) := by
 have hlen : (insOut x [y] (i : Int)).length = x.length + 1 := by
  unfold insOut;simp only [Int.toNat_natCast, List.length_append, List.length_take, List.length_drop, List.length_singleton]; omega
 refine ⟨[.slice (some ⟨b2, off2, none⟩) (x.length + 1) cap2], rfl, some ⟨b2, off2, none⟩, cap2, by rw [hlen], by rw [hlen]; exact hcap, by rw [hlen]; unfold lim; omega,
  .inr ⟨b2, off2, row2, T, fun _ => none', rfl, rfl, hheap, hsz, fun _ _ h => h.elim, fun _ h => h.elim, fun _ _ _ _ h => h.elim, fun k e hk => ?_⟩⟩
 have hkl : k < x.length + 1 := by rw [<- hlen]; exact (List.getElem?_eq_some_iff.1 hk).1
 show Own F w' bO .shr none' (seg row2.toList (off2 + k * 2) 2) e
 rw [<- sg_sg (m := (x.length + 1) * 2) (p := k * 2) (by omega), hD]
 unfold insOut at hk
 simp only [Int.toNat_natCast] at hk
 have hl1 : (x.take i).length = i := by rw [List.length_take]; omega
 rcases Nat.lt_trichotomy k i with h | h | h
 ·rw [sg_mid hA (by omega)]
  rw [List.append_assoc, List.getElem?_append_left (by omega), List.getElem?_take, if_pos h] at hk;exact hAel k e h hk
 ·subst h
  rw [sg_in hA (Nat.le_refl _) (by omega), Nat.sub_self];rw [List.append_assoc, List.getElem?_append_right (by omega), hl1, Nat.sub_self] at hk;simp at hk;subst hk;have : seg V 0 2 = V := by unfold seg; rw [List.drop_zero]; exact List.take_of_length_le (by omega)
  rw [this]; exact hVel
 ·have hAV : (A ++ V).length = i * 2 + 2 := by rw [List.length_append, hA, hV]
  have : seg (A ++ V ++ B) (k * 2) 2 = seg B (k * 2 - (i * 2 + 2)) 2 := by
   have := sg_in (A := A ++ V) (B := B) (D := []) (o := k * 2) (n := 2) hAV (by omega) (by omega)
   rw [List.append_nil] at this; exact this
  rw [this, show k * 2 - (i * 2 + 2) = (k - i - 1) * 2 from by omega]
  refine hBel (k - i - 1) e ?_
  rw [List.getElem?_append_right (by simp; omega)] at hk;simp only [List.length_append, hl1, List.length_singleton] at hk;rw [List.getElem?_drop] at hk;rw [<- hk]; congr 1
theorem ins_ok : InsOK Try.prog I32 := by
 intro f e hl
 have hfe : f = 74 /\ e = bO := by
  unfold I32 Go.Lf.look at hl;cases hb : Nat.beq 74 f
  ·rw [hb] at hl; cases hl
  ·rw [hb] at hl
   simp only [cond_true, Option.some.injEq] at hl;exact ⟨(Nat.eq_of_beq_eq_true hb).symm, hl.symm⟩
 obtain ⟨rfl, rfl⟩ := hfe
 refine ⟨Try.call74, ?_⟩
 intro w F S0 S1 v v2 x x2 n hF hS0 hS1 hdis hv hv2 h0 hn hx2 hlx
 have hC : aJ Try.prog (mkC 0 []) := okA fns_nil
 have hT : Lf.look (mkC 0 []).tys 29 = some (.slice bO) := by kernel_rfl
 obtain ⟨i, rfl⟩ := Int.eq_ofNat_of_zero_le h0
 have hix : i <= x.length := by omega
 obtain ⟨y, rfl⟩ : ∃ y, x2 = [y] := by
  match x2, hx2 with
  | [y], _ => exact ⟨y, rfl⟩
 obtain ⟨cs2, rfl, ao2, vc, rfl, hc2, hl2, alt2⟩ := hv2
 rcases alt2 with ⟨-, h⟩ | ⟨vb, voff, vrow, TV, Si2, rfl, hSvb, hvheap, hvsz, -, -, -, hel2⟩
 ·rw [h] at hc2; simp at hc2
 have hvsz : voff + vc * 2 <= vrow.size := hvsz
 have hc2 : 1 <= vc := hc2
 obtain ⟨V, hVdef⟩ : ∃ V, V = seg vrow.toList voff 2 := ⟨_, rfl⟩
 have hVl : V.length = 2 := by rw [hVdef]; exact seg_len _ _ _ (by simp; omega)
 have hVel : Own F w bO .shr none' V y := by
  have := hel2 0 y rfl
  rw [Nat.zero_mul, Nat.add_zero] at this;rw [hVdef]; exact Own.shr this
 have hV1 : ∀ u ∈ V, u.oneCell' = true := fun u hu => hVel.one u hu
 have hvheap' : w.heap[vb]? = some (.cells vrow.toList.toArray TV (0, 0)) := by rw [hvheap]
 have hvs : ∀ j u, V[j]? = some u -> vrow.toList[voff + j]? = some u := by
  intro j u hj;rw [hVdef] at hj;unfold seg at hj;rw [List.getElem?_take] at hj;split at hj
  ·rwa [List.getElem?_drop] at hj
  ·cases hj
 have hnew : ∀ w' : World, w'.heap = w.heap -> (Builtin.firstCells bO.size 1 (.slice (some ⟨vb, voff, none⟩) 1 vc)).run Try.prog w' = .ok V.toArray w' := by
  intro w' hw';have := firstCells_row (P := Try.prog) (size := bO.size) (n := 1) (cap := vc) (off := voff) (w' := w') (by rw [hw']; exact hvheap) (show voff + 1 * 2 <= vrow.size by omega)
  rw [this, hVdef]; rfl
 obtain ⟨cs, rfl, ao, cap, rfl, hcap, hlim, alt⟩ := hv
 show Calls Try.prog 74 #[.slice ao x.length cap, .int .i64 (i : Int), .slice (some ⟨vb, voff, none⟩) 1 vc] w _
 have keep : ∀ {w' : World} {cs : List Value} {e : bO.den}, (∀ k, k < w.heap.size -> ¬ S0 k -> w'.heap[k]? = w.heap[k]?) -> Own F w bO .shr none' cs e -> Own F w' bO .shr none' cs e := by
  intro w' cs e hk ho;exact ho.congr (fun b hb => hk b (hF b hb) (fun h => (hS0 b h).2 hb)) (fun b hb => hb.elim)
 have fin : ∀ {w' : World} {b2 off2 cap2 : Nat} {row2 : Array Value} {T : TypeId} {A B : List Value}, w'.os = w.os -> w'.tape = w.tape -> w'.output = w.output -> w.heap.size <= w'.heap.size -> (∀ k, k < w.heap.size -> ¬ S0 k -> w'.heap[k]? = w.heap[k]?) ->
   (w.heap.size <= b2 ∨ S0 b2) -> b2 < w'.heap.size -> A.length = i * 2 -> B.length = (x.length - i) * 2 -> (∀ k e, k < i -> x[k]? = some e -> Own F w bO .shr none' (seg A (k * 2) 2) e) -> (∀ k e, x[i + k]? = some e -> Own F w bO .shr none' (seg B (k * 2) 2) e) ->
   w'.heap[b2]? = some (.cells row2 T (0, 0)) -> off2 + cap2 * 2 <= row2.size -> seg row2.toList off2 ((x.length + 1) * 2) = A ++ V ++ B -> x.length + 1 <= cap2 ->
   InsPost F S0 w bO (insOut x [y] (i : Int)) (.returned (.slice (some ⟨b2, off2, none⟩) (x.length + 1) cap2)) w' := by
  intro w' b2 off2 cap2 row2 T A B q1 q2 q3 q4 q5 q6 q7 hA hB hAel hBel hh hsz hD hc;refine ⟨_, F, fun k => k = b2, rfl, q1, q2, q3, q4, q5, fun _ h => h, fun k g1 g2 => absurd g1 g2, ?_, ?_, own_ins hA hix hB hVl (fun k e g1 g2 => keep q5 (hAel k e g1 g2)) (fun k e g => keep q5 (hBel k e g)) (keep q5 hVel) hh hsz hD hc hlx⟩
  ·rintro k (h | rfl)
   ·have := hF k h; omega
   ·exact q7
  ·rintro k rfl
   refine ⟨q6, fun h => ?_⟩
   rcases q6 with g | g
   ·have := hF _ h; omega
   ·exact (hS0 _ g).2 h
 rcases alt with ⟨rfl, rfl⟩ | ⟨b, off, row, T, Si, rfl, hSb, hheap, hsz, -, -, -, hel⟩
 ·
  have hx0 : x = [] := by
   cases x with
   | nil => rfl
   | cons a l => simp at hcap
  subst hx0;have hi0 : i = 0 := by simpa using hix
  subst hi0;obtain ⟨cap', zs, E, g1, g2, g3⟩ := (run_append_gen (P := Try.prog) (w := w) (ty := 29) hC hT hT (ao := none) (sLen := 0) (sCap := 0) (olds := []) (ax := some ⟨vb, voff, none⟩) (n := 1) (cx := vc) (news := V)
   (fun w' _ => run_firstCells_none w' bO.size 0 0 0) hnew (by decide)).2 (by omega)
  refine (ins_end w none 0 0 vb voff vc _ _ g3 (Nat.le_refl _) (fun _ => rfl)).mono ?_
  rintro en w' ⟨rfl, rfl⟩
  have hnewrow : (w.drew.alloc (.cells (([] : List Value) ++ V ++ zs).toArray E)).heap[w.heap.size]? = some (.cells (([] : List Value) ++ V ++ zs).toArray E (0, 0)) := by
   show (w.heap.push _)[w.heap.size]? = _
   simp
  have hsz' : (w.drew.alloc (.cells (([] : List Value) ++ V ++ zs).toArray E)).heap.size = w.heap.size + 1 := by
   show (w.heap.push _).size = _
   simp
  have g2 : zs.length = (cap' - (0 + 1)) * 2 := g2
  refine fin (A := []) (B := []) rfl rfl rfl (by omega) (fun k hk _ => ?_) (.inl (Nat.le_refl _)) (by omega) rfl rfl (fun k e h => absurd h (Nat.not_lt_zero _)) (fun k e h => by simp at h) hnewrow (by simp; omega) ?_ g1
  ·show (w.heap.push _)[k]? = _
   rw [Array.getElem?_push, if_neg (by omega)]
  ·show seg (([] : List Value) ++ V ++ zs) 0 2 = [] ++ V ++ []
   rw [sg_in (A := []) rfl (Nat.zero_le _) (by simp; omega)];simp only [List.nil_append, List.append_nil];unfold seg; simp only [List.length_nil, Nat.sub_zero, List.drop_zero]; exact List.take_of_length_le (by omega)
 ·have hsz : off + cap * 2 <= row.size := hsz
  have hcap : x.length <= cap := hcap
  have hb := hS0 b hSb
  have hvb := hS1 vb hSvb
  have hne : vb ≠ b := fun h => hdis b hSb (h ▸ hSvb)
  have hel : ∀ k e, x[k]? = some e -> Own F w bO .shr none' (seg row.toList (off + k * 2) 2) e := fun k e h => Own.shr (hel k e h)
  have hrow' : w.heap[b]? = some (.cells row.toList.toArray T (0, 0)) := by rw [hheap]
  have hrl : row.toList.length = row.size := by simp
  obtain ⟨A, hA⟩ : ∃ A, A = seg row.toList off (i * 2) := ⟨_, rfl⟩;obtain ⟨B, hB⟩ : ∃ B, B = seg row.toList (off + i * 2) ((x.length - i) * 2) := ⟨_, rfl⟩;have hAl : A.length = i * 2 := by rw [hA]; exact seg_len _ _ _ (by omega)
  have hBl : B.length = (x.length - i) * 2 := by rw [hB]; exact seg_len _ _ _ (by omega)
  have hAel : ∀ k e, k < i -> x[k]? = some e -> Own F w bO .shr none' (seg A (k * 2) 2) e := by
   intro k e h1 h2;rw [hA, sg_sg (by omega)]; exact hel k e h2
  have hBel : ∀ k e, x[i + k]? = some e -> Own F w bO .shr none' (seg B (k * 2) 2) e := by
   intro k e h2;have hlt : i + k < x.length := (List.getElem?_eq_some_iff.1 h2).1;rw [hB, sg_sg (by omega), show off + i * 2 + k * 2 = off + (i + k) * 2 from by omega]; exact hel _ e h2
  have hB1 : ∀ u ∈ B, u.oneCell' = true := by
   intro u hu;obtain ⟨j, hj, rfl⟩ := List.getElem_of_mem hu;rw [hBl] at hj;have hlt : i + j / 2 < x.length := by omega
   have ho := hBel (j / 2) _ (List.getElem?_eq_getElem hlt)
   refine ho.one _ ?_
   have : (seg B (j / 2 * 2) 2)[j % 2]? = some B[j] := by
    unfold seg;rw [List.getElem?_take, if_pos (by omega), List.getElem?_drop, show j / 2 * 2 + j % 2 = j from by omega]
    exact List.getElem?_eq_getElem _
   exact List.mem_of_getElem? this
  by_cases hend : i = x.length
  ·have hBn : B = [] := List.eq_nil_of_length_eq_zero (by rw [hBl]; omega)
   have hgen := run_append_gen (P := Try.prog) (w := w) (ty := 29) hC hT hT (ao := some ⟨b, off, none⟩) (sLen := x.length) (sCap := cap) (olds := A) (ax := some ⟨vb, voff, none⟩) (n := 1) (cx := vc) (news := V)
    (fun w' hw' => by
     have := firstCells_row (P := Try.prog) (size := bO.size) (n := x.length) (cap := cap) (off := off) (w' := w') (by rw [hw']; exact hheap) (show off + x.length * 2 <= row.size by omega)
     rw [this, hA, hend]; rfl) hnew (by rw [maxNew_eq]; omega)
   rcases Nat.lt_or_ge cap (x.length + 1) with hg | hf
   ·obtain ⟨cap', zs, E, g1, g2, g3⟩ := hgen.2 hg
    rw [hend];refine (ins_end w (some ⟨b, off, none⟩) x.length cap vb voff vc _ _ g3 hcap (fun h => by cases h)).mono ?_
    rintro en w' ⟨rfl, rfl⟩
    have hnewrow : (w.drew.alloc (.cells (A ++ V ++ zs).toArray E)).heap[w.heap.size]? = some (.cells (A ++ V ++ zs).toArray E (0, 0)) := by
     show (w.heap.push _)[w.heap.size]? = _
     simp
    have hsz' : (w.drew.alloc (.cells (A ++ V ++ zs).toArray E)).heap.size = w.heap.size + 1 := by
     show (w.heap.push _).size = _
     simp
    have g2 : zs.length = (cap' - (x.length + 1)) * 2 := g2
    rw [<- hend];rw [hend];have := fin (w' := w.drew.alloc (.cells (A ++ V ++ zs).toArray E)) (b2 := w.heap.size) (off2 := 0) (cap2 := cap') (A := A) (B := B) rfl rfl rfl (by omega) (fun k hk _ => by
     show (w.heap.push _)[k]? = _
     rw [Array.getElem?_push, if_neg (by omega)]) (.inl (Nat.le_refl _)) (by omega) hAl hBl hAel hBel hnewrow (by simp; omega) (by
     show seg (A ++ V ++ zs) 0 ((x.length + 1) * 2) = A ++ V ++ B
     rw [hBn, List.append_nil];unfold seg;rw [List.drop_zero];have : (A ++ V).length = (x.length + 1) * 2 := by rw [List.length_append, hAl, hVl]; omega
     rw [<- this]; exact List.take_left) g1
    rw [hend] at this;exact this
   ·have hap := hgen.1 hf
    obtain ⟨w1, k1, k2, k3, k4, k5, k6, k7⟩ := run_cells (P := Try.prog) (w := w) (b := b) (off := off + x.length * 2) (row := row) (T0 := T) hheap (cs := V) (by rw [hVl]; omega) hV1;have hap' : (Builtin.append_ #[29, 29] 29 #[.slice (some ⟨b, off, none⟩) x.length cap, .slice (some ⟨vb, voff, none⟩) 1 vc]).run Try.prog w = .ok (.slice (some ⟨b, off, none⟩) (x.length + 1) cap) w1 := by
     rw [hap];unfold appFit;have e1 : (⟨b, off, none⟩ : Addr).add (x.length * bO.size) = ⟨b, off + x.length * 2, none⟩ := add_lit2 _ _ _;show ((storeCells ((⟨b, off, none⟩ : Addr).add (x.length * bO.size)) V).run Try.prog w).andThen (fun _ w' => Result.ok (Value.slice (some ⟨b, off, none⟩) (x.length + 1) cap) w') = _
     rw [e1, k1]; rfl
    rw [hend];refine (ins_end w (some ⟨b, off, none⟩) x.length cap vb voff vc _ _ hap' hcap (fun h => by cases h)).mono ?_
    rintro en w' ⟨rfl, rfl⟩
    have hkl : (row.toList.take (off + x.length * 2) ++ V ++ row.toList.drop (off + x.length * 2 + V.length)).length = row.size := by
     rw [List.length_append, List.length_append, List.length_take, List.length_drop, hVl, hrl]; omega
    have := fin (w' := w') (b2 := b) (off2 := off) (cap2 := cap) (A := A) (B := B) k5 k6 k7 (by omega) (fun k _ hk => k3 k (fun h => hk (h ▸ hSb))) (.inr hSb) (by omega) hAl hBl hAel hBel k2 (by simp only [List.size_toArray]; omega) (by
     rw [List.toList_toArray, hBn, List.append_nil, hA, hend];unfold seg;have e1 : off <= (row.toList.take (off + x.length * 2)).length := by rw [List.length_take]; omega
     have e2 : ((row.toList.take (off + x.length * 2)).drop off).length = x.length * 2 := by rw [List.length_drop, List.length_take]; omega
     rw [List.append_assoc, List.drop_append_of_le_length e1, <- List.append_assoc];have e3 : ((row.toList.take (off + x.length * 2)).drop off ++ V).length = (x.length + 1) * 2 := by rw [List.length_append, e2, hVl]; omega
     have e4 : (row.toList.take (off + x.length * 2)).drop off = (row.toList.drop off).take (x.length * 2) := by
      rw [List.drop_take, Nat.add_sub_cancel_left]
     rw [<- e3, List.take_left, e4]) hf
    rw [hend] at this;exact this
  ·have hilt : i < x.length := by omega
   have hBdef : (row.toList.drop (off + i * 2)).take ((x.length - i) * 2) = B := hB.symm
   rcases Nat.lt_or_ge cap (x.length + 1) with hg | hf
   ·refine (ins_grow w b off x.length cap i vb voff vc row.toList V T hilt hcap hg hlx hrow' (by omega) (by rw [hBdef]; exact hB1) hVl hV1 vrow.toList TV hvheap' hvs).mono ?_
    rintro en w' ⟨G, Z, z1, z2, rfl, z3, z4, z5, z6, z7, z8⟩
    have hAdef : (row.toList.drop off).take (i * 2) = A := hA.symm
    rw [hAdef, hBdef] at z8;refine fin z3 z4 z5 (by omega) (fun k hk _ => z7 k (by omega)) (.inl (Nat.le_refl _)) (by omega) hAl hBl hAel hBel z8 ?_ ?_ z1
    ·simp only [List.size_toArray, List.length_append, hAl, hBl, hVl, z2]; omega
    ·show seg (A ++ V ++ B ++ Z) 0 ((x.length + 1) * 2) = A ++ V ++ B
     unfold seg;rw [List.drop_zero];have : (A ++ V ++ B).length = (x.length + 1) * 2 := by rw [List.length_append, List.length_append, hAl, hBl, hVl]; omega
     rw [<- this]; exact List.take_left
   ·refine (ins_shift w b off x.length cap i vb voff vc row.toList V T hilt hf hlx hne hrow' (by omega) (by rw [hBdef]; exact hB1) hVl hV1 vrow.toList TV hvheap' hvs).mono ?_
    rintro en w' ⟨rfl, z3, z4, z5, z6, z7, z8⟩
    rw [hBdef] at z8;obtain ⟨P0, hP0⟩ : ∃ P0, P0 = row.toList.take (off + (i + 1) * 2) := ⟨_, rfl⟩;have hP0l : P0.length = off + (i + 1) * 2 := by rw [hP0, List.length_take]; omega
    obtain ⟨P1, hP1⟩ : ∃ P1, P1 = row.toList.take (off + i * 2) := ⟨_, rfl⟩;have hP1l : P1.length = off + i * 2 := by rw [hP1, List.length_take]; omega
    obtain ⟨Z, hZ⟩ : ∃ Z, Z = row.toList.drop (off + (i + 1) * 2 + (x.length - i) * 2) := ⟨_, rfl⟩;have hZl : Z.length = row.size - (off + (i + 1) * 2 + (x.length - i) * 2) := by rw [hZ, List.length_drop]; omega
    rw [<- hP0, <- hZ] at z8;have t1 : (P0 ++ B ++ Z).take (off + i * 2) = P1 := by
     rw [List.append_assoc, List.take_append_of_le_length (by omega), hP0, List.take_take, hP1]
     congr 1; omega
    have t2 : (P0 ++ B ++ Z).drop (off + i * 2 + 2) = B ++ Z := by
     rw [List.append_assoc, show off + i * 2 + 2 = P0.length from by omega, List.drop_left]
    rw [t1, t2] at z8;refine fin z3 z4 z5 (by omega) (fun k _ hk => z7 k (fun h => hk (h ▸ hSb))) (.inr hSb) (by omega) hAl hBl hAel hBel z8 ?_ ?_ hf
    ·simp only [List.size_toArray, List.length_append, hP1l, hBl, hVl, hZl]; omega
    ·show seg (P1 ++ V ++ (B ++ Z)) off ((x.length + 1) * 2) = A ++ V ++ B
     unfold seg;rw [List.append_assoc, List.drop_append_of_le_length (by omega)];have e1 : P1.drop off = A := by
      rw [hP1, hA, List.drop_take]; unfold seg; congr 1; omega
     rw [e1];have : (A ++ V ++ B).length = (x.length + 1) * 2 := by rw [List.length_append, List.length_append, hAl, hBl, hVl]; omega
     rw [show A ++ (V ++ (B ++ Z)) = A ++ V ++ B ++ Z from by simp, <- this]; exact List.take_left
end Go.User
namespace Go.User
open Go.Proofs Go.Lf
set_option maxRecDepth 100000
theorem vc71 : (∀ q n : Nat, funK (C71 q n) (stpU I32 G32 (C71 q n)) p71 (t71 q n) (L71 q n) Try.f71) = (
let q0 : Nat := (3 : Nat);
let q1 : Prop := (True /\ True) /\ True;
let q2 : Prop := True /\ True /\ True;
let q3 : Prop := True /\ q2;
let q4 : Prop := q3 /\ True;
let q5 : Int := (0 : Int);
let q6 : Nat := (1 : Nat);
let q7 : Nat := (71 : Go.FuncId);
let q8 : Nat := (68 : Go.FuncId);
let q9 : List KI := KI.fn q8 :: ([] : List KI);
let q10 : Prop := Option.some (q8, ([] : List Int)) = Option.some (q8, ([] : List Int));
let q11 : Int × Int × Unit := (q5, q5, ());
let q12 : Int := (1 : Int);
let q13 : Prop := (([] : List Go.ResultVar)).toArray.toList = ([] : List Go.ResultVar);
let q14 : Nat := (500000000 : Nat);
∀ (q : Nat),
 let q15 : Prop := Option.some (q7, KI.self :: KI.own q :: q9) = Option.some (q7, KI.self :: KI.own q :: q9);
 ∀ (n : Nat),
 let q16 : Nat := n - q6;
 ∀ (x : List Sp.Out) (y : Sp.VSt × Unit),
 let q17 : Prop := True /\ Sp.OkS y.1 /\ True /\ True;
 let q18 : Nat := (Sp.aE y.1).length;
 let q19 : Prop := Sp.aE y.1 = Sp.aE y.1;
 let q20 : Nat := (Sp.aE y.1).length;
 let q21 : Int := (↑q20 : Int);
 let q22 : Prop := q15 /\ q10 /\ y.1 = y.1 /\ q19 /\ q19 /\ q21 = q21 /\ True;
 let q23 : Bool := decide (q21 > q5);
 let q24 : List Sp.Out := Sp.visit n y.1 x;
 let q25 : Sp.Out := (Sp.outR y.1, Sp.lastN y.1 q0, ());
 let q26 : List Sp.Out := q25 :: ([] : List bO.den);
 Sp.okV n x y.1 ->
 aD bO.slice x ->
 aD (tLit.prod (tI.slice.prod ((Ty.arr q0 tMsg.slice).prod ((Ty.arr q0 tI).slice.prod ((Ty.arr q0 tI).prod (tI.slice.prod bO)))))) y.1 /\ True ->
 q1 /\
 (q17 /\ True) /\
 q4 /\
 (∃ (x_1 : Nat), x_1 <= q18 /\ q5 = (↑x_1 : Int) /\ x = Sp.visitN q16 y.1 x x_1 /\ q22) /\
 ∀ (x_1 : Nat),
 let q27 : List Sp.Out := Sp.visitN q16 y.1 x x_1;
 let q28 : Bool := decide ((↑x_1 : Int) < q21);
 let q29 : Int × Int × Unit := (Sp.aE y.1).getD (↑x_1 : Int).toNat q11;
 let q30 : Sp.VSt := (y.1.1, Sp.nPc y.1 q29, Sp.nMem y.1 q29, Sp.nVw y.1 q29, Sp.nFe y.1 q29, Sp.nR y.1 q29, Sp.nFr y.1 q29, Sp.nFo y.1 q29, ());
 let q31 : Int := (↑x_1 : Int) + q12;
 let q32 : Prop := q13 /\ q27 = q24;
 let q33 : Nat := q27.length;
 let q34 : Prop := q33 <= q14;
 let q35 : Bool := !Sp.foundO q27 q25;
 let q36 : Int := (↑(Sp.below q27 q25) : Int);
 let q37 : Nat := q36.toNat;
 x_1 <= q18 -> aD tI (↑x_1 : Int) /\ aD bO.slice q27 /\ True -> q1 /\ (q28 = true -> ((inN (↑x_1 : Int) q20 /\ q2) /\ True /\ True) /\ ((True /\ True /\ True /\ Sp.okX y.1 q29 /\ True) /\ (q15 /\ q6 <= n /\ Sp.okV q16 q27 q30) /\ True) /\ ((inK IntKind.i64 q31 /\ True /\ True) /\ True) /\ ∃ (y_1 : Nat), y_1 <= q18 /\ q18 - y_1 < q18 - x_1 /\ q31 = (↑y_1 : Int) /\ Sp.visit q16 q30 q27 = Sp.visitN q16 y.1 x y_1 /\ q22) /\ (q28 = false -> q4 /\ (q23 = true -> q32) /\ (q23 = false -> (q17 /\ True /\ True) /\ ((True /\ True /\ True /\ (Option.some (q8, ([] : List Int)) = Option.some (q8, ([] : List Int)) /\ q34 /\ Sp.sortedO q27) /\ True /\ True /\ q3) /\ True) /\ (q2 /\ True) /\ (q35 = true -> (True /\ True /\ True /\ True /\ True /\ ((0 : tI.den) <= q36 /\ q36 <= (↑q33 : Int) /\ q26.length = q6 /\ q34) /\ True /\ True) /\ q13 /\ List.take q37 q27 ++ q26 ++ List.drop q37 q27 = q24) /\ (q35 = false -> q32)))) := by kernel_rfl
end Go.User
namespace Go.User
open Go.Lf Go.Proofs
set_option maxRecDepth 100000 in
theorem k71 : ∀ (n q : Nat), KnOK Try.prog q (t71k q n) -> KnOK Try.prog q (t71 q n) := by
 intro n q hk
 have hC : aJ Try.prog (C71 q n) := ctx_okQ q rfl rfl (aG ok53 (aG ok54c (aG ok72 (aG ok73 fns_nil)))) ptrs_nil (fun _ h => by cases h) (fun t h => by injection h with h; subst h; exact cmp_ok) ins_nil (fun t h => by injection h with h; subst h; exact hk)
 refine KnOK.intro hC (stpU_ok ins_ok grow_ok hC) Try.call71 Try.func71 (by kernel_rfl) (l1 := [.self]) (l2 := [.fn 68]) rfl rfl rfl rfl (by show 1 + 3 <= 44; omega) (L71 q n) (vc71.mpr ?_ q n)
 simp only [zz, zy]
 rintro n l ⟨s, u⟩ ⟨hg, h6, hl, hs, hlen⟩ _ hx
 have hg : Sp.Good s := hg
 have h6 : Sp.aB s.1.1 <= 6 := h6
 have hl : Sp.left s = n := hl
 have hs : Sp.sortedO l := hs
 have hlen : l.length + 28 ^ n <= 500000000 := hlen
 have hcl := Sp.choices_len hg h6
 refine ⟨hg.ok, ⟨0, Nat.zero_le _, rfl, rfl⟩, fun i hi _ => ⟨fun hlt => ?_, fun hge => ⟨fun hpos => ?_, fun hz => ?_⟩⟩⟩
 ·have hlt : (i : Int) < ((Sp.aE s).length : Int) := hlt
  have hil : i < (Sp.aE s).length := by omega
  have hxm : (Sp.aE s).getD i (0, 0, ()) ∈ Sp.aE s := Pl.bK hil _
  have hln := Sp.left_next hg.ok hxm
  obtain ⟨m, rfl⟩ : ∃ m, n = m + 1 := ⟨n - 1, by omega⟩
  obtain ⟨a1, a2⟩ := Sp.visitN_ok hg h6 hl hs i (by omega);have hm1 : (i + 1) * 28 ^ m <= 28 ^ (m + 1) := by
   rw [Nat.pow_succ, Nat.mul_comm (28 ^ m)];exact Nat.mul_le_mul_right _ (by omega)
  rw [Nat.succ_mul] at hm1;refine ⟨inN_of hlt, ⟨⟨hg.ok, hxm⟩, by omega, hg.next hxm, h6, ?_, a1, ?_⟩, bE (by omega) (by omega), i + 1, ?_, ?_, ?_, ?_⟩
  ·show Sp.left (Sp.next s ((Sp.aE s).getD i (0, 0, ()))) = m; omega
  ·show (Sp.visitN m s l i).length + 28 ^ m <= 500000000; omega
  ·show i + 1 <= (Sp.aE s).length; omega
  ·show (Sp.aE s).length - (i + 1) < (Sp.aE s).length - i; omega
  ·show (i : Int) + 1 = ((i + 1 : Nat) : Int); omega
  ·exact Sp.visitN_succ m s l hil
 ·have hi : i <= (Sp.aE s).length := hi
  have hge : ((Sp.aE s).length : Int) <= (i : Int) := hge
  have hpos : (0 : Int) < ((Sp.aE s).length : Int) := hpos
  have hne : Sp.aE s ≠ [] := by intro h; rw [h] at hpos; simp at hpos
  have hxm : (Sp.aE s).getD 0 (0, 0, ()) ∈ Sp.aE s := Pl.bK (by omega) _
  have hln := Sp.left_pos hg.ok hxm
  obtain ⟨m, rfl⟩ : ∃ m, n = m + 1 := ⟨n - 1, by omega⟩
  show Sp.visitN m s l i = Sp.visit (m + 1) s l
  rw [Sp.visit_more hne, show i = (Sp.aE s).length from by omega]
 ·have hi : i <= (Sp.aE s).length := hi
  have hz : ((Sp.aE s).length : Int) <= 0 := hz
  have hi0 : i = 0 := by omega
  subst hi0;have hnil : Sp.aE s = [] := List.eq_nil_of_length_eq_zero (by omega);have hv : Sp.visit n s l = Sp.insO l (Sp.outcome s) := Sp.visit_end hnil;have hb := (Sp.below_spec hs (Sp.outcome s)).1;refine ⟨hg.ok, ⟨?_, hs⟩, fun hf => ⟨⟨?_, ?_, ?_⟩, ?_⟩, fun hf => ?_⟩
  ·exact Nat.le_trans (Nat.le_add_right _ _) hlen
  ·exact Int.natCast_nonneg _
  ·show ((Sp.below l (Sp.outcome s) : Nat) : Int) <= (l.length : Int); omega
  ·exact Nat.le_trans (Nat.le_add_right _ _) hlen
  ·have hf : Sp.foundO l (Sp.outcome s) = false := hf
   show l.take (Sp.below l (Sp.outcome s)) ++ [Sp.outcome s] ++ l.drop (Sp.below l (Sp.outcome s)) = Sp.visit n s l
   rw [hv]; unfold Sp.insO; rw [if_neg (by rw [hf]; decide)]
  ·have hf : Sp.foundO l (Sp.outcome s) = true := hf
   show l = Sp.visit n s l
   rw [hv]; unfold Sp.insO; rw [if_pos hf]
theorem visits : ∀ (n q : Nat), KnOK Try.prog q (t71 q n)
 | 0, q => k71 0 q ⟨Try.call71, fun w F S0 cs x caps vs y h1 h2 h3 h4 h5 h6 h7 h8 => absurd h8.1 (by show ¬ 1 <= 0; omega)⟩
 | n + 1, q => k71 (n + 1) q ⟨Try.call71, fun w F S0 cs x caps vs y h1 h2 h3 h4 h5 h6 h7 h8 => (visits n q).2 w F S0 cs x caps vs y h1 h2 h3 h4 h5 h6 h7 h8.2⟩
end Go.User
namespace Go.User
open Go.Proofs Go.Lf
set_option maxRecDepth 100000
theorem vc42 : (bV C42 (stpS C42) S42 L42 Try.f42) = (
let q0 : Nat := (1000 : Nat);
let q1 : Prop := True /\ True /\ True;
let q2 : Int := (1 : Int);
∀ (x : Sp.Lit × Unit),
 let q3 : Prop := Sp.aB x.1.1 <= q0;
 let q4 : Int := (↑x.1.1.length : Int);
 let q5 : Bool := decide (q2 <= q4);
 let q6 : Prop := (true && bif q5 then true else false) = true -> True;
 let q7 : Bool := bif q5 then decide (q4 <= (4 : Int)) else false;
 let q8 : Prop := (true && bif q7 then true else false) = true -> True;
 let q9 : Int := (↑(Sp.cat x.1.1).length : Int);
 let q10 : Bool := bif q7 then decide (q2 <= q9) else false;
 let q11 : Prop := (true && bif q10 then true else false) = true -> True;
 let q12 : Bool := bif q10 then decide (q9 <= (6 : Int)) else false;
 let q13 : Prop := (true && bif q12 then true else false) = true;
 let q14 : Prop := q13 -> True;
 q3 -> aD tLit x.1 /\ True -> (q1 /\ True) /\ ((True /\ True /\ q3 /\ True) /\ True /\ True) /\ ((True /\ True) /\ True /\ True) /\ (True /\ q1) /\ ((True /\ True /\ True /\ True /\ True /\ q6 /\ q6 /\ q6 /\ q6 /\ True /\ True /\ q8 /\ q8 /\ q8 /\ True /\ True /\ q11 /\ q11 /\ q11 /\ True /\ True /\ q14 /\ q14 /\ (q13 -> ∀ (e : Sp.LOp), Option.some ((75 : Nat), ([] : List Int)) = Option.some ((75 : Go.FuncId), ([] : List Int))) /\ q14 /\ q1) /\ True) /\ (bif q12 then !(Sp.cat x.1.1).any fun (e : a9.den) => !Sp.usual e else false) = Sp.valid x.1) := by kernel_rfl
theorem vc19 : (bV C19 (stpS C19) S19 L19 Try.f19) = (
let q0 : Nat := (1000 : Nat);
let q1 : Prop := True /\ True /\ True;
let q2 : Prop := (True /\ True) /\ q1;
let q3 : Nat := (3 : Nat);
let q4 : List (List Sp.Msg) := List.replicate q3 (([] : List tMsg.den));
let q5 : Int := (0 : Int);
let q6 : List Int := List.replicate q3 q5;
let q7 : List Int × Unit := (([] : List tI.den), ());
let q8 : Sp.VSt := ((([] : List a9.slice.den), ()), ([] : List tI.den), q4, ([] : List tV3.den), q6, ([] : List tI.den), ([] : List tI.den), q7);
let q9 : Int := (0 : tI.den);
let q10 : Nat := (0 : Nat);
let q11 : Int := (1 : Int);
let q12 : Int := -q11;
let q13 : Nat := (1 : Nat);
let q14 : List Int := ((q6.set q10 q12).set q13 q12).set (2 : Nat) q12;
let q15 : List (List Int) := q14 :: ([] : List tV3.den);
let q16 : Int := (1 : (AK.val tI).den);
let q17 : List Int := q12 :: ([] : List tI.den);
let q18 : Prop := (True /\ True) /\ True;
let q19 : Prop := q8 = q8 /\ q5 = q5 /\ True;
∀ (x : Sp.Lit × Unit),
 let q20 : Prop := Sp.aB x.1.1 <= q0;
 let q21 : Bool := !Sp.valid x.1;
 let q22 : Sp.VSt × Int × Unit := (Sp.stA x.1, Sp.errA x.1, ());
 let q23 : Nat := x.1.1.length;
 let q24 : Int := (↑q23 : Int);
 let q25 : Int := (↑(Sp.cat x.1.1).length : Int);
 let q26 : Nat := q24.toNat;
 let q27 : Nat := q25.toNat;
 let q28 : List Int := Sp.zeros q23;
 let q29 : List (List Int) × List Int × List Int × Sp.Out := (Sp.views q23, Sp.v0, Sp.zeros (Sp.aB x.1.1), Sp.froms (Sp.aB x.1.1), q7);
 q20 ->
 aD tLit x.1 /\ True ->
 ((True /\ q1) /\ True) /\
 ((True /\ q20 /\ True /\ True) /\ True) /\
 (q21 = true -> q2 /\ (q8, (300 : Int), ()) = q22) /\
 (q21 = false ->
 (q1 /\ True /\ True) /\
 ((True /\ True /\ q20 /\ q1) /\ True) /\
 ((True /\ True /\ True /\ True /\ (q9 <= q24 /\ q24 <= q24 /\ q24 <= aN) /\ True /\ True /\ True /\ True /\ True /\ (q15.length = q13 /\ q16 <= q24 /\ q24 <= (4 : (AK.val tI).den)) /\ True /\ True /\ (q9 <= q25 /\ q25 <= q25 /\ q25 <= aN) /\ True /\ True /\ (q17.length = q13 /\ q16 <= q25 /\ q25 <= (6 : (AK.val tI).den)) /\ q1) /\ True /\ True) /\
 q18 /\
 (∃ (x_1 : Nat), x_1 <= q3 /\ q5 = (↑x_1 : Int) /\ (x.1, List.replicate q26 q5, q4, List.replicate q26 (q15.getD q10 (([] : List tI.den))), q14, List.replicate q27 q5, List.replicate q27 (q17.getD q10 (0 : tI.den)), q7) = (x.1, q28, Sp.memI x_1, q29) /\ q19) /\
 ∀ (x_1 : Nat),
 let q30 : Sp.VSt := (x.1, q28, Sp.memI x_1, q29);
 let q31 : Bool := decide ((↑x_1 : Int) < (3 : Int));
 let q32 : Int := (↑x_1 : Int) + q11;
 x_1 <= q3 -> aD tI (↑x_1 : Int) /\ aD (tLit.prod (tI.slice.prod ((Ty.arr q3 tMsg.slice).prod ((Ty.arr q3 tI).slice.prod ((Ty.arr q3 tI).prod (tI.slice.prod bO)))))) q30 /\ True -> q18 /\ (q31 = true -> (q1 /\ True) /\ ((True /\ True /\ True /\ True /\ inN (↑x_1 : Int) q3 /\ True) /\ True /\ True) /\ ((inK IntKind.i64 q32 /\ True /\ True) /\ True) /\ ∃ (y : Nat), y <= q3 /\ q3 - y < q3 - x_1 /\ q32 = (↑y : Int) /\ (x.1, q28, (Sp.memI x_1).set (↑x_1 : Int).toNat ((q12, q5, false, ()) :: ([] : List tMsg.den)), q29) = (x.1, q28, Sp.memI y, q29) /\ q19) /\ (q31 = false -> q2 /\ (q30, q5, ()) = q22))) := by kernel_rfl
end Go.User
namespace Sp
theorem memI_succ {n : Nat} (h : n < 3) : (memI n).set n [m0] = memI (n + 1) := by
 have : n = 0 ∨ n = 1 ∨ n = 2 := by omega
 rcases this with rfl | rfl | rfl <;> rfl
theorem valid_iff {t : Lit} : valid t = true ↔ 1 <= t.1.length /\ t.1.length <= 4 /\ 1 <= aB t.1 /\ aB t.1 <= 6 /\ ∀ o ∈ cat t.1, usual o = true := by
 unfold valid
 have e : (!((cat t.1).any fun o => !usual o)) = true ↔ ∀ o ∈ cat t.1, usual o = true := by
  rw [Bool.not_eq_true', List.any_eq_false];constructor
  ·intro h o ho
   have := h o ho
   cases hu : usual o
   ·rw [hu] at this; exact absurd rfl this
   ·rfl
  ·intro h o ho
   rw [h o ho]; decide
 rw [Bool.and_eq_true, Bool.and_eq_true, Bool.and_eq_true, Bool.and_eq_true, e, decide_eq_true_eq, decide_eq_true_eq, decide_eq_true_eq, decide_eq_true_eq]
 constructor
 ·rintro ⟨⟨⟨⟨h1, h2⟩, h3⟩, h4⟩, h5⟩
  exact ⟨h1, h2, h3, h4, h5⟩
 ·rintro ⟨h1, h2, h3, h4, h5⟩
  exact ⟨⟨⟨⟨h1, h2⟩, h3⟩, h4⟩, h5⟩
end Sp
namespace Go.User
open Go.Lf Go.Proofs
theorem ok42 : FOk Try.prog 42 S42 := by
 have hC : aJ Try.prog C42 := okC (aG okCat (aG ok76 (aG ok77 fns_nil))) rfl rfl rfl rfl rfl rfl rfl
 refine FOk.intro hC (aW hC) Try.call42 Try.func42 (by kernel_rfl) (by kernel_rfl) L42 (vc42.mpr ?_)
 simp only [zz, zy]
 rintro ⟨t, u⟩ h hx
 have h : Sp.aB t.1 <= 1000 := h
 have hc := Sp.cat_len t.1
 refine ⟨h, ?_⟩
 show (decide ((1 : Int) <= (t.1.length : Int)) && decide ((t.1.length : Int) <= 4) && decide ((1 : Int) <= ((Sp.cat t.1).length : Int)) && decide (((Sp.cat t.1).length : Int) <= 6) && !((Sp.cat t.1).any fun e => !Sp.usual e)) = Sp.valid t
 unfold Sp.valid
 rw [hc]
 have e1 : decide ((1 : Int) <= (t.1.length : Int)) = decide (1 <= t.1.length) := decide_eq_decide.2 (by omega)
 have e2 : decide ((t.1.length : Int) <= 4) = decide (t.1.length <= 4) := decide_eq_decide.2 (by omega)
 have e3 : decide ((1 : Int) <= ((Sp.aB t.1 : Nat) : Int)) = decide (1 <= Sp.aB t.1) := decide_eq_decide.2 (by omega)
 have e4 : decide (((Sp.aB t.1 : Nat) : Int) <= 6) = decide (Sp.aB t.1 <= 6) := decide_eq_decide.2 (by omega)
 rw [e1, e2, e3, e4]
theorem ok19 : FOk Try.prog 19 S19 := by
 have hC : aJ Try.prog C19 := okC (aG ok42 (aG okCat (aG ok44 (aG ok45 fns_nil)))) rfl rfl rfl rfl rfl rfl rfl
 refine FOk.intro hC (aW hC) Try.call19 Try.func19 (by kernel_rfl) (by kernel_rfl) L19 (vc19.mpr ?_)
 simp only [zz, zy]
 rintro ⟨t, u⟩ h hx
 have h : Sp.aB t.1 <= 1000 := h
 have hc := Sp.cat_len t.1
 refine ⟨h, fun hv => ?_, fun hv => ?_⟩
 ·have hv : Sp.valid t = false := by simpa using hv
  show (Sp.stZ, (300 : Int), ()) = (Sp.stA t, Sp.errA t, ())
  unfold Sp.stA Sp.errA;rw [if_neg (by rw [hv]; decide), if_neg (by rw [hv]; decide)]
 ·have hv : Sp.valid t = true := by simpa using hv
  obtain ⟨v1, v2, v3, v4, v5⟩ := Sp.valid_iff.1 hv;have hmx : aN = 2147483648 := rfl;refine ⟨h, ⟨⟨Int.natCast_nonneg _, Int.le_refl _, ?_⟩, ⟨by show (1 : Int) <= (t.1.length : Int); omega, ?_⟩, ⟨Int.natCast_nonneg _, Int.le_refl _, ?_⟩, by show (1 : Int) <= ((Sp.cat t.1).length : Int); omega, ?_⟩, ⟨0, by omega, rfl, ?_⟩, fun n hn _ => ⟨fun hlt => ⟨⟨by omega, hlt⟩, bE (by omega) (by omega), n + 1, ?_, ?_, ?_, ?_⟩, fun hge => ?_⟩⟩
  ·show (t.1.length : Int) <= aN; omega
  ·show (t.1.length : Int) <= 4; omega
  ·show ((Sp.cat t.1).length : Int) <= aN; omega
  ·show ((Sp.cat t.1).length : Int) <= 6; omega
  ·show (t, List.replicate t.1.length (0 : Int), List.replicate 3 ([] : List Sp.Msg), List.replicate t.1.length Sp.v0, Sp.v0, List.replicate (Sp.cat t.1).length (0 : Int), List.replicate (Sp.cat t.1).length (-1 : Int), ([] : List Int), ()) = Sp.stI t 0
   rw [hc]; rfl
  ·have hlt : (n : Int) < 3 := hlt
   omega
  ·have hlt : (n : Int) < 3 := hlt
   omega
  ·omega
  ·have hlt : (n : Int) < 3 := hlt
   show (t, Sp.zeros t.1.length, (Sp.memI n).set n [Sp.m0], Sp.views t.1.length, Sp.v0, Sp.zeros (Sp.aB t.1), Sp.froms (Sp.aB t.1), ([] : List Int), ()) = Sp.stI t (n + 1)
   rw [Sp.memI_succ (by omega)]; rfl
  ·have hn : n <= 3 := hn
   have hge : (3 : Int) <= (n : Int) := hge
   have hn3 : n = 3 := by omega
   subst hn3;show (Sp.start t, (0 : Int), ()) = (Sp.stA t, Sp.errA t, ());unfold Sp.stA Sp.errA;rw [if_pos hv, if_pos hv]
end Go.User
namespace Go.Lf
section
variable {P : Program} {C : Ctx} {N : NP} {w0 : World} {F0 H : aA} {env : St} {a : Act} {w : World} {F : aA} {S : Nat -> aA} {d : Nat}

theorem aM.know (hi : aM P N w0 F0 H env a w F S) {t : Nat} (ht : env t = .dead) {e : Ent} (ho : e.isOwner = false) (hr : e.root = none) (he : aF P F w env (fun t => a.tmps.getD t undef) S t e) :
  aM P N w0 F0 H (upd env t e) a w F S := by
 have keep : ∀ u (x : Ent), aF P F w env (fun t => a.tmps.getD t undef) S u x -> aF P F w (upd env t e) (fun t => a.tmps.getD t undef) S u x := by
  intro u x h;refine aF.keep (fun _ h => h) (fun _ _ => rfl) rfl ?_ ?_ h
  ·intro q hq
   refine ⟨fun hoq => ?_, fun _ => rfl, rfl, fun _ _ => rfl, fun b h1 h2 => absurd h1 h2, fun b hb => (hi.sb q b hb).2.2⟩
   have hqt : q ≠ t := fun e => by rw [e, ht] at hoq; cases hoq
   rw [a5 _ _ hqt]
  ·intro _
   exact ⟨rfl, fun _ _ => rfl, fun b h1 h2 => absurd h1 h2⟩
 refine ⟨hi.os, hi.tape, hi.output, hi.size, hi.block, hi.fb, hi.f0, hi.fn, hi.sb, hi.sd, ?_, hi.defers, hi.slots⟩
 intro u
 by_cases h : u = t
 ·subst h; rw [bS]; exact keep u e he
 ·rw [a5 _ _ h]; exact keep u _ (hi.ent u)

theorem aM.share (hi : aM P N w0 F0 H env a w F S) {s : Nat} {τ : Ty} {m : Md} {x : τ.den} (hs : env s = .box τ m x) {w' : World} {σ : Ty} {y : σ.den}
  (h1 : w'.os = w.os) (h2 : w'.tape = w.tape) (h3 : w'.output = w.output) (h4 : w'.heap.size = w.heap.size) (h5 : ∀ k, k < w.heap.size -> ¬ S s k -> w'.heap[k]? = w.heap[k]?)
  (he : SAddr (fun b => F b ∨ S s b) w' (a.tmps.getD s undef) σ y) :
  aM P N w0 F0 H (upd (Go.Lf.drop env s) s (.saddr σ y)) a w' (fun b => F b ∨ S s b) (fun t => if t = s then none' else S t) := by
 have hi1 := hi.drop s
 have hi2 := hi1.worldZ (w' := w') (F' := fun b => F b ∨ S s b) (Z := S s) h1 h2 h3 (by omega) h5 (fun k hk => ⟨(hi.sb s k hk).1, (hi.sb s k hk).2.2, fun t ht => by
   by_cases h : t = s
   ·simp only [h, if_true] at ht; exact ht
   ·simp only [h, if_false] at ht; exact hi.sd t s h k ht hk⟩) (fun b hb => .inl hb) (fun b hb => by
   rcases hb with hb | hb
   ·have := hi.fb b hb; omega
   ·have := (hi.sb s b hb).2.1; omega) (fun b hb hn => .inr (hb.resolve_left hn))
 exact hi2.know (e := .saddr σ y) (by unfold Go.Lf.drop; rw [bS]) rfl rfl he

theorem bind_self (hC : aJ P C) (hi : aM P N w0 F0 H env a w F S) {T : TypeId} {f gf : FuncId} {d s p g : Nat} {τ : Ty} {m mg ms : Md} {x : τ.den} {z : Abs.den .kno} {ops : Array Oper} {o1 o2 : Oper} {Q : Exit -> Act -> World -> Prop}
  (hops : ops.toList = [o1, o2]) (h1 : o1.op = .makeFunc (.func f) #[] #[.tmp s, .tmp p, .tmp g]) (h2 : o1.dst = some d) (h3 : o1.guard = none) (h4 : o2.op = .store T (.tmp s) (.tmp d)) (h5 : o2.dst = none) (h6 : o2.guard = none)
  (hT : look C.tys T = some (.abs .kno)) (hd : Wr N d) (hds : d ≠ s) (hdp : d ≠ p) (hdg : d ≠ g) (hsp : s ≠ p) (hsg : s ≠ g) (hpg : p ≠ g)
  (es : env s = .box (.abs .kno) ms z) (ep : env p = .box τ m x) (eg : env g = .box (.abs .clo) mg (some (gf, [])))
  (hK : ∀ q a' w' F' S', a'.tmps.getD p undef = .pointer (some ⟨q, 0, none⟩) -> aM P N w0 F0 H (upd (Go.Lf.drop (Go.Lf.put (upd (bP env g) g (.saddr (.abs .clo) (some (gf, [])))) d .dead) s) s (.saddr (.abs .kno) (some (f, [.self, .own q, .fn gf])))) a' w' F' S' -> Q .normal a' w') :
  wpOps P ops Q (List.range' 0 ops.size) a w := by
 have hsz : ops.size = 2 := by have := congrArg List.length hops; simpa using this
 have g0 : ops[0]? = some o1 := by have : ops.toList[0]? = some o1 := (by rw [hops]; rfl); simpa using this
 have g1 : ops[1]? = some o2 := by have : ops.toList[1]? = some o2 := (by rw [hops]; rfl); simpa using this
 rw [hsz]
 have hpv : ∃ q, a.tmps.getD p undef = .pointer (some ⟨q, 0, none⟩) := by
  have h := hi.ent p
  rw [ep] at h;obtain ⟨pl, S0, cs, hr⟩ := h;obtain ⟨_, _, b, _, _, hv, _⟩ := hr.box_inj;exact ⟨b, hv⟩
 obtain ⟨q, hq⟩ := hpv
 have hi1 := hi.freeze eg
 obtain ⟨env1, henv1⟩ : ∃ env1, env1 = upd (bP env g) g (.saddr (.abs .clo) (some (gf, []))) := ⟨_, rfl⟩
 rw [<- henv1] at hi1 hK
 have hk : ∀ t, t ≠ g -> (env t).isOwner = true -> env1 t = env t := by
  intro t h1 h2;rw [henv1, a5 _ _ h1];unfold bP killE;rw [Ent.owner_root h2]
 have es1 : env1 s = .box (.abs .kno) ms z := by rw [hk s hsg (by rw [es]; rfl), es]
 have eg1 : env1 g = .saddr (.abs .clo) (some (gf, [])) := by rw [henv1, bS]
 obtain ⟨v, hv⟩ : ∃ v, v = Value.func (.func f) #[] #[a.tmps.getD s undef, a.tmps.getD p undef, a.tmps.getD g undef] := ⟨_, rfl⟩
 have hrun1 : (execOp a.eval o1).run P w = .ok (.value v) w := by
  rw [hv]; simp [execOp, h1, Instr.makeFunc, Act.eval]
 have hi2 := hi1.put (d := d) (e := .dead) (v := v) (w' := w) (Sd := none') hd (RowKit.Below.refl _ _) (fun _ h => h) hi1.fb (fun b h1 h2 => absurd h1 h2) (fun b h => h.elim) trivial
 obtain ⟨env2, henv2⟩ : ∃ env2, env2 = Go.Lf.put env1 d .dead := ⟨_, rfl⟩
 rw [<- henv2] at hi2 hK
 have hkeep2 : ∀ t, t ≠ d -> (env1 t).root ≠ some d -> env2 t = env1 t := by
  intro t h1 h2;rw [henv2];unfold Go.Lf.put;cases (env1 d).isOwner
  ·simp only [cond_false]; rw [a5 _ _ h1]
  ·simp only [cond_true]
   rw [a5 _ _ h1];exact killE_same h2
 have es2 : env2 s = .box (.abs .kno) ms z := by rw [hkeep2 s (Ne.symm hds) (by rw [es1]; intro h; cases h), es1]
 have eg2 : env2 g = .saddr (.abs .clo) (some (gf, [])) := by rw [hkeep2 g (Ne.symm hdg) (by rw [eg1]; intro h; cases h), eg1]
 refine ops_value (v := v) g0 h3 hrun1 ?_
 rw [h2]
 have hval : ∀ t, t ≠ d -> (a.put (some d) v).tmps.getD t undef = a.tmps.getD t undef := fun t ht => by rw [Act.getD_put (by rw [hi.slots.size]; exact hd.1), if_neg ht]
 have hvd : (a.put (some d) v).tmps.getD d undef = v := by rw [Act.getD_put (by rw [hi.slots.size]; exact hd.1), if_pos rfl]
 obtain ⟨F2, hF2⟩ : ∃ F2 : aA, F2 = (fun b => F b ∨ S g b) := ⟨_, rfl⟩
 rw [<- hF2] at hi2
 generalize (fun t => if t = d then none' else (fun t => if t = g then none' else S t) t) = S2 at hi2
 have hs2 := hi2.ent s
 rw [es2] at hs2
 obtain ⟨pl, S0, cs, hR⟩ := hs2
 obtain ⟨_, _, b, rfl, hS0, hvs, hsb⟩ := hR.box_inj
 obtain ⟨q1, q2, row, T0, q3, q4, q5⟩ := hR.2.1
 have hbb := hi2.sb s b hsb
 have hone : v.oneCell' = true := by rw [hv]; rfl
 obtain ⟨w', k1, k2, k3, k4, k5, k6, k7⟩ := (hC.types T _ hT).storeVar (P := P) (cs := [v]) q3 q4 rfl (by intro u hu; rw [List.mem_singleton.1 hu]; exact hone)
 obtain ⟨e1, orow, row', T', e3, e4, e5, e6⟩ := k2
 have hrun2 : (execOp (a.put (some d) v).eval o2).run P w = .ok .skip w' := by
  have hs' : (a.put (some d) v).eval (.tmp s) = .pointer (some ⟨b, 0, none⟩) := hvs
  have hd' : (a.put (some d) v).eval (.tmp d) = v := hvd
  have k1' : (storeVar T ⟨b, 0, none⟩ v).run P w = .ok () w' := k1
  simp [execOp, h4, Instr.storeAt, hs', hd', Instr.sureAddr, k1']
 refine ops_skip g1 h6 hrun2 h5 (ops_nil ?_)
 have hgs := hi2.ent g
 rw [eg2] at hgs
 have hgs : SAddr F2 w ((a.put (some d) v).tmps.getD g undef) (.abs .clo) (some (gf, [])) := hgs
 have hrl : 1 <= row'.size := by
  have := congrArg List.length e6
  simp only [Array.length_toList, List.length_append, List.length_singleton] at this;omega
 have hrow' : seg row'.toList 0 1 = [v] := by
  rw [e6];simp [seg]
 refine hK q _ w' _ _ (by rw [hval p (Ne.symm hdp)]; exact hq) (hi2.share es2 k5 k6 k7 (by omega) (fun k hk hn => k3 k (fun e => hn (e ▸ hsb))) ?_)
 refine ⟨b, 0, row', T', (0, 0), hvs, .inr hsb, e4, by show 0 + 1 <= row'.size; omega, ?_⟩
 show AbsOK _ w' .kno (seg row'.toList 0 1) _
 rw [hrow']
 refine ⟨_, by rw [hv], ?_⟩
 have hcell : CellAt (fun b => F2 b ∨ S2 s b) w' (a.tmps.getD s undef) v := by
  refine ⟨b, 0, row', T', (0, 0), ?_, .inr hsb, e4, ?_⟩
  ·rw [<- hval s (Ne.symm hds)]; exact hvs
  ·have := congrArg (fun l => l[0]?) hrow'
   simpa [seg] using this
 refine ⟨_, _, rfl, by rw [<- hv]; exact hcell, _, _, rfl, hq, _, _, rfl, ?_, rfl⟩
 obtain ⟨gb, goff, grow, gT, gfr, j1, j2, j3, j4, caps, j5, j6⟩ := hgs
 refine ⟨gb, goff, grow, gT, gfr, by rw [<- hval g (Ne.symm hdg)]; exact j1, .inl j2, ?_, ?_⟩
 ·rw [k3 gb (fun e => hbb.2.2 (e ▸ j2))]; exact j3
 ·have hc0 : caps = #[] := by
   cases hcl : caps.toList with
   | nil => apply Array.ext'; simpa using hcl
   | cons u us => rw [hcl] at j6; obtain ⟨_, _, h, _⟩ := j6; cases h
  subst hc0;have j5 : seg grow.toList goff 1 = [Value.func (.func gf) #[] #[]] := j5
  have := congrArg (fun l => l[0]?) j5
  simpa [seg] using this
end
end Go.Lf
namespace Go.Lf

def selfSt (st : St) (f gf : FuncId) (d s g q : Nat) : St :=
 upd (Go.Lf.drop (Go.Lf.put (upd (bP st g) g (.saddr (.abs .clo) (some (gf, [])))) d .dead) s) s (.saddr (.abs .kno) (some (f, [.self, .own q, .fn gf])))
def selfB (C1 : Ctx) (T : TypeId) (d d' s s' p p' g : Nat) : Bool :=
 Nat.beq s s' && Nat.beq d d' && Nat.beq p p' && wrB C1 d && !Nat.beq d s && !Nat.beq d p && !Nat.beq d g && !Nat.beq s p && !Nat.beq s g && !Nat.beq p g && decide (look C1.tys T = some (.abs .kno))
def selfP (C1 : Ctx) (p : Nat) (ops : List Oper) (st : St) (Φ : Nat -> St -> Prop) : Prop := match ops with
 | [o1, o2] => (match o1.op, o1.dst, o1.guard, o2.op, o2.dst, o2.guard with
  | .makeFunc (.func f) first caps, some d, none, .store T (.tmp s) (.tmp d'), none, none => (match first.toList, caps.toList with
   | [], [.tmp s', .tmp p', .tmp g] => (match st s, st p, st g with
    | .box (.abs .kno) _ _, .box _ _ _, .box (.abs .clo) _ (some (gf, [])) => bif selfB C1 T d d' s s' p p' g then ∀ q, Φ q (selfSt st f gf d s g q) else False
    | _, _, _ => False)
   | _, _ => False)
  | _, _, _, _, _, _ => False)
 | _ => False
def wpS (C1 : Ctx) (stp1 : St -> Oper -> Option (Prop × St)) (C2 : Nat -> Ctx) (stp2 : Nat -> St -> Oper -> Option (Prop × St)) (p : Nat) (L1 : List aS) (L2 : Nat -> List aS) :
  Nat -> Code -> Nat -> St -> (St -> Prop) -> (Nat -> St -> Prop) -> (St -> Prop) -> Prop
 | n + 1, .seq a b, k, st, Qn, Qx, Qr => wpI C1 stp1 L1 a k st (fun st' => wpS C1 stp1 C2 stp2 p L1 L2 n b (k + nl a) st' Qn Qx Qr) Qx Qr
 | 0, .seq (.region _ ops false) c, k, st, Qn, Qx, Qr => selfP C1 p ops.toList st fun q st' => wpI (C2 q) (stp2 q) (L2 q) c k st' Qn Qx Qr
 | _, _, _, _, _, _, _ => False
def funS (C1 : Ctx) (stp1 : St -> Oper -> Option (Prop × St)) (C2 : Nat -> Ctx) (stp2 : Nat -> St -> Oper -> Option (Prop × St)) (p n : Nat) (s : aU) (L1 : aO s.args -> List aS) (L2 : Nat -> aO s.args -> List aS) (fn : Func) : Prop :=
 match fn.body with
 | some c => ∀ x, s.pre x -> factsK s.args x -> wpS C1 stp1 C2 stp2 p (L1 x) (fun q => L2 q x) n c 0 (ofL (b9 s.args x 0)) (retP C1 fn.results.toList s (s.fn x)) (fun _ _ => False) (retP C1 fn.results.toList s (s.fn x))
 | none => False

section
variable {P : Program} {w0 : World} {F0 H : aA}
theorem nbeq_no {a b : Nat} (h : Nat.beq a b = false) : a ≠ b := fun e => by rw [e, Nat.beq_refl] at h; cases h
theorem kill_box {st : St} {r p : Nat} {τ : Ty} {m : Md} {x : τ.den} (h : st p = .box τ m x) : bP st r p = .box τ m x := by
 unfold bP killE; rw [h]; rfl
theorem selfP_ok {C1 : Ctx} {C2 : Nat -> Ctx} {p : Nat} (hC1 : aJ P C1) (hp : C1.pin = none) (hnp : ∀ q, (C2 q).np = ⟨C1.N, some p, q⟩) {ops : Array Oper} {st : St} {Φ : Nat -> St -> Prop} {Q : Exit -> Act -> World -> Prop} {a : Act} {w : World} {id : Nat}
  (h : selfP C1 p ops.toList st Φ) (hi : Inv P C1.np w0 F0 H st a w)
  (hQ : ∀ q st' a' w' F S, Φ q st' -> Inv P C1.np w0 F0 H st' a' w' -> aM P (C2 q).np w' F (fun b => ∃ t, S t b) st' a' w' F S -> aM P C1.np w0 F0 H st' a' w' F S -> Q .normal a' w') :
  (Code.region id ops false).wp P Q a w := by
 unfold selfP at h
 split at h
 ·rename_i o1 o2 hops
  split at h
  ·rename_i f first caps d T s d' h1 h2 h3 h4 h5 h6
   split at h
   ·rename_i s' p' g hfirst hcaps
    split at h
    ·rename_i ms z τ m x mg gf es ep eg
     cases hb : selfB C1 T d d' s s' p p' g
     ·rw [hb] at h; exact h.elim
     rw [hb] at h;simp only [cond_true] at h;simp only [selfB, Bool.and_eq_true, Bool.not_eq_true', decide_eq_true_eq, aT] at hb;obtain ⟨⟨⟨⟨⟨⟨⟨⟨⟨⟨rfl, rfl⟩, rfl⟩, hw⟩, n1⟩, n2⟩, n3⟩, n4⟩, n5⟩, n6⟩, hT⟩ := hb;have hf0 : first = #[] := by apply Array.ext'; simpa using hfirst
     have hcp : caps = #[.tmp s, .tmp p, .tmp g] := by apply Array.ext'; simpa using hcaps
     subst hf0 hcp;obtain ⟨F, S, hi⟩ := hi;refine wp_region ?_;rw [List.range_eq_range'];refine bind_self hC1 hi hops h1 h2 h3 h4 h5 h6 hT (wrB_iff hw) (nbeq_no n1) (nbeq_no n2) (nbeq_no n3) (nbeq_no n4) (nbeq_no n5) (nbeq_no n6) es ep eg ?_;intro q a' w' F' S' hq hinv;have epn : selfSt st f gf d s g q p = .box τ m x := by
      have e1 : (upd (bP st g) g (.saddr (.abs .clo) (some (gf, [])))) p = .box τ m x := by
       rw [a5 _ _ (nbeq_no n6)]; exact kill_box ep
      have e2 : (Go.Lf.put (upd (bP st g) g (.saddr (.abs .clo) (some (gf, [])))) d .dead) p = .box τ m x := by
       unfold Go.Lf.put;cases ((upd (bP st g) g (.saddr (.abs .clo) (some (gf, [])))) d).isOwner
       ·simp only [cond_false]; rw [a5 _ _ (Ne.symm (nbeq_no n2)), e1]
       ·simp only [cond_true]
        rw [a5 _ _ (Ne.symm (nbeq_no n2))];exact kill_box e1
      unfold selfSt;rw [a5 _ _ (Ne.symm (nbeq_no n4))];unfold Go.Lf.drop;rw [a5 _ _ (Ne.symm (nbeq_no n4))];exact kill_box e2
     obtain ⟨q', hq'⟩ := hinv.rebase epn;have hqq : q' = q := by
      have := hq'.slots.pin p rfl
      rw [hq] at this;injection this with this;injection this with this;injection this with this;exact this.symm
     subst hqq;refine hQ q' _ a' w' F' S' (h q') ⟨F', S', hinv⟩ ?_ hinv;rw [hnp];exact hq'
    ·exact h.elim
   ·exact h.elim
  ·exact h.elim
 ·exact h.elim

theorem wpS_ok {C1 : Ctx} {C2 : Nat -> Ctx} {stp1 : St -> Oper -> Option (Prop × St)} {stp2 : Nat -> St -> Oper -> Option (Prop × St)} {p : Nat} (hC1 : aJ P C1) (hstp1 : StpOK P C1 stp1) (hC2 : ∀ q, aJ P (C2 q)) (hstp2 : ∀ q, StpOK P (C2 q) (stp2 q))
  (hp : C1.pin = none) (hnp : ∀ q, (C2 q).np = ⟨C1.N, some p, q⟩) {L1 : List aS} {L2 : Nat -> List aS} :
  ∀ (n : Nat) (c : Code) {k : Nat} {st : St} {Qn : St -> Prop} {Qx : Nat -> St -> Prop} {Qr : St -> Prop} {Q : Exit -> Act -> World -> Prop} {a : Act} {w : World}, wpS C1 stp1 C2 stp2 p L1 L2 n c k st Qn Qx Qr -> Inv P C1.np w0 F0 H st a w ->
   (∀ st a w, Qn st -> Inv P C1.np w0 F0 H st a w -> Q .normal a w) -> (∀ i st a w, Qx i st -> Inv P C1.np w0 F0 H st a w -> Q (.exit i) a w) -> (∀ st a w, Qr st -> Inv P C1.np w0 F0 H st a w -> Q .ret a w) -> c.wp P Q a w := by
 intro n
 induction n with
 | zero =>
  intro c k st Qn Qx Qr Q a w h hi hn hx hr;cases c with
  | seq x c =>
   cases x with
   | region id ops dr =>
    cases dr with
    | false =>
     simp only [wpS] at h;refine wp_seq (selfP_ok hC1 hp hnp h hi ?_);intro q st' a' w' F S hΦ hi' hi2 hi3;have hN : C1.np.p = none := hp;have e1 : (C2 q).np = ⟨C1.np.n, some p, q⟩ := hnp q;have back : ∀ st2 a2 w2, Inv P (C2 q).np w' F (fun b => ∃ t, S t b) st2 a2 w2 -> Inv P C1.np w0 F0 H st2 a2 w2 := by
      rintro st2 a2 w2 ⟨F2, S2, h2⟩
      rw [e1] at h2;exact ⟨F2, S2, hi3.unbase hN h2⟩
     refine wpI_ok (hC2 q) (hstp2 q) c hΦ ⟨F, S, hi2⟩ ?_ ?_ ?_
     ·intro st2 a2 w2 h2 hi2; exact hn _ _ _ h2 (back _ _ _ hi2)
     ·intro i st2 a2 w2 h2 hi2; exact hx _ _ _ _ h2 (back _ _ _ hi2)
     ·intro st2 a2 w2 h2 hi2; exact hr _ _ _ h2 (back _ _ _ hi2)
    | true => simp [wpS] at h
   | _ => simp [wpS] at h
  | _ => simp [wpS] at h
 | succ n ih =>
  intro c k st Qn Qx Qr Q a w h hi hn hx hr;cases c with
  | seq x y =>
   simp only [wpS] at h;refine wp_seq (wpI_ok hC1 hstp1 x h hi ?_ hx hr);intro st1 a1 w1 h1 hi1;exact ih y h1 hi1 hn hx hr
  | _ => simp [wpS] at h
theorem FOk.introS {C1 : Ctx} {C2 : Nat -> Ctx} {stp1 : St -> Oper -> Option (Prop × St)} {stp2 : Nat -> St -> Oper -> Option (Prop × St)} {p n : Nat} (hC1 : aJ P C1) (hstp1 : StpOK P C1 stp1) (hC2 : ∀ q, aJ P (C2 q)) (hstp2 : ∀ q, StpOK P (C2 q) (stp2 q))
  {f : FuncId} {s : aU} {fn : Func} (hdef : FnDef P f) (hf : P.funcs[f]? = some fn) (hN : C1.np = ⟨fn.ntmps, none, 0⟩) (hnp : ∀ q, (C2 q).np = ⟨fn.ntmps, some p, q⟩)
  (hlen : Nat.ble s.args.length fn.ntmps = true) (L1 : aO s.args -> List aS) (L2 : Nat -> aO s.args -> List aS) (h : funS C1 stp1 C2 stp2 p n s L1 L2 fn) : FOk P f s := by
 refine ⟨hdef, ?_⟩
 intro w F vs xs hF ha hp
 unfold funS at h
 split at h
 ·rename_i c hb
  have hl := bZ.len ha
  have hlen' : s.args.length <= fn.ntmps := Nat.le_of_ble_eq_true hlen
  have hst := aM.start (P := P) (N := C1.np) hF ha (by rw [hN]; show vs.length <= fn.ntmps; omega) (by rw [hN])
  have e1 : C1.N = fn.ntmps := by have : C1.np.n = fn.ntmps := (by rw [hN]); exact this
  have e2 : C1.pin = none := by have : C1.np.p = none := (by rw [hN]); exact this
  refine calls_of_wp hf hb ?_
  rw [show C1.np.n = fn.ntmps by rw [hN]] at hst
  refine wpS_ok hC1 hstp1 hC2 hstp2 e2 (fun q => by rw [hnp, e1]) n c (h xs hp (factsK_ok ha)) ⟨F, _, by simpa using hst⟩ ?_ (fun _ _ _ _ h => h.elim) ?_
  ·intro st a w' hq hi
   obtain ⟨v, h1, h2⟩ := retP_ok hC1 hq hi;obtain ⟨_, _, hi⟩ := hi;exact ⟨hi.defers, v, h1, h2⟩
  ·intro st a w' hq hi
   obtain ⟨v, h1, h2⟩ := retP_ok hC1 hq hi;obtain ⟨_, _, hi⟩ := hi;exact ⟨hi.defers, v, h1, h2⟩
 ·cases h
end
end Go.Lf
namespace Sp
def outs (t : Lit) : List Out := if valid t = true then visit (aB t.1) (start t) [] else []
end Sp
namespace Go.User
open Go.Lf
def S39 : aU := { args := [.val tLit], multi := true, res := .prod (.slice bO) (.prod tI .unit), mode := .shr, pre := fun x => Sp.aB x.1.1 <= 1000, fn := fun x => (Sp.outs x.1, Sp.errA x.1, ()) }
def t39 (q : Nat) : KSpec := { f := 71, l := [.self, .own q, .fn 68], τ := .slice bO, m := .own .shr, args := [.val tVSt], pre := fun x y => Sp.okV (Sp.left y.1) x y.1, fn := fun x y => Sp.visit (Sp.left y.1) y.1 x }
def C39a : Ctx := mkS 22 [(19, S19)]
def C39b (q : Nat) : Ctx := { mkS 22 [] with tys := cC q, pin := some 7, q := q, kno := some (t39 q) }
def p39 : Nat := 7
def n39 : Nat := 6
def L39a (x : aO S39.args) : List aS := []
def L39b (q : Nat) (x : aO S39.args) : List aS := []
end Go.User
namespace Go.User
open Go.Proofs Go.Lf
set_option maxRecDepth 100000
theorem vc39 : (funS C39a (stpS C39a) C39b (fun q => stpS (C39b q)) p39 n39 S39 L39a L39b Try.f39) = (
let q0 : Nat := (1000 : Nat);
let q1 : Prop := True /\ True /\ True;
let q2 : Prop := True /\ q1;
let q3 : Prop := q2 /\ True;
let q4 : Int := (0 : Int);
let q5 : Prop := (True /\ True) /\ True;
∀ (x : Sp.Lit × Unit),
 let q6 : Prop := Sp.aB x.1.1 <= q0;
 let q7 : Bool := Sp.errA x.1 != q4;
 let q8 : Int × Unit := (Sp.errA x.1, ());
 let q9 : List Sp.Out × Int × Unit := (Sp.outs x.1, q8);
 let q10 : Nat := Sp.left (Sp.stA x.1);
 q6 -> aD tLit x.1 /\ True -> q3 /\ ((True /\ q6 /\ True /\ q2) /\ q1) /\ (q1 /\ True) /\ (q7 = true -> q3 /\ (([] : List bO.den), q8) = q9) /\ (q7 = false -> ((True /\ True) /\ True /\ True) /\ q5 /\ q5 /\ ∀ (q : Nat), (q1 /\ (Option.some ((71 : Nat), KI.self :: KI.own q :: KI.fn (68 : Nat) :: ([] : List KI)) = Option.some ((71 : Go.FuncId), KI.self :: KI.own q :: KI.fn (68 : Go.FuncId) :: ([] : List KI)) /\ Sp.okV q10 (([] : List bO.den)) (Sp.stA x.1)) /\ True) /\ q3 /\ (Sp.visit q10 (Sp.stA x.1) (([] : List bO.den)), q4, ()) = q9)) := by kernel_rfl
end Go.User
namespace Sp
theorem usual_place {o : LOp} (h : usual o = true) : 0 <= o.2.1 /\ o.2.1 < 3 := by
 unfold usual at h
 split at h
 ·simp only [Bool.and_eq_true, decide_eq_true_eq] at h; omega
 ·split at h
  ·simp only [Bool.and_eq_true, decide_eq_true_eq] at h; omega
  ·simp only [Bool.and_eq_true, decide_eq_true_eq] at h; omega
theorem rep_get {α : Type} {n c : Nat} (h : c < n) (a d : α) : (List.replicate n a).getD c d = a := by
 rw [Pl.b8 (by rw [List.length_replicate]; exact h), List.getElem_replicate]
theorem start_pc (t : Lit) (c : Nat) : bA (start t) c = 0 := by
 show (List.replicate t.1.length (0 : Int)).getD c 0 = 0
 by_cases h : c < t.1.length
 ·rw [rep_get h]
 ·rw [Pl.getD_out (by rw [List.length_replicate]; omega)]
theorem start_mem (t : Lit) {x : Nat} (h : x < 3) : aC (start t) x = [m0] := by
 have : x = 0 ∨ x = 1 ∨ x = 2 := by omega
 rcases this with rfl | rfl | rfl <;> rfl
theorem start_row (t : Lit) {c : Nat} (h : c < t.1.length) : rowOf (start t) c = v0 := rep_get h _ _
theorem v0_get {x : Nat} (h : x < 3) : v0.getD x 0 = -1 := by
 have : x = 0 ∨ x = 1 ∨ x = 2 := by omega
 rcases this with rfl | rfl | rfl <;> rfl
theorem start_left (t : Lit) : left (start t) = aB t.1 := by
 unfold left aB
 congr 1
 refine List.ext_getElem (by show ((List.range t.1.length).map _).length = (t.1.map List.length).length; simp) fun i h1 h2 => ?_
 simp only [List.getElem_map, List.getElem_range]
 have hi : i < t.1.length := by simpa using h2
 rw [start_pc]
 show (t.1.getD i []).length - 0 = _
 rw [Pl.b8 hi]; rfl
theorem start_good {t : Lit} (h : valid t = true) : Good (start t) := by
 obtain ⟨v1, v2, v3, v4, v5⟩ := valid_iff.1 h
 have hsee : ∀ x, x < 3 -> 0 <= plc [m0] (-1) := fun _ _ => by decide
 refine ⟨⟨by show t.1.length <= 1000; omega, by show aB t.1 <= 1000; omega, List.length_replicate, ?_, ?_, rfl, ?_, List.length_replicate, ?_, ?_, rfl, ?_, List.length_replicate, List.length_replicate, Nat.zero_le _⟩, v2, by show aB t.1 <= 8; omega, ?_, ?_⟩
 ·intro c hc
  rw [start_pc];exact ⟨Int.le_refl _, Int.natCast_nonneg _⟩
 ·intro l hl o ho
  exact usual_place (v5 o (List.mem_flatten.2 ⟨l, hl, ho⟩))
 ·intro x hx
  rw [start_mem t hx];exact ⟨Nat.le_refl _, by show 1 <= 2000; omega⟩
 ·intro c hc; rw [start_row t hc]; rfl
 ·intro c hc x hx
  unfold plV vw;rw [start_mem t hx, start_row t hc, v0_get hx];exact hsee x hx
 ·intro x hx
  rw [start_mem t hx];show 0 <= plc [m0] (v0.getD x 0);rw [v0_get hx]; exact hsee x hx
 ·intro x hx
  rw [start_mem t hx, start_left];exact Nat.le_refl _
 ·rw [start_left]
  show 0 + aB t.1 <= aB t.1; omega
theorem sorted_nil : sortedO [] := fun i j _ h => by simp at h
end Sp
namespace Go.User
open Go.Lf Go.Proofs
theorem kno39 (q : Nat) : KnOK Try.prog q (t39 q) :=
 ⟨Try.call71, fun w F S0 cs x caps vs y h1 h2 h3 h4 h5 h6 h7 h8 => (visits (Sp.left y.1) q).2 w F S0 cs x caps vs y h1 h2 h3 h4 h5 h6 h7 h8⟩
set_option maxRecDepth 100000 in
theorem ok39 : FOk Try.prog 39 S39 := by
 have hC1 : aJ Try.prog C39a := okA (aG ok19 fns_nil)
 have hC2 : ∀ q, aJ Try.prog (C39b q) := fun q => ctx_okQ q rfl rfl fns_nil ptrs_nil (fun _ h => by cases h) (fun _ h => by cases h) ins_nil (fun t h => by injection h with h; subst h; exact kno39 q)
 refine FOk.introS (n := n39) (p := p39) hC1 (aW hC1) hC2 (fun q => aW (hC2 q)) Try.call39 Try.func39 (by kernel_rfl) (fun q => by kernel_rfl) (by kernel_rfl) L39a L39b (vc39.mpr ?_)
 simp only [zz, zy]
 rintro ⟨t, u⟩ h _
 refine ⟨h, fun he => ?_, fun he => ?_⟩
 ·have he : ¬ Sp.errA t = 0 := he
  have hv : ¬ Sp.valid t = true := fun hv => he (by unfold Sp.errA; rw [if_pos hv])
  show (([] : List Sp.Out), Sp.errA t, ()) = (Sp.outs t, Sp.errA t, ())
  unfold Sp.outs; rw [if_neg hv]
 ·have he : Sp.errA t = 0 := he
  have hv : Sp.valid t = true := by
   refine Classical.byContradiction fun hv => ?_
   unfold Sp.errA at he;rw [if_neg hv] at he;exact absurd he (by decide)
  have hA : Sp.stA t = Sp.start t := by unfold Sp.stA; rw [if_pos hv]
  obtain ⟨v1, v2, v3, v4, v5⟩ := Sp.valid_iff.1 hv;show Sp.okV (Sp.left (Sp.stA t)) [] (Sp.stA t) /\ (Sp.visit (Sp.left (Sp.stA t)) (Sp.stA t) [], (0 : Int), ()) = (Sp.outs t, Sp.errA t, ());rw [hA, Sp.start_left, he];refine ⟨⟨Sp.start_good hv, v4, Sp.start_left t, Sp.sorted_nil, ?_⟩, ?_⟩
  ·have : 28 ^ Sp.aB t.1 <= 28 ^ 6 := Nat.pow_le_pow_right (by omega) v4
   have h6 : 28 ^ 6 = 481890304 := by decide
   show 0 + 28 ^ Sp.aB t.1 <= 500000000; omega
  ·unfold Sp.outs; rw [if_pos hv]
end Go.User
namespace Sp
def tst (a b : List LOp) : Lit := ([a, b], ())
def ldO (x : Int) : LOp := (1, x, 0, ())
def stO (x : Int) : LOp := (2, x, 1, ())
def feO : LOp := (4, 0, 0, ())
def exA : Lit := tst [stO 0, ldO 1] [stO 1, ldO 0]
def exB : Lit := tst [stO 0, feO, ldO 1] [stO 1, feO, ldO 0]
def exC : Lit := tst [ldO 0, stO 1] [ldO 1, stO 0]
def exN : Lit := ([], ())
def exE : Bool := decide (errA exA = 0) && decide (errA exB = 0) && decide (errA exC = 0) && decide (errA exN = 300)
def exL : Bool := rds (outs exA) 0 0 && rds (outs exA) 1 1 && decide ((outs exA).length = 4) && !rds (outs exB) 0 0 && decide ((outs exB).length = 3) && !rds (outs exC) 1 1 && decide ((outs exC).length = 3)
def exOK : Bool := if exE = true then exL else false
end Sp
namespace Go.User
open Go.Lf
def S13 : aU := { args := [.val tLit], multi := false, res := tOuts, mode := .shr, pre := fun x => Sp.aB x.1.1 <= 1000, fn := fun x => (Sp.outs x.1, Sp.errA x.1, ()) }
def C13 : Ctx := { mkS 13 [(39, S39)] with mds := [(2, .pair .shr (.pair .shr .shr)), (12, .pair .shr (.pair .shr .shr))] }
def L13 (x : aO S13.args) : List aS := []
def S34 : aU := { args := [.val (.slice a9), .val (.slice a9)], multi := false, res := tLit, mode := .shr, pre := fun _ => True, fn := fun x => Sp.tst x.1 x.2.1 }
def C34 : Ctx := { mkS 9 [] with frz := [7], mds := [(4, .pair .shr .shr), (8, .pair .shr .shr)] }
def L34 (x : aO S34.args) : List aS := []
def S35 : aU := { args := [.val tI], multi := false, res := a9, mode := .shr, pre := fun _ => True, fn := fun x => Sp.stO x.1 }
def C35 : Ctx := mkS 5 []
def L35 (x : aO S35.args) : List aS := []
def S36 : aU := { args := [.val tI], multi := false, res := a9, mode := .shr, pre := fun _ => True, fn := fun x => Sp.ldO x.1 }
def C36 : Ctx := mkS 5 []
def L36 (x : aO S36.args) : List aS := []
def S37 : aU := { args := [], multi := false, res := a9, mode := .shr, pre := fun _ => True, fn := fun _ => Sp.feO }
def C37 : Ctx := mkS 2 []
def L37 (x : aO S37.args) : List aS := []
def S11 : aU := { args := [], multi := false, res := .bool, mode := .shr, pre := fun _ => True, fn := fun _ => Sp.exOK }
def C11 : Ctx := { mkS 89 [(13, S13), (34, S34), (35, S35), (36, S36), (37, S37), (38, S38)] with frz := [7, 10, 16, 20, 25, 28], mds := [(1, .pair .shr (.pair .shr .shr)), (2, .pair .shr (.pair .shr .shr)), (3, .pair .shr (.pair .shr .shr)), (4, .pair .shr (.pair .shr .shr)), (31, .pair .shr .shr)] }
def L11 (x : aO S11.args) : List aS := []
end Go.User
namespace Go.User
open Go.Proofs Go.Lf
set_option maxRecDepth 100000
theorem vc13 : (bV C13 (stpS C13) S13 L13 Try.f13) = (
let q0 : Nat := (1000 : Nat);
let q1 : Prop := True /\ True /\ True;
let q2 : Prop := True /\ q1;
∀ (x : Sp.Lit × Unit),
 let q3 : Prop := Sp.aB x.1.1 <= q0;
 let q4 : List Sp.Out × Int × Unit := (Sp.outs x.1, Sp.errA x.1, ());
 q3 -> aD tLit x.1 /\ True -> (q1 /\ True) /\ ((True /\ q3 /\ True /\ True /\ q2) /\ True) /\ (q2 /\ True /\ True) /\ q4 = q4) := by kernel_rfl
theorem vc34 : (bV C34 (stpS C34) S34 L34 Try.f34) = (
∀ (x : List Sp.LOp × List Sp.LOp × Unit), True -> aD a9.slice x.1 /\ aD a9.slice x.2.1 /\ True -> ((True /\ True) /\ True) /\ ((True /\ True /\ True /\ True /\ True) /\ True /\ True) /\ (x.1 :: x.2.1 :: ([] : List a9.slice.den), ()) = Sp.tst x.1 x.2.1) := by kernel_rfl
theorem vc35 : (bV C35 (stpS C35) S35 L35 Try.f35) = (
∀ (x : Int × Unit), True -> aD tI x.1 /\ True -> ((True /\ True) /\ True) /\ ((True /\ True /\ True) /\ True /\ True) /\ ((2 : Int), x.1, (1 : Int), ()) = Sp.stO x.1) := by kernel_rfl
theorem vc36 : (bV C36 (stpS C36) S36 L36 Try.f36) = (
∀ (x : Int × Unit), True -> aD tI x.1 /\ True -> ((True /\ True) /\ True) /\ ((True /\ True /\ True) /\ True /\ True) /\ ((1 : Int), x.1, (0 : Int), ()) = Sp.ldO x.1) := by kernel_rfl
theorem vc37 : (bV C37 (stpS C37) S37 L37 Try.f37) = (
let q0 : Int := (0 : Int);
∀ (x : Unit), True -> True -> ((True /\ True) /\ True) /\ ((True /\ True) /\ True /\ True) /\ ((4 : Int), q0, q0, ()) = Sp.feO) := by kernel_rfl
theorem vc11 : (bV C11 (stpS C11) S11 L11 Try.f11) = (
let q0 : Prop := (True /\ True) /\ True;
let q1 : Int := (0 : Int);
let q2 : Sp.LOp := Sp.stO q1;
let q3 : Int := (1 : Int);
let q4 : Sp.LOp := Sp.ldO q3;
let q5 : List Sp.LOp := q4 :: ([] : List a9.den);
let q6 : List Sp.LOp := q2 :: q5;
let q7 : Sp.LOp := Sp.stO q3;
let q8 : Sp.LOp := Sp.ldO q1;
let q9 : List Sp.LOp := q8 :: ([] : List a9.den);
let q10 : List Sp.LOp := q7 :: q9;
let q11 : Nat := (1000 : Nat);
let q12 : List Sp.LOp := q2 :: Sp.feO :: q5;
let q13 : List Sp.LOp := q7 :: Sp.feO :: q9;
let q14 : List Sp.LOp := q8 :: q7 :: ([] : List a9.den);
let q15 : List Sp.LOp := q4 :: q2 :: ([] : List a9.den);
let q16 : List (List Sp.LOp) := ([] : List a9.slice.den);
let q17 : Prop := (true && true) = true -> True;
let q18 : Sp.Lit := Sp.tst q6 q10;
let q19 : Sp.Lit := Sp.tst q12 q13;
let q20 : Sp.Lit := Sp.tst q14 q15;
let q21 : Bool := bif bif bif Sp.errA q18 != q1 then true else Sp.errA q19 != q1 then true else Sp.errA q20 != q1 then true else Sp.errA (q16, ()) != (300 : Int);
let q22 : List Sp.Out := Sp.outs q18;
let q23 : List Sp.Out := Sp.outs q19;
let q24 : Int := (3 : Int);
let q25 : List Sp.Out := Sp.outs q20;
∀ (x : Unit), True -> True -> q0 /\ ((True /\ True /\ True /\ True /\ True /\ True /\ True /\ Sp.aB (q6 :: q10 :: ([] : List (List Sp.LOp))) <= q11 /\ True /\ True) /\ True /\ True) /\ ((True /\ True /\ True /\ True /\ True /\ True /\ True /\ True /\ True /\ Sp.aB (q12 :: q13 :: ([] : List (List Sp.LOp))) <= q11 /\ True /\ True) /\ True /\ True) /\ ((True /\ True /\ True /\ True /\ True /\ True /\ True /\ Sp.aB (q14 :: q15 :: ([] : List (List Sp.LOp))) <= q11 /\ True /\ True) /\ True /\ True) /\ ((True /\ Sp.aB q16 <= q11 /\ True /\ True) /\ True /\ True) /\ ((True /\ True /\ True /\ True /\ q17 /\ q17 /\ q17 /\ True /\ True /\ q17 /\ q17 /\ q17 /\ True /\ True /\ q17 /\ q17 /\ q17 /\ True /\ True) /\ True) /\ (q21 = true -> q0 /\ false = Sp.exOK) /\ (q21 = false -> ((True /\ True /\ True /\ True /\ q17 /\ q17 /\ q17 /\ True /\ True /\ q17 /\ q17 /\ q17 /\ q17 /\ True /\ True /\ q17 /\ q17 /\ q17 /\ q17 /\ True /\ True /\ q17 /\ q17 /\ q17 /\ q17 /\ True /\ True /\ q17 /\ q17 /\ q17 /\ q17 /\ True /\ True /\ q17 /\ q17 /\ q17 /\ q17 /\ True /\ True /\ True) /\ True) /\ (bif bif bif bif bif bif Sp.rds q22 q1 q1 then Sp.rds q22 q3 q3 else false then (↑q22.length : Int) == (4 : Int) else false then !Sp.rds q23 q1 q1 else false then (↑q23.length : Int) == q24 else false then !Sp.rds q25 q3 q3 else false then (↑q25.length : Int) == q24 else false) = Sp.exOK)) := by kernel_rfl
end Go.User
namespace Go.User
open Go.Lf Go.Proofs
theorem ex_e : Sp.exE = true := by kernel_rfl
theorem ex_l : Sp.exL = true := by kernel_rfl
theorem ex_ok : Sp.exOK = true := by
 unfold Sp.exOK; rw [if_pos ex_e]; exact ex_l
theorem ok13 : FOk Try.prog 13 S13 := by
 have hC : aJ Try.prog C13 := okC (aG ok39 fns_nil) rfl rfl rfl rfl rfl rfl rfl
 refine FOk.intro hC (aW hC) Try.call13 Try.func13 (by kernel_rfl) (by kernel_rfl) L13 (vc13.mpr ?_)
 simp only [zz, zy]
 exact fun x h _ => h
theorem ok34 : FOk Try.prog 34 S34 := by
 have hC : aJ Try.prog C34 := okC fns_nil rfl rfl rfl rfl rfl rfl rfl
 refine FOk.intro hC (aW hC) Try.call34 Try.func34 (by kernel_rfl) (by kernel_rfl) L34 (vc34.mpr ?_)
 simp only [zz, zy]
 exact fun x _ => rfl
theorem ok35 : FOk Try.prog 35 S35 := by
 refine FOk.intro (okA fns_nil) (aW (okA fns_nil)) Try.call35 Try.func35 (by kernel_rfl) (by kernel_rfl) L35 (vc35.mpr ?_)
 simp only [zz, zy]
 exact fun x _ => rfl
theorem ok36 : FOk Try.prog 36 S36 := by
 refine FOk.intro (okA fns_nil) (aW (okA fns_nil)) Try.call36 Try.func36 (by kernel_rfl) (by kernel_rfl) L36 (vc36.mpr ?_)
 simp only [zz, zy]
 exact fun x _ => rfl
theorem ok37 : FOk Try.prog 37 S37 := by
 refine FOk.intro (okA fns_nil) (aW (okA fns_nil)) Try.call37 Try.func37 (by kernel_rfl) (by kernel_rfl) L37 (vc37.mpr ?_)
 simp only [zz, zy]
 first | exact fun _ => rfl | rfl
theorem ok11 : FOk Try.prog 11 S11 := by
 have hC : aJ Try.prog C11 := okC (aG ok13 (aG ok34 (aG ok35 (aG ok36 (aG ok37 (aG ok38 fns_nil)))))) rfl rfl rfl rfl rfl rfl rfl
 refine FOk.intro hC (aW hC) Try.call11 Try.func11 (by kernel_rfl) (by kernel_rfl) L11 (vc11.mpr ?_)
 simp only [zz, zy]
 refine ⟨by decide, by decide, by decide, by decide, fun h => ?_, fun _ => ?_⟩
 ·have hf : ∀ {b : Bool}, b = true -> b = false -> false = Sp.exOK := fun h1 h2 => by rw [h1] at h2; cases h2
  exact hf h (by kernel_rfl)
 ·kernel_rfl
end Go.User
namespace Sp
def kinds : List Int := [1, 2, 1, 2, 3, 4]
def mB (x : List (List Int)) (i j : Nat) : Int := (x.getD i []).getD j 0
def mC (x : List (List Int)) (i : Nat) : Nat := (mB x i 0 % 4).toNat
def mK (x : List (List Int)) (i : Nat) : Int := kinds.getD (mB x i 1 % 6).toNat 0
def mX (x : List (List Int)) (i : Nat) : Int := if mK x i = 4 then 0 else mB x i 2 % 3
def mV (x : List (List Int)) (i : Nat) : Int := if mK x i = 1 ∨ mK x i = 4 then 0 else mB x i 3 % 4 + 1
def mOp (x : List (List Int)) (i : Nat) : LOp := (mK x i, mX x i, mV x i, ())
def gro (P : List (List LOp)) (c : Nat) : List (List LOp) := P ++ List.replicate (c + 1 - P.length) []
def mPut (P : List (List LOp)) (c : Nat) (o : LOp) : List (List LOp) := (gro P c).set c ((gro P c).getD c [] ++ [o])
def mN (x : List (List Int)) : Nat -> List (List LOp)
 | 0 => []
 | i + 1 => mPut (mN x i) (mC x i) (mOp x i)
def mG (x : List (List Int)) (i j : Nat) : List (List LOp) := mN x i ++ List.replicate j []
def mT (x : List (List Int)) (n : Int) : Nat := min x.length n.toNat
def madeP (x : List (List Int)) (n : Int) : List (List LOp) := if mN x (mT x n) = [] then [[(1, 0, 0, ())]] else mN x (mT x n)
def made (x : List (List Int)) (n : Int) : Lit := (madeP x n, ())
end Sp
namespace Go.User
open Go.Lf
abbrev mL : Md := .pair (.own .shr) .shr
def S12 : aU := { args := [.val tRaw, .val tI], multi := false, res := tLit, mode := .shr, pre := fun x => 0 <= x.2.1 /\ x.2.1 <= 6, fn := fun x => Sp.made x.1 x.2.1 }
def C12 : Ctx := { mkS 99 [] with frz := [88, 95], mds := [(5, mL), (9, mL), (4, .pair .shr .shr)], fzs := [5] }
def L12 (x : aO S12.args) : List aS := [
 {ι := Nat, inv := fun i => i <= Sp.mT x.1 x.2.1, dec := fun i => Sp.mT x.1 x.2.1 - i, ovr := fun i => [(6, .shr tI (i : Int)), (5, .box tLit mL (Sp.mN x.1 i, ()))], keep := [0, 1, 4], sub := fun i => [
  {ι := Nat, inv := fun j => j <= Sp.mC x.1 i + 1 - List.length (Sp.mN x.1 i), dec := fun j => Sp.mC x.1 i + 1 - List.length (Sp.mN x.1 i) - j, ovr := fun j => [(5, .box tLit mL (Sp.mG x.1 i j, ()))], keep := [0, 1, 4, 6, 7] }] }]
end Go.User
namespace Go.User
open Go.Proofs Go.Lf
set_option maxRecDepth 100000
theorem vc12 : (bV C12 (stpS C12) S12 L12 Try.f12) = (
let q0 : Nat := (4 : Nat);
let q1 : Prop := (True /\ True) /\ True;
let q2 : Prop := True /\ True /\ True;
let q3 : Int := (0 : Int);
let q4 : List (List Sp.LOp) := ([] : List a9.slice.den);
let q5 : Sp.Lit := (q4, ());
let q6 : Prop := q5 = q5;
let q7 : Prop := q6 /\ True;
let q8 : Int := (4 : Int);
let q9 : Prop := q8 ≠ q3;
let q10 : Nat := (1 : Nat);
let q11 : List Int := List.replicate q0 q3;
let q12 : Nat := q3.toNat;
let q13 : Prop := True /\ q2;
let q14 : Prop := True /\ q13;
let q15 : List (List Sp.LOp) := ([] : List a9.den) :: q4;
let q16 : List Step := List.append._f (([] : List Step)) PUnit.unit (Step.fst :: ([] : List Step));
let q17 : Int := (1 : Int);
let q18 : Int := (6 : Int);
let q19 : Nat := q17.toNat;
let q20 : Int := (2 : Int);
let q21 : Int := (3 : Int);
let q22 : List Int := q17 :: q20 :: q17 :: q20 :: q21 :: q8 :: ([] : List tI.den);
let q23 : Nat := q21.toNat;
let q24 : Prop := (True /\ True) /\ True /\ True;
let q25 : Prop := q13 /\ True;
let q26 : Int × Unit := (q3, ());
let q27 : Int × Int × Unit := (q3, q26);
let q28 : Nat := q20.toNat;
∀ (x : List (List Int) × Int × Unit),
 let q29 : Nat := Sp.mT x.1 x.2.1;
 let q30 : Prop := x.1 = x.1;
 let q31 : Prop := x.2.1 = x.2.1;
 let q32 : Prop := q30 /\ q31 /\ q7;
 let q33 : Nat := x.1.length;
 let q34 : Sp.Lit := Sp.made x.1 x.2.1;
 (0 : (AK.val tI).den) <= x.2.1 /\ x.2.1 <= (6 : (AK.val tI).den) ->
 aD (Ty.arr q0 (Ty.int IntKind.u8)).slice x.1 /\ aD tI x.2.1 /\ True ->
 q1 /\
 (q2 /\ True /\ True) /\
 q1 /\
 (∃ (x_1 : Nat), x_1 <= q29 /\ q3 = (↑x_1 : Int) /\ q5 = (Sp.mN x.1 x_1, ()) /\ q32) /\
 ∀ (x_1 : Nat),
 let q35 : Sp.Lit := (Sp.mN x.1 x_1, ());
 let q36 : Bool := decide ((↑x_1 : Int) < (↑q33 : Int));
 let q37 : Prop := (true && bif q36 then true else false) = true -> True;
 let q38 : Bool := bif q36 then decide ((↑x_1 : Int) < x.2.1) else false;
 let q39 : Prop := inN (↑x_1 : Int) q33;
 let q40 : Nat := Sp.mC x.1 x_1 + q10 - (Sp.mN x.1 x_1).length;
 let q41 : List Int := x.1.getD (↑x_1 : Int).toNat q11;
 let q42 : Int := q41.getD q12 q3 % q8;
 let q43 : Prop := q30 /\ q31 /\ q6 /\ (↑x_1 : Int) = (↑x_1 : Int) /\ q42 = q42 /\ True;
 let q44 : Int := q41.getD q19 q3 % q18;
 let q45 : Int := q41.getD q23 q3 % q8 + q17;
 let q46 : Int := q22.getD q44.toNat q3;
 let q47 : Bool := q46 == q17;
 let q48 : Prop := (true && bif q47 then false else true) = true -> True;
 let q49 : Bool := q46 == q8;
 let q50 : Bool := bif q47 then true else q49;
 let q51 : Prop := q49 = true;
 let q52 : Nat := q42.toNat;
 let q53 : List Sp.LOp := (q46, q27) :: ([] : List a9.den);
 let q54 : Int := (↑x_1 : Int) + q17;
 let q55 : Prop := (True /\ inK IntKind.i64 q54 /\ True /\ True) /\ True;
 let q56 : Prop := q49 = false;
 let q57 : Int := q41.getD q28 q3 % q21;
 let q58 : List Sp.LOp := (q46, q57, q26) :: ([] : List a9.den);
 let q59 : Int × Unit := (q45, ());
 let q60 : List Sp.LOp := (q46, q3, q59) :: ([] : List a9.den);
 let q61 : List Sp.LOp := (q46, q57, q59) :: ([] : List a9.den);
 let q62 : Bool := (↑(Sp.mN x.1 x_1).length : Int) == q3;
 x_1 <= q29 ->
 aD tI (↑x_1 : Int) /\ aD tLit q35 /\ True ->
 ((True /\ True /\ True /\ True /\ True /\ q37 /\ q37 /\ q37 /\ True /\ True) /\ True) /\
 (q38 = true ->
 ((True /\ True /\ q39 /\ inN q3 q0 /\ True /\ q9 /\ q2) /\ True) /\
 (∃ (x_2 : Nat), x_2 <= q40 /\ q35 = (Sp.mG x.1 x_1 x_2, ()) /\ q43) /\
 ∀ (x_2 : Nat),
 let q63 : List (List Sp.LOp) := Sp.mG x.1 x_1 x_2;
 let q64 : Nat := q63.length;
 let q65 : Bool := decide ((↑q64 : Int) <= q42);
 let q66 : Prop := inN q42 q64;
 let q67 : List Sp.LOp := q63.getD q52 (([] : List a9.den));
 let q68 : Nat := q67.length;
 let q69 : Prop := (↑((0 : Nat) + q68) : Int) <= aN;
 let q70 : Prop := q66 /\ True;
 x_2 <= q40 -> aD tLit (q63, ()) /\ True -> ((True /\ q14) /\ True) /\ (q65 = true -> (q13 /\ (↑(q64 + q15.length) : Int) <= aN /\ True /\ q16 = q16 /\ True) /\ ∃ (y : Nat), y <= q40 /\ q40 - y < q40 - x_2 /\ (q63 ++ q15, ()) = (Sp.mG x.1 x_1 y, ()) /\ q43) /\ (q65 = false -> ((True /\ True /\ True /\ q39 /\ inN q17 q0 /\ True /\ q18 ≠ q3 /\ inN q44 q22.length /\ True /\ True /\ True /\ q39 /\ inN q20 q0 /\ True /\ q21 ≠ q3 /\ True /\ True /\ True /\ q39 /\ inN q21 q0 /\ True /\ q9 /\ True /\ inK IntKind.i64 q45 /\ q2) /\ True /\ True) /\ ((True /\ True /\ True /\ True /\ q48 /\ q48 /\ q48 /\ True /\ True) /\ True) /\ (q50 = true -> q24 /\ q25 /\ (q51 -> q24 /\ ((True /\ True /\ True /\ True /\ True /\ True /\ True /\ q66 /\ True /\ q69 /\ True /\ True /\ (↑(q68 + q53.length) : Int) <= aN /\ q70) /\ True /\ True) /\ q55 /\ ∃ (y : Nat), y <= q29 /\ q29 - y < q29 - x_1 /\ q54 = (↑y : Int) /\ (q63.set q52 (q67 ++ q53), ()) = (Sp.mN x.1 y, ()) /\ q32) /\ (q56 -> ((True /\ True /\ True /\ True /\ True /\ True /\ True /\ q66 /\ True /\ q69 /\ True /\ True /\ (↑(q68 + q58.length) : Int) <= aN /\ q70) /\ True /\ True) /\ q55 /\ ∃ (y : Nat), y <= q29 /\ q29 - y < q29 - x_1 /\ q54 = (↑y : Int) /\ (q63.set q52 (q67 ++ q58), ()) = (Sp.mN x.1 y, ()) /\ q32)) /\ (q50 = false -> q25 /\ (q51 -> q24 /\ ((True /\ True /\ True /\ True /\ True /\ True /\ True /\ q66 /\ True /\ q69 /\ True /\ True /\ (↑(q68 + q60.length) : Int) <= aN /\ q70) /\ True /\ True) /\ q55 /\ ∃ (y : Nat), y <= q29 /\ q29 - y < q29 - x_1 /\ q54 = (↑y : Int) /\ (q63.set q52 (q67 ++ q60), ()) = (Sp.mN x.1 y, ()) /\ q32) /\ (q56 -> ((True /\ True /\ True /\ True /\ True /\ True /\ True /\ q66 /\ True /\ q69 /\ True /\ True /\ (↑(q68 + q61.length) : Int) <= aN /\ q70) /\ True /\ True) /\ q55 /\ ∃ (y : Nat), y <= q29 /\ q29 - y < q29 - x_1 /\ q54 = (↑y : Int) /\ (q63.set q52 (q67 ++ q61), ()) = (Sp.mN x.1 y, ()) /\ q32)))) /\
 (q38 = false -> (q14 /\ True) /\ (q62 = true -> (q14 /\ True /\ True) /\ q24 /\ (((q17, q27) :: ([] : List a9.den)) :: q4, ()) = q34) /\ (q62 = false -> q24 /\ q35 = q34))) := by kernel_rfl
end Go.User
namespace Sp
theorem mC_lt (x : List (List Int)) (i : Nat) : mC x i < 4 := by unfold mC; omega
theorem gro_len (P : List (List LOp)) (c : Nat) : (gro P c).length = P.length + (c + 1 - P.length) := by unfold gro; rw [List.length_append, List.length_replicate]
theorem mN_len (x : List (List Int)) : ∀ i, (mN x i).length <= 4
 | 0 => by show 0 <= 4; omega
 | i + 1 => by
  show (mPut (mN x i) (mC x i) (mOp x i)).length <= 4
  unfold mPut;rw [List.length_set, gro_len];have := mN_len x i;have := mC_lt x i;omega
theorem gro_el {P : List (List LOp)} {c n : Nat} (h : ∀ l ∈ P, l.length <= n) : ∀ l ∈ gro P c, l.length <= n := by
 intro l hl
 unfold gro at hl
 rcases List.mem_append.1 hl with hl | hl
 ·exact h l hl
 ·rw [List.eq_of_mem_replicate hl]; exact Nat.zero_le _
theorem getD_el {P : List (List LOp)} {n : Nat} (h : ∀ l ∈ P, l.length <= n) (c : Nat) : (P.getD c []).length <= n := by
 by_cases hc : c < P.length
 ·exact h _ (Pl.bK hc _)
 ·rw [Pl.getD_out (by omega)]; exact Nat.zero_le _
theorem mN_el (x : List (List Int)) : ∀ i, ∀ l ∈ mN x i, l.length <= i
 | 0, l, hl => by cases hl
 | i + 1, l, hl => by
  have hl : l ∈ mPut (mN x i) (mC x i) (mOp x i) := hl
  unfold mPut at hl;have hg := gro_el (c := mC x i) (mN_el x i);rcases List.mem_or_eq_of_mem_set hl with hl | rfl
  ·have := hg l hl; omega
  ·have := getD_el hg (mC x i)
   rw [List.length_append]; simp only [List.length_singleton]; omega
theorem mG_succ (x : List (List Int)) (i j : Nat) : mG x i j ++ [[]] = mG x i (j + 1) := by
 unfold mG; rw [List.replicate_succ', List.append_assoc]
theorem mG_len (x : List (List Int)) (i j : Nat) : (mG x i j).length = (mN x i).length + j := by unfold mG; rw [List.length_append, List.length_replicate]
end Sp
namespace Go.User
open Go.Lf Go.Proofs
set_option maxRecDepth 100000 in
theorem ok12 : FOk Try.prog 12 S12 := by
 have hC : aJ Try.prog C12 := okC fns_nil rfl rfl rfl rfl rfl rfl rfl
 refine FOk.intro hC (aW hC) Try.call12 Try.func12 (by kernel_rfl) (by kernel_rfl) L12 (vc12.mpr ?_)
 simp only [zz, zy]
 rintro ⟨x, n, u⟩ h _
 obtain ⟨h0, h6⟩ : 0 <= n /\ n <= 6 := h
 have hmx : aN = 2147483648 := rfl
 have hmT : Sp.mT x n = min x.length n.toNat := rfl
 refine ⟨⟨0, Nat.zero_le _, rfl, rfl⟩, fun i hi _ => ⟨fun hlt => ?_, fun hge => ?_⟩⟩
 ·obtain ⟨hl1, hl2⟩ := hlt
  have hl1 : (i : Int) < (x.length : Int) := hl1
  have hl2 : (i : Int) < n := hl2
  have hB : ∀ j, (x.getD i (List.replicate 4 0)).getD j 0 = Sp.mB x i j := by
   intro j; unfold Sp.mB; rw [Pl.b8 (show i < x.length by omega), Pl.b8 (show i < x.length by omega)]
  have hin : inN (i : Int) x.length := ⟨by omega, hl1⟩
  have hc4 := Sp.mC_lt x i
  have hNl := Sp.mN_len x i
  have hNe := Sp.mN_el x i
  have hcE : (x.getD i (List.replicate 4 0)).getD 0 0 % 4 = ((Sp.mC x i : Nat) : Int) := by rw [hB]; unfold Sp.mC; omega
  refine ⟨⟨hin, ⟨by omega, by omega⟩, by omega⟩, ⟨0, Nat.zero_le _, ?_⟩, fun j hj _ => ⟨fun hle => ⟨?_, j + 1, ?_, ?_, ?_⟩, fun hgt => ?_⟩⟩
  ·show (Sp.mN x i, ()) = (Sp.mG x i 0, ())
   unfold Sp.mG; rw [List.replicate_zero, List.append_nil]
  ·have hj : j <= Sp.mC x i + 1 - (Sp.mN x i).length := hj
   show (((Sp.mG x i j).length + 1 : Nat) : Int) <= aN
   rw [Sp.mG_len]; omega
  ·have hle : ((Sp.mG x i j).length : Int) <= (x.getD i (List.replicate 4 0)).getD 0 0 % 4 := hle
   rw [hcE, Sp.mG_len] at hle;show j + 1 <= Sp.mC x i + 1 - (Sp.mN x i).length; omega
  ·have hle : ((Sp.mG x i j).length : Int) <= (x.getD i (List.replicate 4 0)).getD 0 0 % 4 := hle
   rw [hcE, Sp.mG_len] at hle;show Sp.mC x i + 1 - (Sp.mN x i).length - (j + 1) < Sp.mC x i + 1 - (Sp.mN x i).length - j; omega
  ·show (Sp.mG x i j ++ [[]], ()) = (Sp.mG x i (j + 1), ())
   rw [Sp.mG_succ]
  ·have hj : j <= Sp.mC x i + 1 - (Sp.mN x i).length := hj
   have hgt : (x.getD i (List.replicate 4 0)).getD 0 0 % 4 < ((Sp.mG x i j).length : Int) := hgt
   rw [hcE, Sp.mG_len] at hgt;have hG : Sp.mG x i j = Sp.gro (Sp.mN x i) (Sp.mC x i) := by
    unfold Sp.mG Sp.gro;rw [show j = Sp.mC x i + 1 - (Sp.mN x i).length from by omega]
   have hGl : Sp.mC x i < (Sp.gro (Sp.mN x i) (Sp.mC x i)).length := by rw [Sp.gro_len]; omega
   have hGe := Sp.getD_el (Sp.gro_el (c := Sp.mC x i) hNe) (Sp.mC x i)
   have hk : ∀ op, op = Sp.mOp x i -> inK .i64 ((i : Int) + 1) /\ ∃ y, y <= Sp.mT x n /\ Sp.mT x n - y < Sp.mT x n - i /\ (i : Int) + 1 = (y : Int) /\ ((Sp.mG x i j).set ((x.getD i (List.replicate 4 0)).getD 0 0 % 4).toNat ((Sp.mG x i j).getD ((x.getD i (List.replicate 4 0)).getD 0 0 % 4).toNat [] ++ [op]), ()) = (Sp.mN x y, ()) := by
    rintro op rfl
    refine ⟨bE (by omega) (by omega), i + 1, by omega, by omega, by omega, ?_⟩
    rw [hcE, Int.toNat_natCast, hG]; rfl
   have hq : inN ((x.getD i (List.replicate 4 0)).getD 0 0 % 4) (Sp.mG x i j).length /\ (((0 + ((Sp.mG x i j).getD ((x.getD i (List.replicate 4 0)).getD 0 0 % 4).toNat []).length : Nat) : Int)) <= aN /\ (((((Sp.mG x i j).getD ((x.getD i (List.replicate 4 0)).getD 0 0 % 4).toNat []).length + 1 : Nat) : Int)) <= aN /\ inN ((x.getD i (List.replicate 4 0)).getD 0 0 % 4) (Sp.mG x i j).length := by
    rw [hcE, Int.toNat_natCast, hG];exact ⟨⟨by omega, by omega⟩, by omega, by omega, ⟨by omega, by omega⟩⟩
   have hK : [1, 2, 1, 2, 3, 4].getD ((x.getD i (List.replicate 4 0)).getD 1 0 % 6).toNat 0 = Sp.mK x i := by rw [hB]; rfl
   refine ⟨⟨hin, ⟨by omega, by omega⟩, by omega, ⟨by omega, ?_⟩, hin, ⟨by omega, by omega⟩, by omega, hin, ⟨by omega, by omega⟩, by omega, bE (by omega) (by omega)⟩, fun hor => ⟨fun h4 => ⟨hq, hk _ ?_⟩, fun h4 => ⟨hq, hk _ ?_⟩⟩, fun hor => ⟨fun h4 => absurd h4 hor.2, fun h4 => ⟨hq, hk _ ?_⟩⟩⟩
   ·show (x.getD i (List.replicate 4 0)).getD 1 0 % 6 < ((6 : Nat) : Int); omega
   ·have h4 : Sp.mK x i = 4 := hK ▸ h4
    unfold Sp.mOp Sp.mX Sp.mV;rw [if_pos h4, if_pos (.inr h4), <- hK]; rfl
   ·have h4 : ¬ Sp.mK x i = 4 := hK ▸ h4
    have h1 : Sp.mK x i = 1 := by
     have hor : (Sp.mK x i == 1 || Sp.mK x i == 4) = true := hK ▸ hor
     simp only [Bool.or_eq_true, beq_iff_eq] at hor;exact hor.resolve_right h4
    unfold Sp.mOp Sp.mX Sp.mV;rw [if_neg h4, if_pos (.inl h1), <- hK, <- hB]; rfl
   ·have h4 : ¬ Sp.mK x i = 4 := hK ▸ h4
    have h1 : ¬ Sp.mK x i = 1 := hK ▸ hor.1
    unfold Sp.mOp Sp.mX Sp.mV;rw [if_neg h4, if_neg (fun h => h.elim h1 h4), <- hK, <- hB, <- hB]; try rfl
 ·have hi : i <= Sp.mT x n := hi
  have hge : (decide ((i : Int) < (x.length : Int)) && decide ((i : Int) < n)) = false := hge
  have he : i = Sp.mT x n := by
   rw [Bool.and_eq_false_iff, decide_eq_false_iff_not, decide_eq_false_iff_not] at hge;omega
  subst he;refine ⟨fun hz => ?_, fun hz => ?_⟩
  ·have hz : (((Sp.mN x (Sp.mT x n)).length : Nat) : Int) = 0 := hz
   have hnil : Sp.mN x (Sp.mT x n) = [] := List.eq_nil_of_length_eq_zero (by omega)
   show ([[(1, 0, 0, ())]], ()) = Sp.made x n
   unfold Sp.made Sp.madeP; rw [if_pos hnil]
  ·have hz : ¬ (((Sp.mN x (Sp.mT x n)).length : Nat) : Int) = 0 := hz
   have hnil : ¬ Sp.mN x (Sp.mT x n) = [] := fun h => hz (by rw [h]; rfl)
   show (Sp.mN x (Sp.mT x n), ()) = Sp.made x n
   unfold Sp.made Sp.madeP; rw [if_neg hnil]
end Go.User
namespace Sp
end Sp
namespace Go.User
open Go.Lf Go.Proofs
end Go.User
namespace Go.User
open Go.Lf
end Go.User
namespace Go.User
open Go.Lf
end Go.User
namespace Sp
def memR (n : Nat) : List (List Msg) := List.replicate n [m0]
def stR (t : Lit) (m c e : Nat) : VSt := (t, zeros t.1.length, memR m, views c, v0, zeros (aB t.1), froms e, [], ())
end Sp
namespace Go.User
open Go.Lf
abbrev mR1 : Md := .pair .shr (.pair .shr (.pair (.own .shr) (.pair (.own .shr) (.pair .shr (.pair .shr (.pair (.own .shr) (.pair .shr .shr)))))))
def S48 : aU := { args := [.val tLit], multi := false, res := tRSt, mode := .shr, pre := fun x => Sp.aB x.1.1 <= 1000 /\ List.length x.1.1 <= 1000, fn := fun x => Sp.stR x.1 3 (List.length x.1.1) (Sp.aB x.1.1) }
def C48 : Ctx := { mkS 54 [(18, S18)] with mds := [(16, mR1), (3, mR1), (2, mV0)], frz := [11, 12, 15, 24, 37], fzs := [3] }
def L48 (x : aO S48.args) : List aS := [
 {ι := Nat, inv := fun n => n <= 3, dec := fun n => 3 - n, ovr := fun n => [(4, .shr tI (n : Int)), (3, .box tRSt mR1 (Sp.stR x.1 n 0 0))], keep := [1, 2] },
 {ι := Nat, inv := fun c => c <= List.length x.1.1, dec := fun c => List.length x.1.1 - c, ovr := fun c => [(5, .shr tI (c : Int)), (3, .box tRSt mR1 (Sp.stR x.1 3 c 0))], keep := [1, 2] },
 {ι := Nat, inv := fun e => e <= Sp.aB x.1.1, dec := fun e => Sp.aB x.1.1 - e, ovr := fun e => [(6, .shr tI (e : Int)), (3, .box tRSt mR1 (Sp.stR x.1 3 (List.length x.1.1) e))], keep := [1, 2] }]
end Go.User
