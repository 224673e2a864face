/- Written by genrep.py: slices.Repeat of one element, up to six times. The machine of views: valid tests, the state at first. slices.Repeat of one element is as it should be. slices.Insert of one outcome: what it does, road by road. Operations one by one: for bodies that are walked by hand. slices.Insert of one outcome is as it should be. Written by gen.py: what is left to show of each function. The search visits all states. -/
import Derived.Test.YthhclebbpbkgdaaLfj
import Derived.LoopN
import Derived.Laws.CopyOwn
import Derived.Laws.MakeOwn
import Derived.Shelf.Spec.SlicesInsert
import Derived.Lib.Overlaps
set_option linter.unusedVariables false
set_option linter.unusedSimpArgs false
namespace Go.User
open Go Go.Proofs Go.RowKit Go.Lib
theorem run_copy_k {P : Program} (w : World) (dT sT ty elem : TypeId) (g o dLen dCap : Nat) (a : Addr) (sLen sCap es : Nat) (cur : Array Value) (t : TypeId) (cs : List Value)
  (hu : P.underlying dT = some (.slice elem)) (hs : (P.info? elem).map (·.size) = some es)
  (hg : w.heap[g]? = some (.cells cur t (0, 0))) (hn : cs.length = Nat.min sLen dLen * es)
  (hsrc : ∀ j v, cs[j]? = some v → w.cell? (a.add j) = some v) (hfit : o + cs.length ≤ cur.size) (h1 : ∀ v ∈ cs, v.oneCell' = true) :
  (Builtin.copy_ #[dT, sT] ty #[.slice (some ⟨g, o, none⟩) dLen dCap, .slice (some a) sLen sCap]).run P w =
   .ok (goInt (Nat.min sLen dLen)) (w.setRow g (cur.toList.take o ++ cs ++ cur.toList.drop (o + cs.length)).toArray) := by
 have hl := run_loadCells_list (P := P) w a cs hsrc
 have hst := run_storeCells_at P g o t cs 0 cur w hg (by simpa using hfit) h1
 cases hq : P.info? elem with
 | none => simp [hq] at hs
 | some i =>
  have hi : i.size = es := by simpa [hq] using hs
  simp [Builtin.copy_, run_underlying hu, Builtin.lenOf, Builtin.firstCells, Go.sizeOf, typeInfo, hq, hi, ← hn, hl, hst]
theorem copy_ex {P : Program} (W : World) (dT sT elem : TypeId) (g o dLen dCap : Nat) (a : Addr) (sLen sCap es k : Nat) (cur : List Value) (t : TypeId) (cs : List Value)
  (hu : P.underlying dT = some (.slice elem)) (hs : (P.info? elem).map (·.size) = some es) (hk : Nat.min sLen dLen = k)
  (hg : W.heap[g]? = some (.cells cur.toArray t (0, 0))) (hn : cs.length = k * es)
  (hsrc : ∀ j v, cs[j]? = some v → W.cell? (a.add j) = some v) (hfit : o + cs.length ≤ cur.length) (h1 : ∀ v ∈ cs, v.oneCell' = true) :
  ∃ W', (∀ ty, (Builtin.copy_ #[dT, sT] ty #[.slice (some ⟨g, o, none⟩) dLen dCap, .slice (some a) sLen sCap]).run P W = .ok (goInt k) W') ∧ W'.heap[g]? = some (.cells (cur.take o ++ cs ++ cur.drop (o + cs.length)).toArray t (0, 0)) ∧
   W'.heap.size = W.heap.size ∧ Below g W W' := by
 subst hk
 refine ⟨_, fun ty => run_copy_k W dT sT ty elem g o dLen dCap a sLen sCap es cur.toArray t cs hu hs hg hn hsrc (by simpa using hfit) h1, ?_, ?_, ?_⟩
 ·simpa using setRow_heap W g _ _ t _ hg
 ·simp [World.setRow]
 ·exact below_setRow (Below.refl _ _) (Nat.le_refl _) _
/-- What lies in a row can be read there. -/
theorem row_cell {W : World} {g : Nat} {cur cs : List Value} {t : TypeId} (hg : W.heap[g]? = some (.cells cur.toArray t (0, 0))) (h : ∃ r, cur = cs ++ r) : ∀ j u, cs[j]? = some u → W.cell? ((⟨g, 0, none⟩ : Addr).add j) = some u := by
 intro j u hj
 obtain ⟨r, rfl⟩ := h
 have hlt : j < cs.length := (List.getElem?_eq_some_iff.1 hj).1
 have : (⟨g, 0, none⟩ : Addr).add j = ⟨g, j, none⟩ := by unfold Addr.add; split <;> simp_all
 rw [this]
 simp only [World.cell?, hg]
 simp only [List.getElem?_toArray]
 rw [List.getElem?_append_left hlt]; exact hj
set_option maxHeartbeats 4000000 in
set_option maxRecDepth 100000 in
theorem mul_0 (w : World) : Calls Try.prog 79 #[.int .u64 1, .int .u64 0] w fun e w' => e = .returned (.tuple #[.int .u64 0, .int .u64 0]) ∧ w = w' := by
 go_enter Try.func79, Try.ntmps79
 go_wp2
 go_ret2
 refine ⟨?_, rfl⟩
 kernel_rfl
set_option maxHeartbeats 4000000 in
set_option maxRecDepth 100000 in
theorem mul_1 (w : World) : Calls Try.prog 79 #[.int .u64 1, .int .u64 1] w fun e w' => e = .returned (.tuple #[.int .u64 0, .int .u64 1]) ∧ w = w' := by
 go_enter Try.func79, Try.ntmps79
 go_wp2
 go_ret2
 refine ⟨?_, rfl⟩
 kernel_rfl
set_option maxHeartbeats 4000000 in
set_option maxRecDepth 100000 in
theorem mul_2 (w : World) : Calls Try.prog 79 #[.int .u64 1, .int .u64 2] w fun e w' => e = .returned (.tuple #[.int .u64 0, .int .u64 2]) ∧ w = w' := by
 go_enter Try.func79, Try.ntmps79
 go_wp2
 go_ret2
 refine ⟨?_, rfl⟩
 kernel_rfl
set_option maxHeartbeats 4000000 in
set_option maxRecDepth 100000 in
theorem mul_3 (w : World) : Calls Try.prog 79 #[.int .u64 1, .int .u64 3] w fun e w' => e = .returned (.tuple #[.int .u64 0, .int .u64 3]) ∧ w = w' := by
 go_enter Try.func79, Try.ntmps79
 go_wp2
 go_ret2
 refine ⟨?_, rfl⟩
 kernel_rfl
set_option maxHeartbeats 4000000 in
set_option maxRecDepth 100000 in
theorem mul_4 (w : World) : Calls Try.prog 79 #[.int .u64 1, .int .u64 4] w fun e w' => e = .returned (.tuple #[.int .u64 0, .int .u64 4]) ∧ w = w' := by
 go_enter Try.func79, Try.ntmps79
 go_wp2
 go_ret2
 refine ⟨?_, rfl⟩
 kernel_rfl
set_option maxHeartbeats 4000000 in
set_option maxRecDepth 100000 in
theorem mul_5 (w : World) : Calls Try.prog 79 #[.int .u64 1, .int .u64 5] w fun e w' => e = .returned (.tuple #[.int .u64 0, .int .u64 5]) ∧ w = w' := by
 go_enter Try.func79, Try.ntmps79
 go_wp2
 go_ret2
 refine ⟨?_, rfl⟩
 kernel_rfl
set_option maxHeartbeats 4000000 in
set_option maxRecDepth 100000 in
theorem mul_6 (w : World) : Calls Try.prog 79 #[.int .u64 1, .int .u64 6] w fun e w' => e = .returned (.tuple #[.int .u64 0, .int .u64 6]) ∧ w = w' := by
 go_enter Try.func79, Try.ntmps79
 go_wp2
 go_ret2
 refine ⟨?_, rfl⟩
 kernel_rfl
set_option maxHeartbeats 8000000 in
set_option maxRecDepth 100000 in
theorem rep45_0 (w : World) (xb xo xc : Nat) (v : Int) (hv : ∀ j u, ([.int .i64 v] : List Value)[j]? = some u → w.cell? ((⟨xb, xo, none⟩ : Addr).add j) = some u) (hxb : xb < w.heap.size) :
  Calls Try.prog 45 #[.slice (some ⟨xb, xo, none⟩) 1 xc, .int .i64 0] w fun e w' => e = .returned (.slice (some ⟨w.heap.size, 0, none⟩) 0 0) ∧ Below w.heap.size w w' ∧ w'.heap[w.heap.size]? = some (.cells ([] : List Value).toArray 3 (0, 0)) ∧ w'.heap.size = w.heap.size + 1 := by
 obtain ⟨i0, hi0, hz0, hs0, hb0⟩ : ∃ i0, Try.prog.info? 3 = some i0 ∧ i0.zero = some (.int .i64 0) ∧ i0.size = 1 ∧ i0.bytes = 8 := ⟨_, rfl, rfl, rfl, rfl⟩
 have hi : (Try.prog.info? 3).map (·.size) = some 1 := by rw [hi0]; simp [hs0]
 have hmk := run_make (P := Try.prog) w 39 3 i0 (.int .i64 0) Try.underlying39 hi0 hz0 .i64 .i64 0 0 (by omega) (by omega) (by rw [hb0]; omega) (by omega)
 rw [hs0] at hmk
 obtain ⟨W1, hW1⟩ : ∃ W1, W1 = w.alloc (.cells (madeCells ((.int .i64 0) : Value).cells ((0 : Int).toNat * 1)) 3) := ⟨_, rfl⟩
 rw [← hW1] at hmk
 have h1 : W1.heap[w.heap.size]? = some (.cells ([] : List Value).toArray 3 (0, 0)) := by
  have e : madeCells ((.int .i64 0) : Value).cells ((0 : Int).toNat * 1) = ([] : List Value).toArray := by kernel_rfl
  rw [hW1, e]; show (w.heap.push _)[w.heap.size]? = _; simp
 have hsz1 : W1.heap.size = w.heap.size + 1 := by rw [hW1]; show (w.heap.push _).size = _; simp
 have hb1 : Below w.heap.size w W1 := by rw [hW1]; exact (Below.refl _ w).alloc (Nat.le_refl _) _
 have hv1 : ∀ j u, ([.int .i64 v] : List Value)[j]? = some u → W1.cell? ((⟨xb, xo, none⟩ : Addr).add j) = some u := by
  intro j u hj
  have := hv j u hj
  have e : (⟨xb, xo, none⟩ : Addr).add j = ⟨xb, xo + j, none⟩ := by unfold Addr.add; split <;> simp_all
  rw [e] at this ⊢
  rw [hW1, World.cell?_alloc_past (w := w) _ xb (xo + j) hxb]; exact this
 clear hW1 hv
 obtain ⟨W2, hc2, h2, hsz2, hb2⟩ := copy_ex (P := Try.prog) W1 39 39 3 w.heap.size 0 0 0 ⟨xb, xo, none⟩ 1 xc 1 0 _ 3 [] Try.underlying39 hi rfl h1 rfl (by intro j u hj; simp at hj) (by simp) (by simp)
 have mixed : Try.prog.follows .mixedOrders = true := (okA fns_nil : Go.Lf.CtxOK Try.prog (mkC 0 [])).mixed
 go_enter Try.func45, Try.ntmps45
 go_wp2_with (first | (go_at_call 79; refine (mul_0 _).mono ?_; rintro e w' ⟨rfl, rfl⟩) | (at_builtin; refine wpList_copy_runI _ rfl _ _ 39 39 rfl _ _ rfl rfl (hc2 _) ?_))
 refine wp_loop_rounds 1 ?_
 rw [rounds_succ]
 go_wp2
 go_ret
 refine ⟨rfl, (hb1.trans hb2), ?_, ?_⟩
 ·simpa using h2
 ·have d : ∀ x : World, x.drew.heap.size = x.heap.size := fun _ => rfl
  skip
  omega
set_option maxHeartbeats 8000000 in
set_option maxRecDepth 100000 in
theorem rep45_1 (w : World) (xb xo xc : Nat) (v : Int) (hv : ∀ j u, ([.int .i64 v] : List Value)[j]? = some u → w.cell? ((⟨xb, xo, none⟩ : Addr).add j) = some u) (hxb : xb < w.heap.size) :
  Calls Try.prog 45 #[.slice (some ⟨xb, xo, none⟩) 1 xc, .int .i64 1] w fun e w' => e = .returned (.slice (some ⟨w.heap.size, 0, none⟩) 1 1) ∧ Below w.heap.size w w' ∧ w'.heap[w.heap.size]? = some (.cells ([.int .i64 v] : List Value).toArray 3 (0, 0)) ∧ w'.heap.size = w.heap.size + 1 := by
 obtain ⟨i0, hi0, hz0, hs0, hb0⟩ : ∃ i0, Try.prog.info? 3 = some i0 ∧ i0.zero = some (.int .i64 0) ∧ i0.size = 1 ∧ i0.bytes = 8 := ⟨_, rfl, rfl, rfl, rfl⟩
 have hi : (Try.prog.info? 3).map (·.size) = some 1 := by rw [hi0]; simp [hs0]
 have hmk := run_make (P := Try.prog) w 39 3 i0 (.int .i64 0) Try.underlying39 hi0 hz0 .i64 .i64 1 1 (by omega) (by omega) (by rw [hb0]; omega) (by omega)
 rw [hs0] at hmk
 obtain ⟨W1, hW1⟩ : ∃ W1, W1 = w.alloc (.cells (madeCells ((.int .i64 0) : Value).cells ((1 : Int).toNat * 1)) 3) := ⟨_, rfl⟩
 rw [← hW1] at hmk
 have h1 : W1.heap[w.heap.size]? = some (.cells ([.int .i64 0] : List Value).toArray 3 (0, 0)) := by
  have e : madeCells ((.int .i64 0) : Value).cells ((1 : Int).toNat * 1) = ([.int .i64 0] : List Value).toArray := by kernel_rfl
  rw [hW1, e]; show (w.heap.push _)[w.heap.size]? = _; simp
 have hsz1 : W1.heap.size = w.heap.size + 1 := by rw [hW1]; show (w.heap.push _).size = _; simp
 have hb1 : Below w.heap.size w W1 := by rw [hW1]; exact (Below.refl _ w).alloc (Nat.le_refl _) _
 have hv1 : ∀ j u, ([.int .i64 v] : List Value)[j]? = some u → W1.cell? ((⟨xb, xo, none⟩ : Addr).add j) = some u := by
  intro j u hj
  have := hv j u hj
  have e : (⟨xb, xo, none⟩ : Addr).add j = ⟨xb, xo + j, none⟩ := by unfold Addr.add; split <;> simp_all
  rw [e] at this ⊢
  rw [hW1, World.cell?_alloc_past (w := w) _ xb (xo + j) hxb]; exact this
 clear hW1 hv
 obtain ⟨W2, hc2, h2, hsz2, hb2⟩ := copy_ex (P := Try.prog) W1 39 39 3 w.heap.size 0 1 1 ⟨xb, xo, none⟩ 1 xc 1 1 _ 3 ([.int .i64 v] : List Value) Try.underlying39 hi rfl h1 rfl hv1 (by simp) (by simp [Value.oneCell'])
 have mixed : Try.prog.follows .mixedOrders = true := (okA fns_nil : Go.Lf.CtxOK Try.prog (mkC 0 [])).mixed
 go_enter Try.func45, Try.ntmps45
 go_wp2_with (first | (go_at_call 79; refine (mul_1 _).mono ?_; rintro e w' ⟨rfl, rfl⟩) | (at_builtin; refine wpList_copy_runI _ rfl _ _ 39 39 rfl _ _ rfl rfl (hc2 _) ?_))
 refine wp_loop_rounds 1 ?_
 rw [rounds_succ]
 go_wp2
 go_ret
 refine ⟨rfl, (hb1.trans hb2), ?_, ?_⟩
 ·simpa using h2
 ·have d : ∀ x : World, x.drew.heap.size = x.heap.size := fun _ => rfl
  skip
  omega
set_option maxHeartbeats 8000000 in
set_option maxRecDepth 100000 in
theorem rep45_2 (w : World) (xb xo xc : Nat) (v : Int) (hv : ∀ j u, ([.int .i64 v] : List Value)[j]? = some u → w.cell? ((⟨xb, xo, none⟩ : Addr).add j) = some u) (hxb : xb < w.heap.size) :
  Calls Try.prog 45 #[.slice (some ⟨xb, xo, none⟩) 1 xc, .int .i64 2] w fun e w' => e = .returned (.slice (some ⟨w.heap.size, 0, none⟩) 2 2) ∧ Below w.heap.size w w' ∧ w'.heap[w.heap.size]? = some (.cells ([.int .i64 v, .int .i64 v] : List Value).toArray 3 (0, 0)) ∧ w'.heap.size = w.heap.size + 1 := by
 obtain ⟨i0, hi0, hz0, hs0, hb0⟩ : ∃ i0, Try.prog.info? 3 = some i0 ∧ i0.zero = some (.int .i64 0) ∧ i0.size = 1 ∧ i0.bytes = 8 := ⟨_, rfl, rfl, rfl, rfl⟩
 have hi : (Try.prog.info? 3).map (·.size) = some 1 := by rw [hi0]; simp [hs0]
 have hmk := run_make (P := Try.prog) w 39 3 i0 (.int .i64 0) Try.underlying39 hi0 hz0 .i64 .i64 2 2 (by omega) (by omega) (by rw [hb0]; omega) (by omega)
 rw [hs0] at hmk
 obtain ⟨W1, hW1⟩ : ∃ W1, W1 = w.alloc (.cells (madeCells ((.int .i64 0) : Value).cells ((2 : Int).toNat * 1)) 3) := ⟨_, rfl⟩
 rw [← hW1] at hmk
 have h1 : W1.heap[w.heap.size]? = some (.cells ([.int .i64 0, .int .i64 0] : List Value).toArray 3 (0, 0)) := by
  have e : madeCells ((.int .i64 0) : Value).cells ((2 : Int).toNat * 1) = ([.int .i64 0, .int .i64 0] : List Value).toArray := by kernel_rfl
  rw [hW1, e]; show (w.heap.push _)[w.heap.size]? = _; simp
 have hsz1 : W1.heap.size = w.heap.size + 1 := by rw [hW1]; show (w.heap.push _).size = _; simp
 have hb1 : Below w.heap.size w W1 := by rw [hW1]; exact (Below.refl _ w).alloc (Nat.le_refl _) _
 have hv1 : ∀ j u, ([.int .i64 v] : List Value)[j]? = some u → W1.cell? ((⟨xb, xo, none⟩ : Addr).add j) = some u := by
  intro j u hj
  have := hv j u hj
  have e : (⟨xb, xo, none⟩ : Addr).add j = ⟨xb, xo + j, none⟩ := by unfold Addr.add; split <;> simp_all
  rw [e] at this ⊢
  rw [hW1, World.cell?_alloc_past (w := w) _ xb (xo + j) hxb]; exact this
 clear hW1 hv
 obtain ⟨W2, hc2, h2, hsz2, hb2⟩ := copy_ex (P := Try.prog) W1 39 39 3 w.heap.size 0 2 2 ⟨xb, xo, none⟩ 1 xc 1 1 _ 3 ([.int .i64 v] : List Value) Try.underlying39 hi rfl h1 rfl hv1 (by simp) (by simp [Value.oneCell'])
 have h2' : W2.drew.heap[w.heap.size]? = some (.cells ([.int .i64 v, .int .i64 0] : List Value).toArray 3 (0, 0)) := by show W2.heap[w.heap.size]? = _; simpa using h2
 obtain ⟨W3, hc3, h3, hsz3, hb3⟩ := copy_ex (P := Try.prog) W2.drew 39 39 3 w.heap.size 1 1 1 ⟨w.heap.size, 0, none⟩ 1 2 1 1 _ 3 ([.int .i64 v] : List Value) Try.underlying39 hi rfl h2' rfl (row_cell h2' ⟨_, rfl⟩) (by simp) (by simp [Value.oneCell'])
 have mixed : Try.prog.follows .mixedOrders = true := (okA fns_nil : Go.Lf.CtxOK Try.prog (mkC 0 [])).mixed
 go_enter Try.func45, Try.ntmps45
 go_wp2_with (first | (go_at_call 79; refine (mul_2 _).mono ?_; rintro e w' ⟨rfl, rfl⟩) | (at_builtin; refine wpList_copy_runI _ rfl _ _ 39 39 rfl _ _ rfl rfl (hc2 _) ?_))
 refine wp_loop_rounds 2 ?_
 rw [rounds_succ]
 go_wp2
 go_region_law_o (refine step_copy_runI rfl _ _ 39 39 rfl _ _ (by simp [Act.eval, Act.put]) (by simp [Act.eval, Act.put]) (hc3 _) ?_)
 go_wp2
 rw [rounds_succ]
 go_wp2
 go_ret
 refine ⟨rfl, (Below.trans (Below.drew (hb1.trans hb2)) hb3), ?_, ?_⟩
 ·simpa using h3
 ·have d : ∀ x : World, x.drew.heap.size = x.heap.size := fun _ => rfl
  simp only [d] at hsz3
  omega
set_option maxHeartbeats 8000000 in
set_option maxRecDepth 100000 in
theorem rep45_3 (w : World) (xb xo xc : Nat) (v : Int) (hv : ∀ j u, ([.int .i64 v] : List Value)[j]? = some u → w.cell? ((⟨xb, xo, none⟩ : Addr).add j) = some u) (hxb : xb < w.heap.size) :
  Calls Try.prog 45 #[.slice (some ⟨xb, xo, none⟩) 1 xc, .int .i64 3] w fun e w' => e = .returned (.slice (some ⟨w.heap.size, 0, none⟩) 3 3) ∧ Below w.heap.size w w' ∧ w'.heap[w.heap.size]? = some (.cells ([.int .i64 v, .int .i64 v, .int .i64 v] : List Value).toArray 3 (0, 0)) ∧ w'.heap.size = w.heap.size + 1 := by
 obtain ⟨i0, hi0, hz0, hs0, hb0⟩ : ∃ i0, Try.prog.info? 3 = some i0 ∧ i0.zero = some (.int .i64 0) ∧ i0.size = 1 ∧ i0.bytes = 8 := ⟨_, rfl, rfl, rfl, rfl⟩
 have hi : (Try.prog.info? 3).map (·.size) = some 1 := by rw [hi0]; simp [hs0]
 have hmk := run_make (P := Try.prog) w 39 3 i0 (.int .i64 0) Try.underlying39 hi0 hz0 .i64 .i64 3 3 (by omega) (by omega) (by rw [hb0]; omega) (by omega)
 rw [hs0] at hmk
 obtain ⟨W1, hW1⟩ : ∃ W1, W1 = w.alloc (.cells (madeCells ((.int .i64 0) : Value).cells ((3 : Int).toNat * 1)) 3) := ⟨_, rfl⟩
 rw [← hW1] at hmk
 have h1 : W1.heap[w.heap.size]? = some (.cells ([.int .i64 0, .int .i64 0, .int .i64 0] : List Value).toArray 3 (0, 0)) := by
  have e : madeCells ((.int .i64 0) : Value).cells ((3 : Int).toNat * 1) = ([.int .i64 0, .int .i64 0, .int .i64 0] : List Value).toArray := by kernel_rfl
  rw [hW1, e]; show (w.heap.push _)[w.heap.size]? = _; simp
 have hsz1 : W1.heap.size = w.heap.size + 1 := by rw [hW1]; show (w.heap.push _).size = _; simp
 have hb1 : Below w.heap.size w W1 := by rw [hW1]; exact (Below.refl _ w).alloc (Nat.le_refl _) _
 have hv1 : ∀ j u, ([.int .i64 v] : List Value)[j]? = some u → W1.cell? ((⟨xb, xo, none⟩ : Addr).add j) = some u := by
  intro j u hj
  have := hv j u hj
  have e : (⟨xb, xo, none⟩ : Addr).add j = ⟨xb, xo + j, none⟩ := by unfold Addr.add; split <;> simp_all
  rw [e] at this ⊢
  rw [hW1, World.cell?_alloc_past (w := w) _ xb (xo + j) hxb]; exact this
 clear hW1 hv
 obtain ⟨W2, hc2, h2, hsz2, hb2⟩ := copy_ex (P := Try.prog) W1 39 39 3 w.heap.size 0 3 3 ⟨xb, xo, none⟩ 1 xc 1 1 _ 3 ([.int .i64 v] : List Value) Try.underlying39 hi rfl h1 rfl hv1 (by simp) (by simp [Value.oneCell'])
 have h2' : W2.drew.heap[w.heap.size]? = some (.cells ([.int .i64 v, .int .i64 0, .int .i64 0] : List Value).toArray 3 (0, 0)) := by show W2.heap[w.heap.size]? = _; simpa using h2
 obtain ⟨W3, hc3, h3, hsz3, hb3⟩ := copy_ex (P := Try.prog) W2.drew 39 39 3 w.heap.size 1 2 2 ⟨w.heap.size, 0, none⟩ 1 3 1 1 _ 3 ([.int .i64 v] : List Value) Try.underlying39 hi rfl h2' rfl (row_cell h2' ⟨_, rfl⟩) (by simp) (by simp [Value.oneCell'])
 have h3' : W3.drew.heap[w.heap.size]? = some (.cells ([.int .i64 v, .int .i64 v, .int .i64 0] : List Value).toArray 3 (0, 0)) := by show W3.heap[w.heap.size]? = _; simpa using h3
 obtain ⟨W4, hc4, h4, hsz4, hb4⟩ := copy_ex (P := Try.prog) W3.drew 39 39 3 w.heap.size 2 1 1 ⟨w.heap.size, 0, none⟩ 2 3 1 1 _ 3 ([.int .i64 v] : List Value) Try.underlying39 hi rfl h3' rfl (row_cell h3' ⟨_, rfl⟩) (by simp) (by simp [Value.oneCell'])
 have mixed : Try.prog.follows .mixedOrders = true := (okA fns_nil : Go.Lf.CtxOK Try.prog (mkC 0 [])).mixed
 go_enter Try.func45, Try.ntmps45
 go_wp2_with (first | (go_at_call 79; refine (mul_3 _).mono ?_; rintro e w' ⟨rfl, rfl⟩) | (at_builtin; refine wpList_copy_runI _ rfl _ _ 39 39 rfl _ _ rfl rfl (hc2 _) ?_))
 refine wp_loop_rounds 3 ?_
 rw [rounds_succ]
 go_wp2
 go_region_law_o (refine step_copy_runI rfl _ _ 39 39 rfl _ _ (by simp [Act.eval, Act.put]) (by simp [Act.eval, Act.put]) (hc3 _) ?_)
 go_wp2
 rw [rounds_succ]
 go_wp2
 go_region_law_o (refine step_copy_runI rfl _ _ 39 39 rfl _ _ (by simp [Act.eval, Act.put]) (by simp [Act.eval, Act.put]) (hc4 _) ?_)
 go_wp2
 rw [rounds_succ]
 go_wp2
 go_ret
 refine ⟨rfl, (Below.trans (Below.drew (Below.trans (Below.drew (hb1.trans hb2)) hb3)) hb4), ?_, ?_⟩
 ·simpa using h4
 ·have d : ∀ x : World, x.drew.heap.size = x.heap.size := fun _ => rfl
  simp only [d] at hsz3 hsz4
  omega
set_option maxHeartbeats 8000000 in
set_option maxRecDepth 100000 in
theorem rep45_4 (w : World) (xb xo xc : Nat) (v : Int) (hv : ∀ j u, ([.int .i64 v] : List Value)[j]? = some u → w.cell? ((⟨xb, xo, none⟩ : Addr).add j) = some u) (hxb : xb < w.heap.size) :
  Calls Try.prog 45 #[.slice (some ⟨xb, xo, none⟩) 1 xc, .int .i64 4] w fun e w' => e = .returned (.slice (some ⟨w.heap.size, 0, none⟩) 4 4) ∧ Below w.heap.size w w' ∧ w'.heap[w.heap.size]? = some (.cells ([.int .i64 v, .int .i64 v, .int .i64 v, .int .i64 v] : List Value).toArray 3 (0, 0)) ∧ w'.heap.size = w.heap.size + 1 := by
 obtain ⟨i0, hi0, hz0, hs0, hb0⟩ : ∃ i0, Try.prog.info? 3 = some i0 ∧ i0.zero = some (.int .i64 0) ∧ i0.size = 1 ∧ i0.bytes = 8 := ⟨_, rfl, rfl, rfl, rfl⟩
 have hi : (Try.prog.info? 3).map (·.size) = some 1 := by rw [hi0]; simp [hs0]
 have hmk := run_make (P := Try.prog) w 39 3 i0 (.int .i64 0) Try.underlying39 hi0 hz0 .i64 .i64 4 4 (by omega) (by omega) (by rw [hb0]; omega) (by omega)
 rw [hs0] at hmk
 obtain ⟨W1, hW1⟩ : ∃ W1, W1 = w.alloc (.cells (madeCells ((.int .i64 0) : Value).cells ((4 : Int).toNat * 1)) 3) := ⟨_, rfl⟩
 rw [← hW1] at hmk
 have h1 : W1.heap[w.heap.size]? = some (.cells ([.int .i64 0, .int .i64 0, .int .i64 0, .int .i64 0] : List Value).toArray 3 (0, 0)) := by
  have e : madeCells ((.int .i64 0) : Value).cells ((4 : Int).toNat * 1) = ([.int .i64 0, .int .i64 0, .int .i64 0, .int .i64 0] : List Value).toArray := by kernel_rfl
  rw [hW1, e]; show (w.heap.push _)[w.heap.size]? = _; simp
 have hsz1 : W1.heap.size = w.heap.size + 1 := by rw [hW1]; show (w.heap.push _).size = _; simp
 have hb1 : Below w.heap.size w W1 := by rw [hW1]; exact (Below.refl _ w).alloc (Nat.le_refl _) _
 have hv1 : ∀ j u, ([.int .i64 v] : List Value)[j]? = some u → W1.cell? ((⟨xb, xo, none⟩ : Addr).add j) = some u := by
  intro j u hj
  have := hv j u hj
  have e : (⟨xb, xo, none⟩ : Addr).add j = ⟨xb, xo + j, none⟩ := by unfold Addr.add; split <;> simp_all
  rw [e] at this ⊢
  rw [hW1, World.cell?_alloc_past (w := w) _ xb (xo + j) hxb]; exact this
 clear hW1 hv
 obtain ⟨W2, hc2, h2, hsz2, hb2⟩ := copy_ex (P := Try.prog) W1 39 39 3 w.heap.size 0 4 4 ⟨xb, xo, none⟩ 1 xc 1 1 _ 3 ([.int .i64 v] : List Value) Try.underlying39 hi rfl h1 rfl hv1 (by simp) (by simp [Value.oneCell'])
 have h2' : W2.drew.heap[w.heap.size]? = some (.cells ([.int .i64 v, .int .i64 0, .int .i64 0, .int .i64 0] : List Value).toArray 3 (0, 0)) := by show W2.heap[w.heap.size]? = _; simpa using h2
 obtain ⟨W3, hc3, h3, hsz3, hb3⟩ := copy_ex (P := Try.prog) W2.drew 39 39 3 w.heap.size 1 3 3 ⟨w.heap.size, 0, none⟩ 1 4 1 1 _ 3 ([.int .i64 v] : List Value) Try.underlying39 hi rfl h2' rfl (row_cell h2' ⟨_, rfl⟩) (by simp) (by simp [Value.oneCell'])
 have h3' : W3.drew.heap[w.heap.size]? = some (.cells ([.int .i64 v, .int .i64 v, .int .i64 0, .int .i64 0] : List Value).toArray 3 (0, 0)) := by show W3.heap[w.heap.size]? = _; simpa using h3
 obtain ⟨W4, hc4, h4, hsz4, hb4⟩ := copy_ex (P := Try.prog) W3.drew 39 39 3 w.heap.size 2 2 2 ⟨w.heap.size, 0, none⟩ 2 4 1 2 _ 3 ([.int .i64 v, .int .i64 v] : List Value) Try.underlying39 hi rfl h3' rfl (row_cell h3' ⟨_, rfl⟩) (by simp) (by simp [Value.oneCell'])
 have mixed : Try.prog.follows .mixedOrders = true := (okA fns_nil : Go.Lf.CtxOK Try.prog (mkC 0 [])).mixed
 go_enter Try.func45, Try.ntmps45
 go_wp2_with (first | (go_at_call 79; refine (mul_4 _).mono ?_; rintro e w' ⟨rfl, rfl⟩) | (at_builtin; refine wpList_copy_runI _ rfl _ _ 39 39 rfl _ _ rfl rfl (hc2 _) ?_))
 refine wp_loop_rounds 3 ?_
 rw [rounds_succ]
 go_wp2
 go_region_law_o (refine step_copy_runI rfl _ _ 39 39 rfl _ _ (by simp [Act.eval, Act.put]) (by simp [Act.eval, Act.put]) (hc3 _) ?_)
 go_wp2
 rw [rounds_succ]
 go_wp2
 go_region_law_o (refine step_copy_runI rfl _ _ 39 39 rfl _ _ (by simp [Act.eval, Act.put]) (by simp [Act.eval, Act.put]) (hc4 _) ?_)
 go_wp2
 rw [rounds_succ]
 go_wp2
 go_ret
 refine ⟨rfl, (Below.trans (Below.drew (Below.trans (Below.drew (hb1.trans hb2)) hb3)) hb4), ?_, ?_⟩
 ·simpa using h4
 ·have d : ∀ x : World, x.drew.heap.size = x.heap.size := fun _ => rfl
  simp only [d] at hsz3 hsz4
  omega
set_option maxHeartbeats 8000000 in
set_option maxRecDepth 100000 in
theorem rep45_5 (w : World) (xb xo xc : Nat) (v : Int) (hv : ∀ j u, ([.int .i64 v] : List Value)[j]? = some u → w.cell? ((⟨xb, xo, none⟩ : Addr).add j) = some u) (hxb : xb < w.heap.size) :
  Calls Try.prog 45 #[.slice (some ⟨xb, xo, none⟩) 1 xc, .int .i64 5] w fun e w' => e = .returned (.slice (some ⟨w.heap.size, 0, none⟩) 5 5) ∧ Below w.heap.size w w' ∧ w'.heap[w.heap.size]? = some (.cells ([.int .i64 v, .int .i64 v, .int .i64 v, .int .i64 v, .int .i64 v] : List Value).toArray 3 (0, 0)) ∧ w'.heap.size = w.heap.size + 1 := by
 obtain ⟨i0, hi0, hz0, hs0, hb0⟩ : ∃ i0, Try.prog.info? 3 = some i0 ∧ i0.zero = some (.int .i64 0) ∧ i0.size = 1 ∧ i0.bytes = 8 := ⟨_, rfl, rfl, rfl, rfl⟩
 have hi : (Try.prog.info? 3).map (·.size) = some 1 := by rw [hi0]; simp [hs0]
 have hmk := run_make (P := Try.prog) w 39 3 i0 (.int .i64 0) Try.underlying39 hi0 hz0 .i64 .i64 5 5 (by omega) (by omega) (by rw [hb0]; omega) (by omega)
 rw [hs0] at hmk
 obtain ⟨W1, hW1⟩ : ∃ W1, W1 = w.alloc (.cells (madeCells ((.int .i64 0) : Value).cells ((5 : Int).toNat * 1)) 3) := ⟨_, rfl⟩
 rw [← hW1] at hmk
 have h1 : W1.heap[w.heap.size]? = some (.cells ([.int .i64 0, .int .i64 0, .int .i64 0, .int .i64 0, .int .i64 0] : List Value).toArray 3 (0, 0)) := by
  have e : madeCells ((.int .i64 0) : Value).cells ((5 : Int).toNat * 1) = ([.int .i64 0, .int .i64 0, .int .i64 0, .int .i64 0, .int .i64 0] : List Value).toArray := by kernel_rfl
  rw [hW1, e]; show (w.heap.push _)[w.heap.size]? = _; simp
 have hsz1 : W1.heap.size = w.heap.size + 1 := by rw [hW1]; show (w.heap.push _).size = _; simp
 have hb1 : Below w.heap.size w W1 := by rw [hW1]; exact (Below.refl _ w).alloc (Nat.le_refl _) _
 have hv1 : ∀ j u, ([.int .i64 v] : List Value)[j]? = some u → W1.cell? ((⟨xb, xo, none⟩ : Addr).add j) = some u := by
  intro j u hj
  have := hv j u hj
  have e : (⟨xb, xo, none⟩ : Addr).add j = ⟨xb, xo + j, none⟩ := by unfold Addr.add; split <;> simp_all
  rw [e] at this ⊢
  rw [hW1, World.cell?_alloc_past (w := w) _ xb (xo + j) hxb]; exact this
 clear hW1 hv
 obtain ⟨W2, hc2, h2, hsz2, hb2⟩ := copy_ex (P := Try.prog) W1 39 39 3 w.heap.size 0 5 5 ⟨xb, xo, none⟩ 1 xc 1 1 _ 3 ([.int .i64 v] : List Value) Try.underlying39 hi rfl h1 rfl hv1 (by simp) (by simp [Value.oneCell'])
 have h2' : W2.drew.heap[w.heap.size]? = some (.cells ([.int .i64 v, .int .i64 0, .int .i64 0, .int .i64 0, .int .i64 0] : List Value).toArray 3 (0, 0)) := by show W2.heap[w.heap.size]? = _; simpa using h2
 obtain ⟨W3, hc3, h3, hsz3, hb3⟩ := copy_ex (P := Try.prog) W2.drew 39 39 3 w.heap.size 1 4 4 ⟨w.heap.size, 0, none⟩ 1 5 1 1 _ 3 ([.int .i64 v] : List Value) Try.underlying39 hi rfl h2' rfl (row_cell h2' ⟨_, rfl⟩) (by simp) (by simp [Value.oneCell'])
 have h3' : W3.drew.heap[w.heap.size]? = some (.cells ([.int .i64 v, .int .i64 v, .int .i64 0, .int .i64 0, .int .i64 0] : List Value).toArray 3 (0, 0)) := by show W3.heap[w.heap.size]? = _; simpa using h3
 obtain ⟨W4, hc4, h4, hsz4, hb4⟩ := copy_ex (P := Try.prog) W3.drew 39 39 3 w.heap.size 2 3 3 ⟨w.heap.size, 0, none⟩ 2 5 1 2 _ 3 ([.int .i64 v, .int .i64 v] : List Value) Try.underlying39 hi rfl h3' rfl (row_cell h3' ⟨_, rfl⟩) (by simp) (by simp [Value.oneCell'])
 have h4' : W4.drew.heap[w.heap.size]? = some (.cells ([.int .i64 v, .int .i64 v, .int .i64 v, .int .i64 v, .int .i64 0] : List Value).toArray 3 (0, 0)) := by show W4.heap[w.heap.size]? = _; simpa using h4
 obtain ⟨W5, hc5, h5, hsz5, hb5⟩ := copy_ex (P := Try.prog) W4.drew 39 39 3 w.heap.size 4 1 1 ⟨w.heap.size, 0, none⟩ 4 5 1 1 _ 3 ([.int .i64 v] : List Value) Try.underlying39 hi rfl h4' rfl (row_cell h4' ⟨_, rfl⟩) (by simp) (by simp [Value.oneCell'])
 have mixed : Try.prog.follows .mixedOrders = true := (okA fns_nil : Go.Lf.CtxOK Try.prog (mkC 0 [])).mixed
 go_enter Try.func45, Try.ntmps45
 go_wp2_with (first | (go_at_call 79; refine (mul_5 _).mono ?_; rintro e w' ⟨rfl, rfl⟩) | (at_builtin; refine wpList_copy_runI _ rfl _ _ 39 39 rfl _ _ rfl rfl (hc2 _) ?_))
 refine wp_loop_rounds 4 ?_
 rw [rounds_succ]
 go_wp2
 go_region_law_o (refine step_copy_runI rfl _ _ 39 39 rfl _ _ (by simp [Act.eval, Act.put]) (by simp [Act.eval, Act.put]) (hc3 _) ?_)
 go_wp2
 rw [rounds_succ]
 go_wp2
 go_region_law_o (refine step_copy_runI rfl _ _ 39 39 rfl _ _ (by simp [Act.eval, Act.put]) (by simp [Act.eval, Act.put]) (hc4 _) ?_)
 go_wp2
 rw [rounds_succ]
 go_wp2
 go_region_law_o (refine step_copy_runI rfl _ _ 39 39 rfl _ _ (by simp [Act.eval, Act.put]) (by simp [Act.eval, Act.put]) (hc5 _) ?_)
 go_wp2
 rw [rounds_succ]
 go_wp2
 go_ret
 refine ⟨rfl, (Below.trans (Below.drew (Below.trans (Below.drew (Below.trans (Below.drew (hb1.trans hb2)) hb3)) hb4)) hb5), ?_, ?_⟩
 ·simpa using h5
 ·have d : ∀ x : World, x.drew.heap.size = x.heap.size := fun _ => rfl
  simp only [d] at hsz3 hsz4 hsz5
  omega
set_option maxHeartbeats 8000000 in
set_option maxRecDepth 100000 in
theorem rep45_6 (w : World) (xb xo xc : Nat) (v : Int) (hv : ∀ j u, ([.int .i64 v] : List Value)[j]? = some u → w.cell? ((⟨xb, xo, none⟩ : Addr).add j) = some u) (hxb : xb < w.heap.size) :
  Calls Try.prog 45 #[.slice (some ⟨xb, xo, none⟩) 1 xc, .int .i64 6] w fun e w' => e = .returned (.slice (some ⟨w.heap.size, 0, none⟩) 6 6) ∧ Below w.heap.size w w' ∧ w'.heap[w.heap.size]? = some (.cells ([.int .i64 v, .int .i64 v, .int .i64 v, .int .i64 v, .int .i64 v, .int .i64 v] : List Value).toArray 3 (0, 0)) ∧ w'.heap.size = w.heap.size + 1 := by
 obtain ⟨i0, hi0, hz0, hs0, hb0⟩ : ∃ i0, Try.prog.info? 3 = some i0 ∧ i0.zero = some (.int .i64 0) ∧ i0.size = 1 ∧ i0.bytes = 8 := ⟨_, rfl, rfl, rfl, rfl⟩
 have hi : (Try.prog.info? 3).map (·.size) = some 1 := by rw [hi0]; simp [hs0]
 have hmk := run_make (P := Try.prog) w 39 3 i0 (.int .i64 0) Try.underlying39 hi0 hz0 .i64 .i64 6 6 (by omega) (by omega) (by rw [hb0]; omega) (by omega)
 rw [hs0] at hmk
 obtain ⟨W1, hW1⟩ : ∃ W1, W1 = w.alloc (.cells (madeCells ((.int .i64 0) : Value).cells ((6 : Int).toNat * 1)) 3) := ⟨_, rfl⟩
 rw [← hW1] at hmk
 have h1 : W1.heap[w.heap.size]? = some (.cells ([.int .i64 0, .int .i64 0, .int .i64 0, .int .i64 0, .int .i64 0, .int .i64 0] : List Value).toArray 3 (0, 0)) := by
  have e : madeCells ((.int .i64 0) : Value).cells ((6 : Int).toNat * 1) = ([.int .i64 0, .int .i64 0, .int .i64 0, .int .i64 0, .int .i64 0, .int .i64 0] : List Value).toArray := by kernel_rfl
  rw [hW1, e]; show (w.heap.push _)[w.heap.size]? = _; simp
 have hsz1 : W1.heap.size = w.heap.size + 1 := by rw [hW1]; show (w.heap.push _).size = _; simp
 have hb1 : Below w.heap.size w W1 := by rw [hW1]; exact (Below.refl _ w).alloc (Nat.le_refl _) _
 have hv1 : ∀ j u, ([.int .i64 v] : List Value)[j]? = some u → W1.cell? ((⟨xb, xo, none⟩ : Addr).add j) = some u := by
  intro j u hj
  have := hv j u hj
  have e : (⟨xb, xo, none⟩ : Addr).add j = ⟨xb, xo + j, none⟩ := by unfold Addr.add; split <;> simp_all
  rw [e] at this ⊢
  rw [hW1, World.cell?_alloc_past (w := w) _ xb (xo + j) hxb]; exact this
 clear hW1 hv
 obtain ⟨W2, hc2, h2, hsz2, hb2⟩ := copy_ex (P := Try.prog) W1 39 39 3 w.heap.size 0 6 6 ⟨xb, xo, none⟩ 1 xc 1 1 _ 3 ([.int .i64 v] : List Value) Try.underlying39 hi rfl h1 rfl hv1 (by simp) (by simp [Value.oneCell'])
 have h2' : W2.drew.heap[w.heap.size]? = some (.cells ([.int .i64 v, .int .i64 0, .int .i64 0, .int .i64 0, .int .i64 0, .int .i64 0] : List Value).toArray 3 (0, 0)) := by show W2.heap[w.heap.size]? = _; simpa using h2
 obtain ⟨W3, hc3, h3, hsz3, hb3⟩ := copy_ex (P := Try.prog) W2.drew 39 39 3 w.heap.size 1 5 5 ⟨w.heap.size, 0, none⟩ 1 6 1 1 _ 3 ([.int .i64 v] : List Value) Try.underlying39 hi rfl h2' rfl (row_cell h2' ⟨_, rfl⟩) (by simp) (by simp [Value.oneCell'])
 have h3' : W3.drew.heap[w.heap.size]? = some (.cells ([.int .i64 v, .int .i64 v, .int .i64 0, .int .i64 0, .int .i64 0, .int .i64 0] : List Value).toArray 3 (0, 0)) := by show W3.heap[w.heap.size]? = _; simpa using h3
 obtain ⟨W4, hc4, h4, hsz4, hb4⟩ := copy_ex (P := Try.prog) W3.drew 39 39 3 w.heap.size 2 4 4 ⟨w.heap.size, 0, none⟩ 2 6 1 2 _ 3 ([.int .i64 v, .int .i64 v] : List Value) Try.underlying39 hi rfl h3' rfl (row_cell h3' ⟨_, rfl⟩) (by simp) (by simp [Value.oneCell'])
 have h4' : W4.drew.heap[w.heap.size]? = some (.cells ([.int .i64 v, .int .i64 v, .int .i64 v, .int .i64 v, .int .i64 0, .int .i64 0] : List Value).toArray 3 (0, 0)) := by show W4.heap[w.heap.size]? = _; simpa using h4
 obtain ⟨W5, hc5, h5, hsz5, hb5⟩ := copy_ex (P := Try.prog) W4.drew 39 39 3 w.heap.size 4 2 2 ⟨w.heap.size, 0, none⟩ 4 6 1 2 _ 3 ([.int .i64 v, .int .i64 v] : List Value) Try.underlying39 hi rfl h4' rfl (row_cell h4' ⟨_, rfl⟩) (by simp) (by simp [Value.oneCell'])
 have mixed : Try.prog.follows .mixedOrders = true := (okA fns_nil : Go.Lf.CtxOK Try.prog (mkC 0 [])).mixed
 go_enter Try.func45, Try.ntmps45
 go_wp2_with (first | (go_at_call 79; refine (mul_6 _).mono ?_; rintro e w' ⟨rfl, rfl⟩) | (at_builtin; refine wpList_copy_runI _ rfl _ _ 39 39 rfl _ _ rfl rfl (hc2 _) ?_))
 refine wp_loop_rounds 4 ?_
 rw [rounds_succ]
 go_wp2
 go_region_law_o (refine step_copy_runI rfl _ _ 39 39 rfl _ _ (by simp [Act.eval, Act.put]) (by simp [Act.eval, Act.put]) (hc3 _) ?_)
 go_wp2
 rw [rounds_succ]
 go_wp2
 go_region_law_o (refine step_copy_runI rfl _ _ 39 39 rfl _ _ (by simp [Act.eval, Act.put]) (by simp [Act.eval, Act.put]) (hc4 _) ?_)
 go_wp2
 rw [rounds_succ]
 go_wp2
 go_region_law_o (refine step_copy_runI rfl _ _ 39 39 rfl _ _ (by simp [Act.eval, Act.put]) (by simp [Act.eval, Act.put]) (hc5 _) ?_)
 go_wp2
 rw [rounds_succ]
 go_wp2
 go_ret
 refine ⟨rfl, (Below.trans (Below.drew (Below.trans (Below.drew (Below.trans (Below.drew (hb1.trans hb2)) hb3)) hb4)) hb5), ?_, ?_⟩
 ·simpa using h5
 ·have d : ∀ x : World, x.drew.heap.size = x.heap.size := fun _ => rfl
  simp only [d] at hsz3 hsz4 hsz5
  omega
set_option maxHeartbeats 8000000 in
set_option maxRecDepth 100000 in
theorem rep44_0 (w : World) (xb xo xc : Nat) (v v1 v2 : Int) (hv : ∀ j u, ([.int .i64 v, .int .i64 v1, .int .i64 v2] : List Value)[j]? = some u → w.cell? ((⟨xb, xo, none⟩ : Addr).add j) = some u) (hxb : xb < w.heap.size) :
  Calls Try.prog 44 #[.slice (some ⟨xb, xo, none⟩) 1 xc, .int .i64 0] w fun e w' => e = .returned (.slice (some ⟨w.heap.size, 0, none⟩) 0 0) ∧ Below w.heap.size w w' ∧ w'.heap[w.heap.size]? = some (.cells ([] : List Value).toArray 40 (0, 0)) ∧ w'.heap.size = w.heap.size + 1 := by
 obtain ⟨i0, hi0, hz0, hs0, hb0⟩ : ∃ i0, Try.prog.info? 40 = some i0 ∧ i0.zero = some (.agg #[.int .i64 0, .int .i64 0, .int .i64 0]) ∧ i0.size = 3 ∧ i0.bytes = 24 := ⟨_, rfl, rfl, rfl, rfl⟩
 have hi : (Try.prog.info? 40).map (·.size) = some 3 := by rw [hi0]; simp [hs0]
 have hmk := run_make (P := Try.prog) w 50 40 i0 (.agg #[.int .i64 0, .int .i64 0, .int .i64 0]) Try.underlying50 hi0 hz0 .i64 .i64 0 0 (by omega) (by omega) (by rw [hb0]; omega) (by omega)
 rw [hs0] at hmk
 obtain ⟨W1, hW1⟩ : ∃ W1, W1 = w.alloc (.cells (madeCells ((.agg #[.int .i64 0, .int .i64 0, .int .i64 0]) : Value).cells ((0 : Int).toNat * 3)) 40) := ⟨_, rfl⟩
 rw [← hW1] at hmk
 have h1 : W1.heap[w.heap.size]? = some (.cells ([] : List Value).toArray 40 (0, 0)) := by
  have e : madeCells ((.agg #[.int .i64 0, .int .i64 0, .int .i64 0]) : Value).cells ((0 : Int).toNat * 3) = ([] : List Value).toArray := by kernel_rfl
  rw [hW1, e]; show (w.heap.push _)[w.heap.size]? = _; simp
 have hsz1 : W1.heap.size = w.heap.size + 1 := by rw [hW1]; show (w.heap.push _).size = _; simp
 have hb1 : Below w.heap.size w W1 := by rw [hW1]; exact (Below.refl _ w).alloc (Nat.le_refl _) _
 have hv1 : ∀ j u, ([.int .i64 v, .int .i64 v1, .int .i64 v2] : List Value)[j]? = some u → W1.cell? ((⟨xb, xo, none⟩ : Addr).add j) = some u := by
  intro j u hj
  have := hv j u hj
  have e : (⟨xb, xo, none⟩ : Addr).add j = ⟨xb, xo + j, none⟩ := by unfold Addr.add; split <;> simp_all
  rw [e] at this ⊢
  rw [hW1, World.cell?_alloc_past (w := w) _ xb (xo + j) hxb]; exact this
 clear hW1 hv
 obtain ⟨W2, hc2, h2, hsz2, hb2⟩ := copy_ex (P := Try.prog) W1 50 50 40 w.heap.size 0 0 0 ⟨xb, xo, none⟩ 1 xc 3 0 _ 40 [] Try.underlying50 hi rfl h1 rfl (by intro j u hj; simp at hj) (by simp) (by simp)
 have mixed : Try.prog.follows .mixedOrders = true := (okA fns_nil : Go.Lf.CtxOK Try.prog (mkC 0 [])).mixed
 go_enter Try.func44, Try.ntmps44
 go_wp2_with (first | (go_at_call 79; refine (mul_0 _).mono ?_; rintro e w' ⟨rfl, rfl⟩) | (at_builtin; refine wpList_copy_runI _ rfl _ _ 50 50 rfl _ _ rfl rfl (hc2 _) ?_))
 refine wp_loop_rounds 1 ?_
 rw [rounds_succ]
 go_wp2
 go_ret
 refine ⟨rfl, (hb1.trans hb2), ?_, ?_⟩
 ·simpa using h2
 ·have d : ∀ x : World, x.drew.heap.size = x.heap.size := fun _ => rfl
  skip
  omega
set_option maxHeartbeats 8000000 in
set_option maxRecDepth 100000 in
theorem rep44_1 (w : World) (xb xo xc : Nat) (v v1 v2 : Int) (hv : ∀ j u, ([.int .i64 v, .int .i64 v1, .int .i64 v2] : List Value)[j]? = some u → w.cell? ((⟨xb, xo, none⟩ : Addr).add j) = some u) (hxb : xb < w.heap.size) :
  Calls Try.prog 44 #[.slice (some ⟨xb, xo, none⟩) 1 xc, .int .i64 1] w fun e w' => e = .returned (.slice (some ⟨w.heap.size, 0, none⟩) 1 1) ∧ Below w.heap.size w w' ∧ w'.heap[w.heap.size]? = some (.cells ([.int .i64 v, .int .i64 v1, .int .i64 v2] : List Value).toArray 40 (0, 0)) ∧ w'.heap.size = w.heap.size + 1 := by
 obtain ⟨i0, hi0, hz0, hs0, hb0⟩ : ∃ i0, Try.prog.info? 40 = some i0 ∧ i0.zero = some (.agg #[.int .i64 0, .int .i64 0, .int .i64 0]) ∧ i0.size = 3 ∧ i0.bytes = 24 := ⟨_, rfl, rfl, rfl, rfl⟩
 have hi : (Try.prog.info? 40).map (·.size) = some 3 := by rw [hi0]; simp [hs0]
 have hmk := run_make (P := Try.prog) w 50 40 i0 (.agg #[.int .i64 0, .int .i64 0, .int .i64 0]) Try.underlying50 hi0 hz0 .i64 .i64 1 1 (by omega) (by omega) (by rw [hb0]; omega) (by omega)
 rw [hs0] at hmk
 obtain ⟨W1, hW1⟩ : ∃ W1, W1 = w.alloc (.cells (madeCells ((.agg #[.int .i64 0, .int .i64 0, .int .i64 0]) : Value).cells ((1 : Int).toNat * 3)) 40) := ⟨_, rfl⟩
 rw [← hW1] at hmk
 have h1 : W1.heap[w.heap.size]? = some (.cells ([.int .i64 0, .int .i64 0, .int .i64 0] : List Value).toArray 40 (0, 0)) := by
  have e : madeCells ((.agg #[.int .i64 0, .int .i64 0, .int .i64 0]) : Value).cells ((1 : Int).toNat * 3) = ([.int .i64 0, .int .i64 0, .int .i64 0] : List Value).toArray := by kernel_rfl
  rw [hW1, e]; show (w.heap.push _)[w.heap.size]? = _; simp
 have hsz1 : W1.heap.size = w.heap.size + 1 := by rw [hW1]; show (w.heap.push _).size = _; simp
 have hb1 : Below w.heap.size w W1 := by rw [hW1]; exact (Below.refl _ w).alloc (Nat.le_refl _) _
 have hv1 : ∀ j u, ([.int .i64 v, .int .i64 v1, .int .i64 v2] : List Value)[j]? = some u → W1.cell? ((⟨xb, xo, none⟩ : Addr).add j) = some u := by
  intro j u hj
  have := hv j u hj
  have e : (⟨xb, xo, none⟩ : Addr).add j = ⟨xb, xo + j, none⟩ := by unfold Addr.add; split <;> simp_all
  rw [e] at this ⊢
  rw [hW1, World.cell?_alloc_past (w := w) _ xb (xo + j) hxb]; exact this
 clear hW1 hv
 obtain ⟨W2, hc2, h2, hsz2, hb2⟩ := copy_ex (P := Try.prog) W1 50 50 40 w.heap.size 0 1 1 ⟨xb, xo, none⟩ 1 xc 3 1 _ 40 ([.int .i64 v, .int .i64 v1, .int .i64 v2] : List Value) Try.underlying50 hi rfl h1 rfl hv1 (by simp) (by simp [Value.oneCell'])
 have mixed : Try.prog.follows .mixedOrders = true := (okA fns_nil : Go.Lf.CtxOK Try.prog (mkC 0 [])).mixed
 go_enter Try.func44, Try.ntmps44
 go_wp2_with (first | (go_at_call 79; refine (mul_1 _).mono ?_; rintro e w' ⟨rfl, rfl⟩) | (at_builtin; refine wpList_copy_runI _ rfl _ _ 50 50 rfl _ _ rfl rfl (hc2 _) ?_))
 refine wp_loop_rounds 1 ?_
 rw [rounds_succ]
 go_wp2
 go_ret
 refine ⟨rfl, (hb1.trans hb2), ?_, ?_⟩
 ·simpa using h2
 ·have d : ∀ x : World, x.drew.heap.size = x.heap.size := fun _ => rfl
  skip
  omega
set_option maxHeartbeats 8000000 in
set_option maxRecDepth 100000 in
theorem rep44_2 (w : World) (xb xo xc : Nat) (v v1 v2 : Int) (hv : ∀ j u, ([.int .i64 v, .int .i64 v1, .int .i64 v2] : List Value)[j]? = some u → w.cell? ((⟨xb, xo, none⟩ : Addr).add j) = some u) (hxb : xb < w.heap.size) :
  Calls Try.prog 44 #[.slice (some ⟨xb, xo, none⟩) 1 xc, .int .i64 2] w fun e w' => e = .returned (.slice (some ⟨w.heap.size, 0, none⟩) 2 2) ∧ Below w.heap.size w w' ∧ w'.heap[w.heap.size]? = some (.cells ([.int .i64 v, .int .i64 v1, .int .i64 v2, .int .i64 v, .int .i64 v1, .int .i64 v2] : List Value).toArray 40 (0, 0)) ∧ w'.heap.size = w.heap.size + 1 := by
 obtain ⟨i0, hi0, hz0, hs0, hb0⟩ : ∃ i0, Try.prog.info? 40 = some i0 ∧ i0.zero = some (.agg #[.int .i64 0, .int .i64 0, .int .i64 0]) ∧ i0.size = 3 ∧ i0.bytes = 24 := ⟨_, rfl, rfl, rfl, rfl⟩
 have hi : (Try.prog.info? 40).map (·.size) = some 3 := by rw [hi0]; simp [hs0]
 have hmk := run_make (P := Try.prog) w 50 40 i0 (.agg #[.int .i64 0, .int .i64 0, .int .i64 0]) Try.underlying50 hi0 hz0 .i64 .i64 2 2 (by omega) (by omega) (by rw [hb0]; omega) (by omega)
 rw [hs0] at hmk
 obtain ⟨W1, hW1⟩ : ∃ W1, W1 = w.alloc (.cells (madeCells ((.agg #[.int .i64 0, .int .i64 0, .int .i64 0]) : Value).cells ((2 : Int).toNat * 3)) 40) := ⟨_, rfl⟩
 rw [← hW1] at hmk
 have h1 : W1.heap[w.heap.size]? = some (.cells ([.int .i64 0, .int .i64 0, .int .i64 0, .int .i64 0, .int .i64 0, .int .i64 0] : List Value).toArray 40 (0, 0)) := by
  have e : madeCells ((.agg #[.int .i64 0, .int .i64 0, .int .i64 0]) : Value).cells ((2 : Int).toNat * 3) = ([.int .i64 0, .int .i64 0, .int .i64 0, .int .i64 0, .int .i64 0, .int .i64 0] : List Value).toArray := by kernel_rfl
  rw [hW1, e]; show (w.heap.push _)[w.heap.size]? = _; simp
 have hsz1 : W1.heap.size = w.heap.size + 1 := by rw [hW1]; show (w.heap.push _).size = _; simp
 have hb1 : Below w.heap.size w W1 := by rw [hW1]; exact (Below.refl _ w).alloc (Nat.le_refl _) _
 have hv1 : ∀ j u, ([.int .i64 v, .int .i64 v1, .int .i64 v2] : List Value)[j]? = some u → W1.cell? ((⟨xb, xo, none⟩ : Addr).add j) = some u := by
  intro j u hj
  have := hv j u hj
  have e : (⟨xb, xo, none⟩ : Addr).add j = ⟨xb, xo + j, none⟩ := by unfold Addr.add; split <;> simp_all
  rw [e] at this ⊢
  rw [hW1, World.cell?_alloc_past (w := w) _ xb (xo + j) hxb]; exact this
 clear hW1 hv
 obtain ⟨W2, hc2, h2, hsz2, hb2⟩ := copy_ex (P := Try.prog) W1 50 50 40 w.heap.size 0 2 2 ⟨xb, xo, none⟩ 1 xc 3 1 _ 40 ([.int .i64 v, .int .i64 v1, .int .i64 v2] : List Value) Try.underlying50 hi rfl h1 rfl hv1 (by simp) (by simp [Value.oneCell'])
 have h2' : W2.drew.heap[w.heap.size]? = some (.cells ([.int .i64 v, .int .i64 v1, .int .i64 v2, .int .i64 0, .int .i64 0, .int .i64 0] : List Value).toArray 40 (0, 0)) := by show W2.heap[w.heap.size]? = _; simpa using h2
 obtain ⟨W3, hc3, h3, hsz3, hb3⟩ := copy_ex (P := Try.prog) W2.drew 50 50 40 w.heap.size 3 1 1 ⟨w.heap.size, 0, none⟩ 1 2 3 1 _ 40 ([.int .i64 v, .int .i64 v1, .int .i64 v2] : List Value) Try.underlying50 hi rfl h2' rfl (row_cell h2' ⟨_, rfl⟩) (by simp) (by simp [Value.oneCell'])
 have mixed : Try.prog.follows .mixedOrders = true := (okA fns_nil : Go.Lf.CtxOK Try.prog (mkC 0 [])).mixed
 go_enter Try.func44, Try.ntmps44
 go_wp2_with (first | (go_at_call 79; refine (mul_2 _).mono ?_; rintro e w' ⟨rfl, rfl⟩) | (at_builtin; refine wpList_copy_runI _ rfl _ _ 50 50 rfl _ _ rfl rfl (hc2 _) ?_))
 refine wp_loop_rounds 2 ?_
 rw [rounds_succ]
 go_wp2
 go_region_law_o (refine step_copy_runI rfl _ _ 50 50 rfl _ _ (by simp [Act.eval, Act.put]) (by simp [Act.eval, Act.put]) (hc3 _) ?_)
 go_wp2
 rw [rounds_succ]
 go_wp2
 go_ret
 refine ⟨rfl, (Below.trans (Below.drew (hb1.trans hb2)) hb3), ?_, ?_⟩
 ·simpa using h3
 ·have d : ∀ x : World, x.drew.heap.size = x.heap.size := fun _ => rfl
  simp only [d] at hsz3
  omega
set_option maxHeartbeats 8000000 in
set_option maxRecDepth 100000 in
theorem rep44_3 (w : World) (xb xo xc : Nat) (v v1 v2 : Int) (hv : ∀ j u, ([.int .i64 v, .int .i64 v1, .int .i64 v2] : List Value)[j]? = some u → w.cell? ((⟨xb, xo, none⟩ : Addr).add j) = some u) (hxb : xb < w.heap.size) :
  Calls Try.prog 44 #[.slice (some ⟨xb, xo, none⟩) 1 xc, .int .i64 3] w fun e w' => e = .returned (.slice (some ⟨w.heap.size, 0, none⟩) 3 3) ∧ Below w.heap.size w w' ∧ w'.heap[w.heap.size]? = some (.cells ([.int .i64 v, .int .i64 v1, .int .i64 v2, .int .i64 v, .int .i64 v1, .int .i64 v2, .int .i64 v, .int .i64 v1, .int .i64 v2] : List Value).toArray 40 (0, 0)) ∧ w'.heap.size = w.heap.size + 1 := by
 obtain ⟨i0, hi0, hz0, hs0, hb0⟩ : ∃ i0, Try.prog.info? 40 = some i0 ∧ i0.zero = some (.agg #[.int .i64 0, .int .i64 0, .int .i64 0]) ∧ i0.size = 3 ∧ i0.bytes = 24 := ⟨_, rfl, rfl, rfl, rfl⟩
 have hi : (Try.prog.info? 40).map (·.size) = some 3 := by rw [hi0]; simp [hs0]
 have hmk := run_make (P := Try.prog) w 50 40 i0 (.agg #[.int .i64 0, .int .i64 0, .int .i64 0]) Try.underlying50 hi0 hz0 .i64 .i64 3 3 (by omega) (by omega) (by rw [hb0]; omega) (by omega)
 rw [hs0] at hmk
 obtain ⟨W1, hW1⟩ : ∃ W1, W1 = w.alloc (.cells (madeCells ((.agg #[.int .i64 0, .int .i64 0, .int .i64 0]) : Value).cells ((3 : Int).toNat * 3)) 40) := ⟨_, rfl⟩
 rw [← hW1] at hmk
 have h1 : W1.heap[w.heap.size]? = some (.cells ([.int .i64 0, .int .i64 0, .int .i64 0, .int .i64 0, .int .i64 0, .int .i64 0, .int .i64 0, .int .i64 0, .int .i64 0] : List Value).toArray 40 (0, 0)) := by
  have e : madeCells ((.agg #[.int .i64 0, .int .i64 0, .int .i64 0]) : Value).cells ((3 : Int).toNat * 3) = ([.int .i64 0, .int .i64 0, .int .i64 0, .int .i64 0, .int .i64 0, .int .i64 0, .int .i64 0, .int .i64 0, .int .i64 0] : List Value).toArray := by kernel_rfl
  rw [hW1, e]; show (w.heap.push _)[w.heap.size]? = _; simp
 have hsz1 : W1.heap.size = w.heap.size + 1 := by rw [hW1]; show (w.heap.push _).size = _; simp
 have hb1 : Below w.heap.size w W1 := by rw [hW1]; exact (Below.refl _ w).alloc (Nat.le_refl _) _
 have hv1 : ∀ j u, ([.int .i64 v, .int .i64 v1, .int .i64 v2] : List Value)[j]? = some u → W1.cell? ((⟨xb, xo, none⟩ : Addr).add j) = some u := by
  intro j u hj
  have := hv j u hj
  have e : (⟨xb, xo, none⟩ : Addr).add j = ⟨xb, xo + j, none⟩ := by unfold Addr.add; split <;> simp_all
  rw [e] at this ⊢
  rw [hW1, World.cell?_alloc_past (w := w) _ xb (xo + j) hxb]; exact this
 clear hW1 hv
 obtain ⟨W2, hc2, h2, hsz2, hb2⟩ := copy_ex (P := Try.prog) W1 50 50 40 w.heap.size 0 3 3 ⟨xb, xo, none⟩ 1 xc 3 1 _ 40 ([.int .i64 v, .int .i64 v1, .int .i64 v2] : List Value) Try.underlying50 hi rfl h1 rfl hv1 (by simp) (by simp [Value.oneCell'])
 have h2' : W2.drew.heap[w.heap.size]? = some (.cells ([.int .i64 v, .int .i64 v1, .int .i64 v2, .int .i64 0, .int .i64 0, .int .i64 0, .int .i64 0, .int .i64 0, .int .i64 0] : List Value).toArray 40 (0, 0)) := by show W2.heap[w.heap.size]? = _; simpa using h2
 obtain ⟨W3, hc3, h3, hsz3, hb3⟩ := copy_ex (P := Try.prog) W2.drew 50 50 40 w.heap.size 3 2 2 ⟨w.heap.size, 0, none⟩ 1 3 3 1 _ 40 ([.int .i64 v, .int .i64 v1, .int .i64 v2] : List Value) Try.underlying50 hi rfl h2' rfl (row_cell h2' ⟨_, rfl⟩) (by simp) (by simp [Value.oneCell'])
 have h3' : W3.drew.heap[w.heap.size]? = some (.cells ([.int .i64 v, .int .i64 v1, .int .i64 v2, .int .i64 v, .int .i64 v1, .int .i64 v2, .int .i64 0, .int .i64 0, .int .i64 0] : List Value).toArray 40 (0, 0)) := by show W3.heap[w.heap.size]? = _; simpa using h3
 obtain ⟨W4, hc4, h4, hsz4, hb4⟩ := copy_ex (P := Try.prog) W3.drew 50 50 40 w.heap.size 6 1 1 ⟨w.heap.size, 0, none⟩ 2 3 3 1 _ 40 ([.int .i64 v, .int .i64 v1, .int .i64 v2] : List Value) Try.underlying50 hi rfl h3' rfl (row_cell h3' ⟨_, rfl⟩) (by simp) (by simp [Value.oneCell'])
 have mixed : Try.prog.follows .mixedOrders = true := (okA fns_nil : Go.Lf.CtxOK Try.prog (mkC 0 [])).mixed
 go_enter Try.func44, Try.ntmps44
 go_wp2_with (first | (go_at_call 79; refine (mul_3 _).mono ?_; rintro e w' ⟨rfl, rfl⟩) | (at_builtin; refine wpList_copy_runI _ rfl _ _ 50 50 rfl _ _ rfl rfl (hc2 _) ?_))
 refine wp_loop_rounds 3 ?_
 rw [rounds_succ]
 go_wp2
 go_region_law_o (refine step_copy_runI rfl _ _ 50 50 rfl _ _ (by simp [Act.eval, Act.put]) (by simp [Act.eval, Act.put]) (hc3 _) ?_)
 go_wp2
 rw [rounds_succ]
 go_wp2
 go_region_law_o (refine step_copy_runI rfl _ _ 50 50 rfl _ _ (by simp [Act.eval, Act.put]) (by simp [Act.eval, Act.put]) (hc4 _) ?_)
 go_wp2
 rw [rounds_succ]
 go_wp2
 go_ret
 refine ⟨rfl, (Below.trans (Below.drew (Below.trans (Below.drew (hb1.trans hb2)) hb3)) hb4), ?_, ?_⟩
 ·simpa using h4
 ·have d : ∀ x : World, x.drew.heap.size = x.heap.size := fun _ => rfl
  simp only [d] at hsz3 hsz4
  omega
set_option maxHeartbeats 8000000 in
set_option maxRecDepth 100000 in
theorem rep44_4 (w : World) (xb xo xc : Nat) (v v1 v2 : Int) (hv : ∀ j u, ([.int .i64 v, .int .i64 v1, .int .i64 v2] : List Value)[j]? = some u → w.cell? ((⟨xb, xo, none⟩ : Addr).add j) = some u) (hxb : xb < w.heap.size) :
  Calls Try.prog 44 #[.slice (some ⟨xb, xo, none⟩) 1 xc, .int .i64 4] w fun e w' => e = .returned (.slice (some ⟨w.heap.size, 0, none⟩) 4 4) ∧ Below w.heap.size w w' ∧ w'.heap[w.heap.size]? = some (.cells ([.int .i64 v, .int .i64 v1, .int .i64 v2, .int .i64 v, .int .i64 v1, .int .i64 v2, .int .i64 v, .int .i64 v1, .int .i64 v2, .int .i64 v, .int .i64 v1, .int .i64 v2] : List Value).toArray 40 (0, 0)) ∧ w'.heap.size = w.heap.size + 1 := by
 obtain ⟨i0, hi0, hz0, hs0, hb0⟩ : ∃ i0, Try.prog.info? 40 = some i0 ∧ i0.zero = some (.agg #[.int .i64 0, .int .i64 0, .int .i64 0]) ∧ i0.size = 3 ∧ i0.bytes = 24 := ⟨_, rfl, rfl, rfl, rfl⟩
 have hi : (Try.prog.info? 40).map (·.size) = some 3 := by rw [hi0]; simp [hs0]
 have hmk := run_make (P := Try.prog) w 50 40 i0 (.agg #[.int .i64 0, .int .i64 0, .int .i64 0]) Try.underlying50 hi0 hz0 .i64 .i64 4 4 (by omega) (by omega) (by rw [hb0]; omega) (by omega)
 rw [hs0] at hmk
 obtain ⟨W1, hW1⟩ : ∃ W1, W1 = w.alloc (.cells (madeCells ((.agg #[.int .i64 0, .int .i64 0, .int .i64 0]) : Value).cells ((4 : Int).toNat * 3)) 40) := ⟨_, rfl⟩
 rw [← hW1] at hmk
 have h1 : W1.heap[w.heap.size]? = some (.cells ([.int .i64 0, .int .i64 0, .int .i64 0, .int .i64 0, .int .i64 0, .int .i64 0, .int .i64 0, .int .i64 0, .int .i64 0, .int .i64 0, .int .i64 0, .int .i64 0] : List Value).toArray 40 (0, 0)) := by
  have e : madeCells ((.agg #[.int .i64 0, .int .i64 0, .int .i64 0]) : Value).cells ((4 : Int).toNat * 3) = ([.int .i64 0, .int .i64 0, .int .i64 0, .int .i64 0, .int .i64 0, .int .i64 0, .int .i64 0, .int .i64 0, .int .i64 0, .int .i64 0, .int .i64 0, .int .i64 0] : List Value).toArray := by kernel_rfl
  rw [hW1, e]; show (w.heap.push _)[w.heap.size]? = _; simp
 have hsz1 : W1.heap.size = w.heap.size + 1 := by rw [hW1]; show (w.heap.push _).size = _; simp
 have hb1 : Below w.heap.size w W1 := by rw [hW1]; exact (Below.refl _ w).alloc (Nat.le_refl _) _
 have hv1 : ∀ j u, ([.int .i64 v, .int .i64 v1, .int .i64 v2] : List Value)[j]? = some u → W1.cell? ((⟨xb, xo, none⟩ : Addr).add j) = some u := by
  intro j u hj
  have := hv j u hj
  have e : (⟨xb, xo, none⟩ : Addr).add j = ⟨xb, xo + j, none⟩ := by unfold Addr.add; split <;> simp_all
  rw [e] at this ⊢
  rw [hW1, World.cell?_alloc_past (w := w) _ xb (xo + j) hxb]; exact this
 clear hW1 hv
 obtain ⟨W2, hc2, h2, hsz2, hb2⟩ := copy_ex (P := Try.prog) W1 50 50 40 w.heap.size 0 4 4 ⟨xb, xo, none⟩ 1 xc 3 1 _ 40 ([.int .i64 v, .int .i64 v1, .int .i64 v2] : List Value) Try.underlying50 hi rfl h1 rfl hv1 (by simp) (by simp [Value.oneCell'])
 have h2' : W2.drew.heap[w.heap.size]? = some (.cells ([.int .i64 v, .int .i64 v1, .int .i64 v2, .int .i64 0, .int .i64 0, .int .i64 0, .int .i64 0, .int .i64 0, .int .i64 0, .int .i64 0, .int .i64 0, .int .i64 0] : List Value).toArray 40 (0, 0)) := by show W2.heap[w.heap.size]? = _; simpa using h2
 obtain ⟨W3, hc3, h3, hsz3, hb3⟩ := copy_ex (P := Try.prog) W2.drew 50 50 40 w.heap.size 3 3 3 ⟨w.heap.size, 0, none⟩ 1 4 3 1 _ 40 ([.int .i64 v, .int .i64 v1, .int .i64 v2] : List Value) Try.underlying50 hi rfl h2' rfl (row_cell h2' ⟨_, rfl⟩) (by simp) (by simp [Value.oneCell'])
 have h3' : W3.drew.heap[w.heap.size]? = some (.cells ([.int .i64 v, .int .i64 v1, .int .i64 v2, .int .i64 v, .int .i64 v1, .int .i64 v2, .int .i64 0, .int .i64 0, .int .i64 0, .int .i64 0, .int .i64 0, .int .i64 0] : List Value).toArray 40 (0, 0)) := by show W3.heap[w.heap.size]? = _; simpa using h3
 obtain ⟨W4, hc4, h4, hsz4, hb4⟩ := copy_ex (P := Try.prog) W3.drew 50 50 40 w.heap.size 6 2 2 ⟨w.heap.size, 0, none⟩ 2 4 3 2 _ 40 ([.int .i64 v, .int .i64 v1, .int .i64 v2, .int .i64 v, .int .i64 v1, .int .i64 v2] : List Value) Try.underlying50 hi rfl h3' rfl (row_cell h3' ⟨_, rfl⟩) (by simp) (by simp [Value.oneCell'])
 have mixed : Try.prog.follows .mixedOrders = true := (okA fns_nil : Go.Lf.CtxOK Try.prog (mkC 0 [])).mixed
 go_enter Try.func44, Try.ntmps44
 go_wp2_with (first | (go_at_call 79; refine (mul_4 _).mono ?_; rintro e w' ⟨rfl, rfl⟩) | (at_builtin; refine wpList_copy_runI _ rfl _ _ 50 50 rfl _ _ rfl rfl (hc2 _) ?_))
 refine wp_loop_rounds 3 ?_
 rw [rounds_succ]
 go_wp2
 go_region_law_o (refine step_copy_runI rfl _ _ 50 50 rfl _ _ (by simp [Act.eval, Act.put]) (by simp [Act.eval, Act.put]) (hc3 _) ?_)
 go_wp2
 rw [rounds_succ]
 go_wp2
 go_region_law_o (refine step_copy_runI rfl _ _ 50 50 rfl _ _ (by simp [Act.eval, Act.put]) (by simp [Act.eval, Act.put]) (hc4 _) ?_)
 go_wp2
 rw [rounds_succ]
 go_wp2
 go_ret
 refine ⟨rfl, (Below.trans (Below.drew (Below.trans (Below.drew (hb1.trans hb2)) hb3)) hb4), ?_, ?_⟩
 ·simpa using h4
 ·have d : ∀ x : World, x.drew.heap.size = x.heap.size := fun _ => rfl
  simp only [d] at hsz3 hsz4
  omega
set_option maxHeartbeats 8000000 in
set_option maxRecDepth 100000 in
theorem rep44_5 (w : World) (xb xo xc : Nat) (v v1 v2 : Int) (hv : ∀ j u, ([.int .i64 v, .int .i64 v1, .int .i64 v2] : List Value)[j]? = some u → w.cell? ((⟨xb, xo, none⟩ : Addr).add j) = some u) (hxb : xb < w.heap.size) :
  Calls Try.prog 44 #[.slice (some ⟨xb, xo, none⟩) 1 xc, .int .i64 5] w fun e w' => e = .returned (.slice (some ⟨w.heap.size, 0, none⟩) 5 5) ∧ Below w.heap.size w w' ∧ w'.heap[w.heap.size]? = some (.cells ([.int .i64 v, .int .i64 v1, .int .i64 v2, .int .i64 v, .int .i64 v1, .int .i64 v2, .int .i64 v, .int .i64 v1, .int .i64 v2, .int .i64 v, .int .i64 v1, .int .i64 v2, .int .i64 v, .int .i64 v1, .int .i64 v2] : List Value).toArray 40 (0, 0)) ∧ w'.heap.size = w.heap.size + 1 := by
 obtain ⟨i0, hi0, hz0, hs0, hb0⟩ : ∃ i0, Try.prog.info? 40 = some i0 ∧ i0.zero = some (.agg #[.int .i64 0, .int .i64 0, .int .i64 0]) ∧ i0.size = 3 ∧ i0.bytes = 24 := ⟨_, rfl, rfl, rfl, rfl⟩
 have hi : (Try.prog.info? 40).map (·.size) = some 3 := by rw [hi0]; simp [hs0]
 have hmk := run_make (P := Try.prog) w 50 40 i0 (.agg #[.int .i64 0, .int .i64 0, .int .i64 0]) Try.underlying50 hi0 hz0 .i64 .i64 5 5 (by omega) (by omega) (by rw [hb0]; omega) (by omega)
 rw [hs0] at hmk
 obtain ⟨W1, hW1⟩ : ∃ W1, W1 = w.alloc (.cells (madeCells ((.agg #[.int .i64 0, .int .i64 0, .int .i64 0]) : Value).cells ((5 : Int).toNat * 3)) 40) := ⟨_, rfl⟩
 rw [← hW1] at hmk
 have h1 : W1.heap[w.heap.size]? = some (.cells ([.int .i64 0, .int .i64 0, .int .i64 0, .int .i64 0, .int .i64 0, .int .i64 0, .int .i64 0, .int .i64 0, .int .i64 0, .int .i64 0, .int .i64 0, .int .i64 0, .int .i64 0, .int .i64 0, .int .i64 0] : List Value).toArray 40 (0, 0)) := by
  have e : madeCells ((.agg #[.int .i64 0, .int .i64 0, .int .i64 0]) : Value).cells ((5 : Int).toNat * 3) = ([.int .i64 0, .int .i64 0, .int .i64 0, .int .i64 0, .int .i64 0, .int .i64 0, .int .i64 0, .int .i64 0, .int .i64 0, .int .i64 0, .int .i64 0, .int .i64 0, .int .i64 0, .int .i64 0, .int .i64 0] : List Value).toArray := by kernel_rfl
  rw [hW1, e]; show (w.heap.push _)[w.heap.size]? = _; simp
 have hsz1 : W1.heap.size = w.heap.size + 1 := by rw [hW1]; show (w.heap.push _).size = _; simp
 have hb1 : Below w.heap.size w W1 := by rw [hW1]; exact (Below.refl _ w).alloc (Nat.le_refl _) _
 have hv1 : ∀ j u, ([.int .i64 v, .int .i64 v1, .int .i64 v2] : List Value)[j]? = some u → W1.cell? ((⟨xb, xo, none⟩ : Addr).add j) = some u := by
  intro j u hj
  have := hv j u hj
  have e : (⟨xb, xo, none⟩ : Addr).add j = ⟨xb, xo + j, none⟩ := by unfold Addr.add; split <;> simp_all
  rw [e] at this ⊢
  rw [hW1, World.cell?_alloc_past (w := w) _ xb (xo + j) hxb]; exact this
 clear hW1 hv
 obtain ⟨W2, hc2, h2, hsz2, hb2⟩ := copy_ex (P := Try.prog) W1 50 50 40 w.heap.size 0 5 5 ⟨xb, xo, none⟩ 1 xc 3 1 _ 40 ([.int .i64 v, .int .i64 v1, .int .i64 v2] : List Value) Try.underlying50 hi rfl h1 rfl hv1 (by simp) (by simp [Value.oneCell'])
 have h2' : W2.drew.heap[w.heap.size]? = some (.cells ([.int .i64 v, .int .i64 v1, .int .i64 v2, .int .i64 0, .int .i64 0, .int .i64 0, .int .i64 0, .int .i64 0, .int .i64 0, .int .i64 0, .int .i64 0, .int .i64 0, .int .i64 0, .int .i64 0, .int .i64 0] : List Value).toArray 40 (0, 0)) := by show W2.heap[w.heap.size]? = _; simpa using h2
 obtain ⟨W3, hc3, h3, hsz3, hb3⟩ := copy_ex (P := Try.prog) W2.drew 50 50 40 w.heap.size 3 4 4 ⟨w.heap.size, 0, none⟩ 1 5 3 1 _ 40 ([.int .i64 v, .int .i64 v1, .int .i64 v2] : List Value) Try.underlying50 hi rfl h2' rfl (row_cell h2' ⟨_, rfl⟩) (by simp) (by simp [Value.oneCell'])
 have h3' : W3.drew.heap[w.heap.size]? = some (.cells ([.int .i64 v, .int .i64 v1, .int .i64 v2, .int .i64 v, .int .i64 v1, .int .i64 v2, .int .i64 0, .int .i64 0, .int .i64 0, .int .i64 0, .int .i64 0, .int .i64 0, .int .i64 0, .int .i64 0, .int .i64 0] : List Value).toArray 40 (0, 0)) := by show W3.heap[w.heap.size]? = _; simpa using h3
 obtain ⟨W4, hc4, h4, hsz4, hb4⟩ := copy_ex (P := Try.prog) W3.drew 50 50 40 w.heap.size 6 3 3 ⟨w.heap.size, 0, none⟩ 2 5 3 2 _ 40 ([.int .i64 v, .int .i64 v1, .int .i64 v2, .int .i64 v, .int .i64 v1, .int .i64 v2] : List Value) Try.underlying50 hi rfl h3' rfl (row_cell h3' ⟨_, rfl⟩) (by simp) (by simp [Value.oneCell'])
 have h4' : W4.drew.heap[w.heap.size]? = some (.cells ([.int .i64 v, .int .i64 v1, .int .i64 v2, .int .i64 v, .int .i64 v1, .int .i64 v2, .int .i64 v, .int .i64 v1, .int .i64 v2, .int .i64 v, .int .i64 v1, .int .i64 v2, .int .i64 0, .int .i64 0, .int .i64 0] : List Value).toArray 40 (0, 0)) := by show W4.heap[w.heap.size]? = _; simpa using h4
 obtain ⟨W5, hc5, h5, hsz5, hb5⟩ := copy_ex (P := Try.prog) W4.drew 50 50 40 w.heap.size 12 1 1 ⟨w.heap.size, 0, none⟩ 4 5 3 1 _ 40 ([.int .i64 v, .int .i64 v1, .int .i64 v2] : List Value) Try.underlying50 hi rfl h4' rfl (row_cell h4' ⟨_, rfl⟩) (by simp) (by simp [Value.oneCell'])
 have mixed : Try.prog.follows .mixedOrders = true := (okA fns_nil : Go.Lf.CtxOK Try.prog (mkC 0 [])).mixed
 go_enter Try.func44, Try.ntmps44
 go_wp2_with (first | (go_at_call 79; refine (mul_5 _).mono ?_; rintro e w' ⟨rfl, rfl⟩) | (at_builtin; refine wpList_copy_runI _ rfl _ _ 50 50 rfl _ _ rfl rfl (hc2 _) ?_))
 refine wp_loop_rounds 4 ?_
 rw [rounds_succ]
 go_wp2
 go_region_law_o (refine step_copy_runI rfl _ _ 50 50 rfl _ _ (by simp [Act.eval, Act.put]) (by simp [Act.eval, Act.put]) (hc3 _) ?_)
 go_wp2
 rw [rounds_succ]
 go_wp2
 go_region_law_o (refine step_copy_runI rfl _ _ 50 50 rfl _ _ (by simp [Act.eval, Act.put]) (by simp [Act.eval, Act.put]) (hc4 _) ?_)
 go_wp2
 rw [rounds_succ]
 go_wp2
 go_region_law_o (refine step_copy_runI rfl _ _ 50 50 rfl _ _ (by simp [Act.eval, Act.put]) (by simp [Act.eval, Act.put]) (hc5 _) ?_)
 go_wp2
 rw [rounds_succ]
 go_wp2
 go_ret
 refine ⟨rfl, (Below.trans (Below.drew (Below.trans (Below.drew (Below.trans (Below.drew (hb1.trans hb2)) hb3)) hb4)) hb5), ?_, ?_⟩
 ·simpa using h5
 ·have d : ∀ x : World, x.drew.heap.size = x.heap.size := fun _ => rfl
  simp only [d] at hsz3 hsz4 hsz5
  omega
set_option maxHeartbeats 8000000 in
set_option maxRecDepth 100000 in
theorem rep44_6 (w : World) (xb xo xc : Nat) (v v1 v2 : Int) (hv : ∀ j u, ([.int .i64 v, .int .i64 v1, .int .i64 v2] : List Value)[j]? = some u → w.cell? ((⟨xb, xo, none⟩ : Addr).add j) = some u) (hxb : xb < w.heap.size) :
  Calls Try.prog 44 #[.slice (some ⟨xb, xo, none⟩) 1 xc, .int .i64 6] w fun e w' => e = .returned (.slice (some ⟨w.heap.size, 0, none⟩) 6 6) ∧ Below w.heap.size w w' ∧ w'.heap[w.heap.size]? = some (.cells ([.int .i64 v, .int .i64 v1, .int .i64 v2, .int .i64 v, .int .i64 v1, .int .i64 v2, .int .i64 v, .int .i64 v1, .int .i64 v2, .int .i64 v, .int .i64 v1, .int .i64 v2, .int .i64 v, .int .i64 v1, .int .i64 v2, .int .i64 v, .int .i64 v1, .int .i64 v2] : List Value).toArray 40 (0, 0)) ∧ w'.heap.size = w.heap.size + 1 := by
 obtain ⟨i0, hi0, hz0, hs0, hb0⟩ : ∃ i0, Try.prog.info? 40 = some i0 ∧ i0.zero = some (.agg #[.int .i64 0, .int .i64 0, .int .i64 0]) ∧ i0.size = 3 ∧ i0.bytes = 24 := ⟨_, rfl, rfl, rfl, rfl⟩
 have hi : (Try.prog.info? 40).map (·.size) = some 3 := by rw [hi0]; simp [hs0]
 have hmk := run_make (P := Try.prog) w 50 40 i0 (.agg #[.int .i64 0, .int .i64 0, .int .i64 0]) Try.underlying50 hi0 hz0 .i64 .i64 6 6 (by omega) (by omega) (by rw [hb0]; omega) (by omega)
 rw [hs0] at hmk
 obtain ⟨W1, hW1⟩ : ∃ W1, W1 = w.alloc (.cells (madeCells ((.agg #[.int .i64 0, .int .i64 0, .int .i64 0]) : Value).cells ((6 : Int).toNat * 3)) 40) := ⟨_, rfl⟩
 rw [← hW1] at hmk
 have h1 : W1.heap[w.heap.size]? = some (.cells ([.int .i64 0, .int .i64 0, .int .i64 0, .int .i64 0, .int .i64 0, .int .i64 0, .int .i64 0, .int .i64 0, .int .i64 0, .int .i64 0, .int .i64 0, .int .i64 0, .int .i64 0, .int .i64 0, .int .i64 0, .int .i64 0, .int .i64 0, .int .i64 0] : List Value).toArray 40 (0, 0)) := by
  have e : madeCells ((.agg #[.int .i64 0, .int .i64 0, .int .i64 0]) : Value).cells ((6 : Int).toNat * 3) = ([.int .i64 0, .int .i64 0, .int .i64 0, .int .i64 0, .int .i64 0, .int .i64 0, .int .i64 0, .int .i64 0, .int .i64 0, .int .i64 0, .int .i64 0, .int .i64 0, .int .i64 0, .int .i64 0, .int .i64 0, .int .i64 0, .int .i64 0, .int .i64 0] : List Value).toArray := by kernel_rfl
  rw [hW1, e]; show (w.heap.push _)[w.heap.size]? = _; simp
 have hsz1 : W1.heap.size = w.heap.size + 1 := by rw [hW1]; show (w.heap.push _).size = _; simp
 have hb1 : Below w.heap.size w W1 := by rw [hW1]; exact (Below.refl _ w).alloc (Nat.le_refl _) _
 have hv1 : ∀ j u, ([.int .i64 v, .int .i64 v1, .int .i64 v2] : List Value)[j]? = some u → W1.cell? ((⟨xb, xo, none⟩ : Addr).add j) = some u := by
  intro j u hj
  have := hv j u hj
  have e : (⟨xb, xo, none⟩ : Addr).add j = ⟨xb, xo + j, none⟩ := by unfold Addr.add; split <;> simp_all
  rw [e] at this ⊢
  rw [hW1, World.cell?_alloc_past (w := w) _ xb (xo + j) hxb]; exact this
 clear hW1 hv
 obtain ⟨W2, hc2, h2, hsz2, hb2⟩ := copy_ex (P := Try.prog) W1 50 50 40 w.heap.size 0 6 6 ⟨xb, xo, none⟩ 1 xc 3 1 _ 40 ([.int .i64 v, .int .i64 v1, .int .i64 v2] : List Value) Try.underlying50 hi rfl h1 rfl hv1 (by simp) (by simp [Value.oneCell'])
 have h2' : W2.drew.heap[w.heap.size]? = some (.cells ([.int .i64 v, .int .i64 v1, .int .i64 v2, .int .i64 0, .int .i64 0, .int .i64 0, .int .i64 0, .int .i64 0, .int .i64 0, .int .i64 0, .int .i64 0, .int .i64 0, .int .i64 0, .int .i64 0, .int .i64 0, .int .i64 0, .int .i64 0, .int .i64 0] : List Value).toArray 40 (0, 0)) := by show W2.heap[w.heap.size]? = _; simpa using h2
 obtain ⟨W3, hc3, h3, hsz3, hb3⟩ := copy_ex (P := Try.prog) W2.drew 50 50 40 w.heap.size 3 5 5 ⟨w.heap.size, 0, none⟩ 1 6 3 1 _ 40 ([.int .i64 v, .int .i64 v1, .int .i64 v2] : List Value) Try.underlying50 hi rfl h2' rfl (row_cell h2' ⟨_, rfl⟩) (by simp) (by simp [Value.oneCell'])
 have h3' : W3.drew.heap[w.heap.size]? = some (.cells ([.int .i64 v, .int .i64 v1, .int .i64 v2, .int .i64 v, .int .i64 v1, .int .i64 v2, .int .i64 0, .int .i64 0, .int .i64 0, .int .i64 0, .int .i64 0, .int .i64 0, .int .i64 0, .int .i64 0, .int .i64 0, .int .i64 0, .int .i64 0, .int .i64 0] : List Value).toArray 40 (0, 0)) := by show W3.heap[w.heap.size]? = _; simpa using h3
 obtain ⟨W4, hc4, h4, hsz4, hb4⟩ := copy_ex (P := Try.prog) W3.drew 50 50 40 w.heap.size 6 4 4 ⟨w.heap.size, 0, none⟩ 2 6 3 2 _ 40 ([.int .i64 v, .int .i64 v1, .int .i64 v2, .int .i64 v, .int .i64 v1, .int .i64 v2] : List Value) Try.underlying50 hi rfl h3' rfl (row_cell h3' ⟨_, rfl⟩) (by simp) (by simp [Value.oneCell'])
 have h4' : W4.drew.heap[w.heap.size]? = some (.cells ([.int .i64 v, .int .i64 v1, .int .i64 v2, .int .i64 v, .int .i64 v1, .int .i64 v2, .int .i64 v, .int .i64 v1, .int .i64 v2, .int .i64 v, .int .i64 v1, .int .i64 v2, .int .i64 0, .int .i64 0, .int .i64 0, .int .i64 0, .int .i64 0, .int .i64 0] : List Value).toArray 40 (0, 0)) := by show W4.heap[w.heap.size]? = _; simpa using h4
 obtain ⟨W5, hc5, h5, hsz5, hb5⟩ := copy_ex (P := Try.prog) W4.drew 50 50 40 w.heap.size 12 2 2 ⟨w.heap.size, 0, none⟩ 4 6 3 2 _ 40 ([.int .i64 v, .int .i64 v1, .int .i64 v2, .int .i64 v, .int .i64 v1, .int .i64 v2] : List Value) Try.underlying50 hi rfl h4' rfl (row_cell h4' ⟨_, rfl⟩) (by simp) (by simp [Value.oneCell'])
 have mixed : Try.prog.follows .mixedOrders = true := (okA fns_nil : Go.Lf.CtxOK Try.prog (mkC 0 [])).mixed
 go_enter Try.func44, Try.ntmps44
 go_wp2_with (first | (go_at_call 79; refine (mul_6 _).mono ?_; rintro e w' ⟨rfl, rfl⟩) | (at_builtin; refine wpList_copy_runI _ rfl _ _ 50 50 rfl _ _ rfl rfl (hc2 _) ?_))
 refine wp_loop_rounds 4 ?_
 rw [rounds_succ]
 go_wp2
 go_region_law_o (refine step_copy_runI rfl _ _ 50 50 rfl _ _ (by simp [Act.eval, Act.put]) (by simp [Act.eval, Act.put]) (hc3 _) ?_)
 go_wp2
 rw [rounds_succ]
 go_wp2
 go_region_law_o (refine step_copy_runI rfl _ _ 50 50 rfl _ _ (by simp [Act.eval, Act.put]) (by simp [Act.eval, Act.put]) (hc4 _) ?_)
 go_wp2
 rw [rounds_succ]
 go_wp2
 go_region_law_o (refine step_copy_runI rfl _ _ 50 50 rfl _ _ (by simp [Act.eval, Act.put]) (by simp [Act.eval, Act.put]) (hc5 _) ?_)
 go_wp2
 rw [rounds_succ]
 go_wp2
 go_ret
 refine ⟨rfl, (Below.trans (Below.drew (Below.trans (Below.drew (Below.trans (Below.drew (hb1.trans hb2)) hb3)) hb4)) hb5), ?_, ?_⟩
 ·simpa using h5
 ·have d : ∀ x : World, x.drew.heap.size = x.heap.size := fun _ => rfl
  simp only [d] at hsz3 hsz4 hsz5
  omega
end Go.User
namespace Sp
def valid (t : Lit) : Bool := decide (1 ≤ t.1.length) && decide (t.1.length ≤ 4) && decide (1 ≤ total t.1) && decide (total t.1 ≤ 6) && !((cat t.1).any fun o => !usual o)
def m0 : Msg := (-1, 0, false, ())
def v0 : List Int := [-1, -1, -1]
def memI (x : Nat) : List (List Msg) := (List.range 3).map fun (j : Nat) => if j < x then [m0] else []
def zeros (n : Nat) : List Int := List.replicate n 0
def views (n : Nat) : List (List Int) := List.replicate n v0
def froms (n : Nat) : List Int := List.replicate n (-1)
def stI (t : Lit) (x : Nat) : VSt := (t, zeros t.1.length, memI x, views t.1.length, v0, zeros (total t.1), froms (total t.1), [], ())
def start (t : Lit) : VSt := stI t 3
def stZ : VSt := (([], ()), [], [[], [], []], [], [0, 0, 0], [], [], [], ())
def stA (t : Lit) : VSt := if valid t = true then start t else stZ
def errA (t : Lit) : Int := if valid t = true then 0 else 300
end Sp
namespace Go.User
open Go.Lf
def S45 : FSpec := { args := [.val (.slice tI), .val tI], multi := false, res := .slice tI, mode := .own .shr, pre := fun x => List.length x.1 = 1 ∧ 0 ≤ x.2.1 ∧ x.2.1 ≤ 6, fn := fun x => List.replicate (Int.toNat x.2.1) (List.getD x.1 0 0) }
def S44 : FSpec := { args := [.val (.slice tV3), .val tI], multi := false, res := .slice tV3, mode := .own .shr, pre := fun x => List.length x.1 = 1 ∧ 0 ≤ x.2.1 ∧ x.2.1 ≤ 6, fn := fun x => List.replicate (Int.toNat x.2.1) (List.getD x.1 0 []) }
def S42 : FSpec := { args := [.val tLit], multi := false, res := .bool, mode := .shr, pre := fun x => Sp.total x.1.1 ≤ 1000, fn := fun x => Sp.valid x.1 }
def C42 : Ctx := { mkS 36 [(43, S43), (76, S76), (77, S77)] with fzs := [4] }
def L42 (x : kdens S42.args) : List LoopI := []
def S19 : FSpec := { args := [.val tLit], multi := true, res := .prod tVSt (.prod tI .unit), mode := .shr, pre := fun x => Sp.total x.1.1 ≤ 1000, fn := fun x => (Sp.stA x.1, Sp.errA x.1, ()) }
def C19 : Ctx := { mkS 45 [(42, S42), (43, S43), (44, S44), (45, S45)] with frz := [21, 23, 27, 30, 31, 33, 40], mds := [(2, mV0), (6, mV0), (34, mV0)] }
def L19 (x : kdens S19.args) : List LoopI := [
 {ι := Nat, inv := fun n => n ≤ 3, dec := fun n => 3 - n, ovr := fun n => [(35, .shr tI (n : Int)), (6, .box tVSt .shr (x.1, Sp.zeros (List.length x.1.1), Sp.memI n, Sp.views (List.length x.1.1), Sp.v0, Sp.zeros (Sp.total x.1.1), Sp.froms (Sp.total x.1.1), [], ()))], keep := [2, 3] }]
end Go.User
namespace Go.User
open Go Go.Proofs Go.RowKit Go.Lf
theorem rep_drop (V : List Value) : ∀ (i c : Nat), ((List.replicate c V).flatten).drop (i * V.length) = (List.replicate (c - i) V).flatten
 | 0, c => by simp
 | i + 1, 0 => by simp
 | i + 1, c + 1 => by
  have := rep_drop V i c
  rw [show (i + 1) * V.length = V.length + i * V.length from by rw [Nat.succ_mul, Nat.add_comm], ← List.drop_drop, List.replicate_succ, List.flatten_cons, List.drop_left, this, show c + 1 - (i + 1) = c - i from by omega]
theorem rep_seg {V : List Value} {i c : Nat} (h : i < c) : seg ((List.replicate c V).flatten) (i * V.length) V.length = V := by
 unfold seg
 rw [rep_drop]
 obtain ⟨m, hm⟩ : ∃ m, c - i = m + 1 := ⟨c - i - 1, by omega⟩
 rw [hm, List.replicate_succ, List.flatten_cons, List.take_left]
theorem rep_post {F : NSet} {w' : World} {e : Ty} {V : List Value} (hV : V.length = e.size) {x0 : e.den} (hown : Own F w' e .shr none' V x0) {c N : Nat} {T : TypeId} (hh : w'.heap[N]? = some (.cells ((List.replicate c V).flatten).toArray T (0, 0))) (hc : c ≤ 6) :
  OwnV F w' (.slice e) (.own .shr) (fun b => b = N) (.slice (some ⟨N, 0, none⟩) c c) (List.replicate c x0) := by
 refine ⟨[.slice (some ⟨N, 0, none⟩) c c], rfl, some ⟨N, 0, none⟩, c, by rw [List.length_replicate], by rw [List.length_replicate]; exact Nat.le_refl _, by rw [List.length_replicate]; unfold lim; omega,
  .inr ⟨N, 0, _, T, fun _ => none', rfl, rfl, hh, ?_, fun _ _ h => h.elim, fun _ h => h.elim, fun _ _ _ _ h => h.elim, fun i x h => ?_⟩⟩
 ·simp only [List.size_toArray, List.length_flatten, List.map_replicate, List.sum_replicate_nat, hV]; omega
 ·rw [List.getElem?_replicate] at h
  split at h
  ·rename_i hi
   injection h with h
   subst h
   have := rep_seg (V := V) hi
   rw [hV] at this
   simp only [Nat.zero_add]
   rw [this]; exact hown
  ·cases h
/-- The one element of a slice: its cells. -/
theorem one_cells {F : NSet} {w : World} {e : Ty} {v : Value} {xs : List e.den} (h : OwnV F w (.slice e) .shr none' v xs) (hl : xs.length = 1) :
  ∃ b off cap cs, v = .slice (some ⟨b, off, none⟩) 1 cap ∧ F b ∧ Own F w e .shr none' cs (xs.getD 0 e.dflt) ∧ cs.length = e.size ∧ ∀ j u, cs[j]? = some u → w.cell? ((⟨b, off, none⟩ : Addr).add j) = some u := by
 obtain ⟨cs, rfl, ao, cap, rfl, h1, h2, h3⟩ := h
 rcases h3 with h3 | ⟨b, off, row, T, fr, rfl, hb, hr, hsz, hel⟩
 ·rw [h3] at hl; cases hl
 ·rw [hl] at hsz
  have h0 : xs[0]? = some (xs.getD 0 e.dflt) := by
   rw [List.getD_eq_getElem?_getD, List.getElem?_eq_getElem (show 0 < xs.length by omega)]; rfl
  have ho := hel 0 _ h0
  rw [Nat.zero_mul, Nat.add_zero] at ho
  refine ⟨b, off, cap, _, by rw [hl]; rfl, hb, ho, ho.len, fun j u hj => ?_⟩
  have e1 : (⟨b, off, none⟩ : Addr).add j = ⟨b, off + j, none⟩ := by unfold Addr.add; split <;> simp_all
  rw [e1]
  simp only [World.cell?, hr]
  unfold seg at hj
  rw [List.getElem?_take] at hj
  split at hj
  ·rw [List.getElem?_drop] at hj
   simpa using hj
  ·cases hj
theorem rep_end {F : NSet} {w w' : World} {e : Ty} {V : List Value} (hF : ∀ b, F b → b < w.heap.size) (hV : V.length = e.size) {x0 : e.den} (hfl : e.flat = true) (hown : Own F w e .shr none' V x0) {c : Nat} {T : TypeId}
  {en : Ending} (h1 : en = .returned (.slice (some ⟨w.heap.size, 0, none⟩) c c)) (h2 : Below w.heap.size w w') (hh : w'.heap[w.heap.size]? = some (.cells ((List.replicate c V).flatten).toArray T (0, 0))) (hs : w'.heap.size = w.heap.size + 1) (hc : c ≤ 6) :
  Post F w false (.slice e) (.own .shr) (List.replicate c x0) en w' := by
 refine ⟨_, F, fun b => b = w.heap.size, h1, h2, fun _ h => h, fun b h h' => absurd h h', ?_, ?_, rep_post hV (Own.flat hfl hown) hh hc⟩
 ·rintro b (h | rfl)
  ·have := hF b h; omega
  ·omega
 ·rintro b rfl
  exact ⟨Nat.le_refl _, fun h => by have := hF _ h; omega⟩
theorem ok45 : FOk Try.prog 45 S45 := by
 refine ⟨Try.call45, fun w F vs xs hF hargs hpre => ?_⟩
 obtain ⟨l, n, u⟩ := xs
 obtain ⟨hl, h0, h6⟩ : List.length l = 1 ∧ 0 ≤ n ∧ n ≤ 6 := hpre
 obtain ⟨v1, r1, rfl, a1, v2, r2, rfl, a2, rfl⟩ := hargs
 have a1 : OwnV F w (.slice tI) .shr none' v1 l := a1
 have a2 : OwnV F w tI .shr none' v2 n := a2
 obtain ⟨b, off, cap, cs, rfl, hb, ho, hcl, hc⟩ := one_cells a1 hl
 obtain ⟨rfl, -, -⟩ := a2.int_eq
 have hcs : cs = [.int .i64 (l.getD 0 0)] := ho.1
 have ho' : Own F w tI .shr none' [.int .i64 (l.getD 0 0)] (l.getD 0 0) := by rw [← hcs]; exact ho
 rw [hcs] at hc
 obtain ⟨m, rfl⟩ := Int.eq_ofNat_of_zero_le h0
 have h6 : (m : Int) ≤ 6 := h6
 have hm : m = 0 ∨ m = 1 ∨ m = 2 ∨ m = 3 ∨ m = 4 ∨ m = 5 ∨ m = 6 := by omega
 rcases hm with rfl | rfl | rfl | rfl | rfl | rfl | rfl
 ·exact (rep45_0 w b off cap _ hc (hF b hb)).mono fun e w' ⟨h1, h2, h3, h4⟩ => rep_end hF rfl rfl ho' h1 h2 h3 h4 (Nat.le_of_ble_eq_true rfl)
 ·exact (rep45_1 w b off cap _ hc (hF b hb)).mono fun e w' ⟨h1, h2, h3, h4⟩ => rep_end hF rfl rfl ho' h1 h2 h3 h4 (Nat.le_of_ble_eq_true rfl)
 ·exact (rep45_2 w b off cap _ hc (hF b hb)).mono fun e w' ⟨h1, h2, h3, h4⟩ => rep_end hF rfl rfl ho' h1 h2 h3 h4 (Nat.le_of_ble_eq_true rfl)
 ·exact (rep45_3 w b off cap _ hc (hF b hb)).mono fun e w' ⟨h1, h2, h3, h4⟩ => rep_end hF rfl rfl ho' h1 h2 h3 h4 (Nat.le_of_ble_eq_true rfl)
 ·exact (rep45_4 w b off cap _ hc (hF b hb)).mono fun e w' ⟨h1, h2, h3, h4⟩ => rep_end hF rfl rfl ho' h1 h2 h3 h4 (Nat.le_of_ble_eq_true rfl)
 ·exact (rep45_5 w b off cap _ hc (hF b hb)).mono fun e w' ⟨h1, h2, h3, h4⟩ => rep_end hF rfl rfl ho' h1 h2 h3 h4 (Nat.le_of_ble_eq_true rfl)
 ·exact (rep45_6 w b off cap _ hc (hF b hb)).mono fun e w' ⟨h1, h2, h3, h4⟩ => rep_end hF rfl rfl ho' h1 h2 h3 h4 (Nat.le_of_ble_eq_true rfl)
theorem ok44 : FOk Try.prog 44 S44 := by
 refine ⟨Try.call44, fun w F vs xs hF hargs hpre => ?_⟩
 obtain ⟨l, n, u⟩ := xs
 obtain ⟨hl, h0, h6⟩ : List.length l = 1 ∧ 0 ≤ n ∧ n ≤ 6 := hpre
 obtain ⟨v1, r1, rfl, a1, v2, r2, rfl, a2, rfl⟩ := hargs
 have a1 : OwnV F w (.slice tV3) .shr none' v1 l := a1
 have a2 : OwnV F w tI .shr none' v2 n := a2
 obtain ⟨b, off, cap, cs, rfl, hb, ho, hcl, hc⟩ := one_cells a1 hl
 obtain ⟨rfl, -, -⟩ := a2.int_eq
 have hdf : l.getD 0 tV3.dflt = l.getD 0 [] := by
  rw [List.getD_eq_getElem?_getD, List.getD_eq_getElem?_getD, List.getElem?_eq_getElem (show 0 < l.length by omega)]; rfl
 rw [hdf] at ho
 obtain ⟨hx3, hc3, Si, hS1, hS2, hel⟩ := ho
 obtain ⟨p0, p1, p2, hp⟩ : ∃ p0 p1 p2 : Int, l.getD 0 [] = [p0, p1, p2] := by
  match hx : l.getD 0 [], hx3 with
  | [p0, p1, p2], _ => exact ⟨p0, p1, p2, rfl⟩
 have ho : Own F w tV3 .shr none' cs [p0, p1, p2] := ⟨rfl, hc3, Si, hS1, hS2, fun i x h => hel i x (by rw [hp]; exact h)⟩
 match cs, hc3 with
 | [c0, c1, c2], _ =>
  have q0 := (hel 0 p0 (by rw [hp]; rfl)).1
  have q1 := (hel 1 p1 (by rw [hp]; rfl)).1
  have q2 := (hel 2 p2 (by rw [hp]; rfl)).1
  have q0 : [c0] = [Value.int .i64 p0] := q0
  have q1 : [c1] = [Value.int .i64 p1] := q1
  have q2 : [c2] = [Value.int .i64 p2] := q2
  injection q0 with e0 _
  injection q1 with e1 _
  injection q2 with e2 _
  subst e0 e1 e2
  obtain ⟨m, rfl⟩ := Int.eq_ofNat_of_zero_le h0
  have h6 : (m : Int) ≤ 6 := h6
  show Calls _ _ _ _ (Post F w false (.slice tV3) (.own .shr) (List.replicate m (l.getD 0 [])))
  rw [hp]
  have hm : m = 0 ∨ m = 1 ∨ m = 2 ∨ m = 3 ∨ m = 4 ∨ m = 5 ∨ m = 6 := by omega
  rcases hm with rfl | rfl | rfl | rfl | rfl | rfl | rfl
  ·exact (rep44_0 w b off cap _ _ _ hc (hF b hb)).mono fun e w' ⟨h1, h2, h3, h4⟩ => rep_end (e := tV3) hF rfl rfl ho h1 h2 h3 h4 (Nat.le_of_ble_eq_true rfl)
  ·exact (rep44_1 w b off cap _ _ _ hc (hF b hb)).mono fun e w' ⟨h1, h2, h3, h4⟩ => rep_end (e := tV3) hF rfl rfl ho h1 h2 h3 h4 (Nat.le_of_ble_eq_true rfl)
  ·exact (rep44_2 w b off cap _ _ _ hc (hF b hb)).mono fun e w' ⟨h1, h2, h3, h4⟩ => rep_end (e := tV3) hF rfl rfl ho h1 h2 h3 h4 (Nat.le_of_ble_eq_true rfl)
  ·exact (rep44_3 w b off cap _ _ _ hc (hF b hb)).mono fun e w' ⟨h1, h2, h3, h4⟩ => rep_end (e := tV3) hF rfl rfl ho h1 h2 h3 h4 (Nat.le_of_ble_eq_true rfl)
  ·exact (rep44_4 w b off cap _ _ _ hc (hF b hb)).mono fun e w' ⟨h1, h2, h3, h4⟩ => rep_end (e := tV3) hF rfl rfl ho h1 h2 h3 h4 (Nat.le_of_ble_eq_true rfl)
  ·exact (rep44_5 w b off cap _ _ _ hc (hF b hb)).mono fun e w' ⟨h1, h2, h3, h4⟩ => rep_end (e := tV3) hF rfl rfl ho h1 h2 h3 h4 (Nat.le_of_ble_eq_true rfl)
  ·exact (rep44_6 w b off cap _ _ _ hc (hF b hb)).mono fun e w' ⟨h1, h2, h3, h4⟩ => rep_end (e := tV3) hF rfl rfl ho h1 h2 h3 h4 (Nat.le_of_ble_eq_true rfl)
end Go.User
namespace Go.User
open Go Go.Proofs Go.RowKit Go.Lib
set_option maxHeartbeats 4000000 in
set_option maxRecDepth 100000 in
theorem ins_end (w : World) (ao : Option Addr) (n cap vb voff vc : Nat) (R : Value) (w1 : World) (hap : (Builtin.append_ #[29, 29] 29 #[.slice ao n cap, .slice (some ⟨vb, voff, none⟩) 1 vc]).run Try.prog w = .ok R w1) (hnc : n ≤ cap) (hnil : ao = none → cap = 0) :
  Calls Try.prog 74 #[.slice ao n cap, .int .i64 n, .slice (some ⟨vb, voff, none⟩) 1 vc] w fun e w' => e = .returned R ∧ w' = w1 := by
 have mixed : Try.prog.follows .mixedOrders = true := (okA fns_nil : Go.Lf.CtxOK Try.prog (mkC 0 [])).mixed
 go_enter Try.func74, Try.ntmps74
 cases ao with
 | none =>
  have h0 := hnil rfl
  subst h0
  obtain rfl : n = 0 := by omega
  go_wp2_with (at_builtin; refine Lib.wpList_append_run _ rfl _ _ _ _ rfl _ _ rfl rfl _ _ hap ?_)
  all_goals (go_ret; exact ⟨rfl, rfl⟩)
 | some a =>
  obtain ⟨ab, ao, asp⟩ := a
  go_wp2_with (at_builtin; refine Lib.wpList_append_run _ rfl _ _ _ _ rfl _ _ rfl rfl _ _ hap ?_)
  all_goals (go_ret; exact ⟨rfl, rfl⟩)

theorem add_lit2 (b o j : Nat) : (⟨b, o, none⟩ : Addr).add j = ⟨b, o + j, none⟩ := by unfold Addr.add; split <;> simp_all
theorem row_cell' {W : World} {g o : Nat} {cur cs : List Value} {t : TypeId} (hg : W.heap[g]? = some (.cells cur.toArray t (0, 0))) (h : ∀ j u, cs[j]? = some u → cur[o + j]? = some u) : ∀ j u, cs[j]? = some u → W.cell? ((⟨g, o, none⟩ : Addr).add j) = some u := by
 intro j u hj
 rw [add_lit2]
 simp only [World.cell?, hg, List.getElem?_toArray]
 exact h j u hj
theorem copy_ex2 {P : Program} (W : World) (dT sT elem : TypeId) (g o dLen dCap : Nat) (a : Addr) (sLen sCap es k : Nat) (cur : List Value) (t : TypeId) (cs : List Value)
  (hu : P.underlying dT = some (.slice elem)) (hs : (P.info? elem).map (·.size) = some es) (hk : Nat.min sLen dLen = k)
  (hg : W.heap[g]? = some (.cells cur.toArray t (0, 0))) (hn : cs.length = k * es)
  (hsrc : ∀ j v, cs[j]? = some v → W.cell? (a.add j) = some v) (hfit : o + cs.length ≤ cur.length) (h1 : ∀ v ∈ cs, v.oneCell' = true) :
  ∃ W', (∀ ty, (Builtin.copy_ #[dT, sT] ty #[.slice (some ⟨g, o, none⟩) dLen dCap, .slice (some a) sLen sCap]).run P W = .ok (goInt k) W') ∧ W'.heap[g]? = some (.cells (cur.take o ++ cs ++ cur.drop (o + cs.length)).toArray t (0, 0)) ∧
   W'.heap.size = W.heap.size ∧ (∀ j, j ≠ g → W'.heap[j]? = W.heap[j]?) ∧ W'.os = W.os ∧ W'.tape = W.tape ∧ W'.output = W.output := by
 subst hk
 refine ⟨_, fun ty => run_copy_k W dT sT ty elem g o dLen dCap a sLen sCap es cur.toArray t cs hu hs hg hn hsrc (by simpa using hfit) h1, ?_, ?_, ?_, rfl, rfl, rfl⟩
 ·simpa using setRow_heap W g _ _ t _ hg
 ·simp [World.setRow]
 ·intro j hj; exact setRow_other W g j _ hj
set_option maxHeartbeats 8000000 in
set_option maxRecDepth 100000 in
theorem ins_shift (w : World) (b off n c i vb voff vc : Nat) (row V : List Value) (T : TypeId) (hi : i < n) (hroom : n + 1 ≤ c) (hn : n ≤ 500000000) (hvb : vb ≠ b) (hrow : w.heap[b]? = some (.cells row.toArray T (0, 0))) (hsz : off + c * 2 ≤ row.length)
  (h1 : ∀ v ∈ (row.drop (off + i * 2)).take ((n - i) * 2), v.oneCell' = true) (hV : V.length = 2) (h1V : ∀ v ∈ V, v.oneCell' = true) (vrow : List Value) (TV : TypeId) (hvrow : w.heap[vb]? = some (.cells vrow.toArray TV (0, 0))) (hvs : ∀ j u, V[j]? = some u → vrow[voff + j]? = some u) :
  Calls Try.prog 74 #[.slice (some ⟨b, off, none⟩) n c, .int .i64 i, .slice (some ⟨vb, voff, none⟩) 1 vc] w fun e w' => e = .returned (.slice (some ⟨b, off, none⟩) (n + 1) c) ∧
   w'.os = w.os ∧ w'.tape = w.tape ∧ w'.output = w.output ∧ w'.heap.size = w.heap.size ∧ (∀ k, k ≠ b → w'.heap[k]? = w.heap[k]?) ∧
   w'.heap[b]? = some (.cells (((row.take (off + (i + 1) * 2) ++ (row.drop (off + i * 2)).take ((n - i) * 2) ++ row.drop (off + (i + 1) * 2 + (n - i) * 2)).take (off + i * 2)) ++ V ++ (row.take (off + (i + 1) * 2) ++ (row.drop (off + i * 2)).take ((n - i) * 2) ++ row.drop (off + (i + 1) * 2 + (n - i) * 2)).drop (off + i * 2 + 2)).toArray T (0, 0)) := by
 have mixed : Try.prog.follows .mixedOrders = true := (okA fns_nil : Go.Lf.CtxOK Try.prog (mkC 0 [])).mixed
 have hs46 : (Try.prog.info? 46).map (·.size) = some 2 := by kernel_rfl
 have hz2 : ¬ ((i : Int) = (n : Int)) := by omega
 have hov : ∀ lb cb, (callFunc 92 #[.slice (some ⟨vb, voff, none⟩) 1 vc, .slice (some ⟨b, off + (i + 1) * 2, none⟩) lb cb]).run Try.prog w = .ok (.value (.bool false)) w := fun lb cb => by
  rw [run_callFunc_extern Try.func92 (by kernel_rfl) (by kernel_rfl) (by kernel_rfl) (e := Extern.SlicesOverlaps.overlaps #[29, 29] #[4]) (by kernel_rfl),
   Lib.run_overlaps_apart w 29 4 46 Try.underlying29 2 Try.sizeOf46 ⟨vb, voff, none⟩ ⟨b, off + (i + 1) * 2, none⟩ 1 vc lb cb hvb TV T vrow.length row.length (by simp [World.shape?, hvrow]) (by simp [World.shape?, hrow]) (by omega) (by simp [World.frozen?, hvrow]) (by simp [World.frozen?, hvrow])]
  rfl
 have hb2 : ¬ (c = i + 1) := by omega
 have hb4 : ¬ (c = i) := by omega
 have hcl : ((row.drop (off + i * 2)).take ((n - i) * 2)).length = (n - i) * 2 := by rw [List.length_take, List.length_drop]; omega
 have hdrow : w.drew.heap[b]? = some (.cells row.toArray T (0, 0)) := hrow
 obtain ⟨W1, hc1, hr1, hs1, ho1, q1, q2, q3⟩ := copy_ex2 (P := Try.prog) w.drew 29 29 46 b (off + (i + 1) * 2) (n + 1 - (i + 1)) (c - (i + 1)) ⟨b, off + i * 2, none⟩ (n + 1 - i) (c - i) 2 (n - i) row T ((row.drop (off + i * 2)).take ((n - i) * 2)) Try.underlying29 hs46 (by simp only [Nat.min_def]; split <;> omega) hdrow hcl
  (row_cell' hdrow (by intro j u hj; rw [List.getElem?_take] at hj; split at hj; rwa [List.getElem?_drop] at hj; cases hj)) (by rw [hcl]; omega) h1
 rw [hcl] at hr1
 obtain ⟨row1, hrow1⟩ : ∃ row1, row1 = row.take (off + (i + 1) * 2) ++ (row.drop (off + i * 2)).take ((n - i) * 2) ++ row.drop (off + (i + 1) * 2 + (n - i) * 2) := ⟨_, rfl⟩
 rw [← hrow1] at hr1 ⊢
 have hl1 : row1.length = row.length := by
  rw [hrow1, List.length_append, List.length_append, hcl, List.length_take, List.length_drop]; omega
 have hvW : W1.heap[vb]? = some (.cells vrow.toArray TV (0, 0)) := by rw [ho1 vb hvb]; exact hvrow
 obtain ⟨W2, hc2, hr2, hs2, ho2, q4, q5, q6⟩ := copy_ex2 (P := Try.prog) W1 29 29 46 b (off + i * 2) (n + 1 - i) (c - i) ⟨vb, voff, none⟩ 1 vc 2 1 row1 T V Try.underlying29 hs46 (by simp only [Nat.min_def]; split <;> omega) hr1 hV
  (row_cell' hvW hvs) (by rw [hV, hl1]; omega) h1V
 rw [hV] at hr2
 have hw1 : IntKind.i64.wrap ((i : Int) + 1) = (i : Int) + 1 := by rw [IntKind.wrap_i64]; omega
 have hb1 : (0 : Int) ≤ (i : Int) + 1 := by omega
 have hin : i ≤ n := by omega
 have htn : ((i : Int) + 1).toNat = i + 1 := by omega
 have hb3 : (i : Int) ≤ (n : Int) + 1 := by omega
 have e1 : W2.os = w.os := q4.trans q1
 have e2 : W2.tape = w.tape := q5.trans q2
 have e3 : W2.output = w.output := q6.trans q3
 have e4 : W2.heap.size = w.heap.size := hs2.trans hs1
 have e5 : ∀ k, k ≠ b → W2.heap[k]? = w.heap[k]? := fun k hk => (ho2 k hk).trans (ho1 k hk)
 clear hrow1 hr1 hcl hvW hl1 hs1 ho1 q1 q2 q3 hdrow
 go_enter Try.func74, Try.ntmps74
 go_wp2_with (simp only [hov])
 go_region_law_o (refine step_copy_runI rfl _ _ 29 29 rfl _ _ (by simp [Act.eval, Act.put]) (by simp [Act.eval, Act.put]) (hc1 _) ?_)
 go_wp2_with (at_builtin; refine wpList_copy_runI _ rfl _ _ 29 29 rfl _ _ rfl rfl (hc2 _) ?_)
 go_ret
 exact ⟨rfl, e1, e2, e3, e4, e5, hr2⟩
set_option maxHeartbeats 8000000 in
set_option maxRecDepth 100000 in
theorem ins_grow (w : World) (b off n c i vb voff vc : Nat) (row V : List Value) (T : TypeId) (hi : i < n) (hnc : n ≤ c) (hroom : c < n + 1) (hn : n ≤ 500000000) (hrow : w.heap[b]? = some (.cells row.toArray T (0, 0))) (hsz : off + c * 2 ≤ row.length)
  (h1 : ∀ v ∈ (row.drop (off + i * 2)).take ((n - i) * 2), v.oneCell' = true) (hV : V.length = 2) (h1V : ∀ v ∈ V, v.oneCell' = true) (vrow : List Value) (TV : TypeId) (hvrow : w.heap[vb]? = some (.cells vrow.toArray TV (0, 0))) (hvs : ∀ j u, V[j]? = some u → vrow[voff + j]? = some u) :
  Calls Try.prog 74 #[.slice (some ⟨b, off, none⟩) n c, .int .i64 i, .slice (some ⟨vb, voff, none⟩) 1 vc] w fun e w' => ∃ G Z, n + 1 ≤ G ∧ Z.length = (G - (n + 1)) * 2 ∧ e = .returned (.slice (some ⟨w.heap.size, 0, none⟩) (n + 1) G) ∧
   w'.os = w.os ∧ w'.tape = w.tape ∧ w'.output = w.output ∧ w'.heap.size = w.heap.size + 1 ∧ (∀ k, k ≠ w.heap.size → w'.heap[k]? = w.heap[k]?) ∧
   w'.heap[w.heap.size]? = some (.cells ((row.drop off).take (i * 2) ++ V ++ (row.drop (off + i * 2)).take ((n - i) * 2) ++ Z).toArray 46 (0, 0)) := by
 have mixed : Try.prog.follows .mixedOrders = true := (okA fns_nil : Go.Lf.CtxOK Try.prog (mkC 0 [])).mixed
 have hs46 : (Try.prog.info? 46).map (·.size) = some 2 := by kernel_rfl
 obtain ⟨i0, hi0, hz0, hzs, hzb⟩ : ∃ i0, Try.prog.info? 46 = some i0 ∧ i0.zero = some (.agg #[.slice none 0 0, .slice none 0 0]) ∧ i0.size = 2 ∧ i0.bytes = 48 := ⟨_, rfl, rfl, rfl, rfl⟩
 have hbw : b < w.heap.size := by
  rcases Nat.lt_or_ge b w.heap.size with h | h
  ·exact h
  ·rw [Array.getElem?_eq_none h] at hrow; cases hrow
 have hvw : vb < w.heap.size := by
  rcases Nat.lt_or_ge vb w.heap.size with h | h
  ·exact h
  ·rw [Array.getElem?_eq_none h] at hvrow; cases hvrow
 have hcA : ((row.drop off).take (i * 2)).length = i * 2 := by rw [List.length_take, List.length_drop]; omega
 have hcB : ((row.drop (off + i * 2)).take ((n - i) * 2)).length = (n - i) * 2 := by rw [List.length_take, List.length_drop]; omega
 obtain ⟨A, hA⟩ : ∃ A, A = (row.drop off).take (i * 2) := ⟨_, rfl⟩
 obtain ⟨B, hB⟩ : ∃ B, B = (row.drop (off + i * 2)).take ((n - i) * 2) := ⟨_, rfl⟩
 rw [← hA] at hcA ⊢
 rw [← hB] at hcB h1 ⊢
 have hdrow : w.drew.heap[b]? = some (.cells row.toArray T (0, 0)) := hrow
 have hold : (Builtin.firstCells i0.size i (.slice (some ⟨b, off, none⟩) i c)).run Try.prog w.drew = .ok A.toArray w.drew := by
  refine run_firstCells_some w.drew i0.size i ⟨b, off, none⟩ i c A (by rw [hcA, hzs]) (row_cell' hdrow ?_)
  intro j u hj
  rw [hA, List.getElem?_take] at hj
  split at hj
  ·rwa [List.getElem?_drop] at hj
  ·cases hj
 have hik : i + (n + 1 - i) = n + 1 := by omega
 have hkk : (n : Int) + 1 - (i : Int) = ((n + 1 - i : Nat) : Int) := by omega
 obtain ⟨G, hG⟩ : ∃ G, G = grownCap w (n + 1) c 46 := ⟨_, rfl⟩
 have hGn : n + 1 ≤ G := by rw [hG]; exact grownCap_ge w _ _ _
 obtain ⟨zs, hzs', hzl⟩ : ∃ zs : List Value, zs = ((Builtin.zeroCells (Value.agg #[.slice none 0 0, .slice none 0 0]).cells (n + 1 - i)) ++ (Builtin.zeroCells (Value.agg #[.slice none 0 0, .slice none 0 0]).cells (G - (n + 1)))).toList ∧ zs.length = (n + 1 - i) * 2 + (G - (n + 1)) * 2 := by
  refine ⟨_, rfl, ?_⟩
  simp [Builtin.zeroCells, Value.cells]; try omega
 have hrz : ∀ ty, (Builtin.append_ #[29, 3] ty #[.slice (some ⟨b, off, none⟩) i c, .int .i64 ((n : Int) + 1 - (i : Int))]).run Try.prog w =
   .ok (.slice (some ⟨w.heap.size, 0, none⟩) (n + 1) G) (w.drew.alloc (.cells (A ++ zs).toArray 46)) := fun ty => by
  have h := Lib.run_append_grow_zeros w 29 3 ty 46 i0 _ .i64 .i64 Try.underlying29 Try.underlying3 hi0 hz0 (some ⟨b, off, none⟩) i c A hold (n + 1 - i) (by omega) (by omega) (by omega) (by omega) (by rw [hzb]; omega) (by rw [hzb, hik]; exact growslice_fits hroom (by omega))
  rw [hik, ← hG] at h
  rw [hkk, h, hzs']
  have hcells : ∀ X Y : Array Value, A.toArray ++ X ++ Y = (A ++ (X ++ Y).toList).toArray := by intro X Y; apply Array.ext'; simp
  rw [hcells]
 obtain ⟨W0, hW0⟩ : ∃ W0, W0 = w.drew.alloc (.cells (A ++ zs).toArray 46) := ⟨_, rfl⟩
 rw [← hW0] at hrz
 have hr0 : W0.heap[w.heap.size]? = some (.cells (A ++ zs).toArray 46 (0, 0)) := by rw [hW0]; show (w.heap.push _)[w.heap.size]? = _; simp
 have hs0 : W0.heap.size = w.heap.size + 1 := by rw [hW0]; show (w.heap.push _).size = _; simp
 have ho0 : ∀ k, k ≠ w.heap.size → W0.heap[k]? = w.heap[k]? := by
  intro k hk
  rw [hW0]; show (w.heap.push _)[k]? = _
  rw [Array.getElem?_push, if_neg hk]
 have p1 : W0.os = w.os := by rw [hW0]; rfl
 have p2 : W0.tape = w.tape := by rw [hW0]; rfl
 have p3 : W0.output = w.output := by rw [hW0]; rfl
 clear hW0
 have hv0 : W0.heap[vb]? = some (.cells vrow.toArray TV (0, 0)) := by rw [ho0 vb (by omega)]; exact hvrow
 have hG63 : G ≤ 9223372036854775807 := by
  have := grownCap_le_maxLen w (n + 1) c 46 (by unfold maxLen; omega)
  rw [← hG] at this
  unfold maxLen at this
  omega
 obtain ⟨W1, hc1, hr1, hs1, ho1, q1, q2, q3⟩ := copy_ex2 (P := Try.prog) W0 29 29 46 w.heap.size (i * 2) (n + 1 - i) (G - i) ⟨vb, voff, none⟩ 1 vc 2 1 (A ++ zs) 46 V Try.underlying29 hs46 (by simp only [Nat.min_def]; split <;> omega) hr0 hV
  (row_cell' hv0 hvs) (by rw [hV, List.length_append, hcA, hzl]; omega) h1V
 rw [hV] at hr1
 have hb1' : W1.drew.heap[b]? = some (.cells row.toArray T (0, 0)) := by show W1.heap[b]? = _; rw [ho1 b (by omega), ho0 b (by omega)]; exact hrow
 have hr1' : W1.drew.heap[w.heap.size]? = some (.cells ((A ++ zs).take (i * 2) ++ V ++ (A ++ zs).drop (i * 2 + 2)).toArray 46 (0, 0)) := hr1
 have hl1 : ((A ++ zs).take (i * 2) ++ V ++ (A ++ zs).drop (i * 2 + 2)).length = G * 2 := by
  rw [List.length_append, List.length_append, hV, List.length_take, List.length_drop, List.length_append, hcA, hzl]; omega
 obtain ⟨W2, hc2, hr2, hs2, ho2, q4, q5, q6⟩ := copy_ex2 (P := Try.prog) W1.drew 29 29 46 w.heap.size ((i + 1) * 2) (n + 1 - (i + 1)) (G - (i + 1)) ⟨b, off + i * 2, none⟩ (n - i) (c - i) 2 (n - i) _ 46 B Try.underlying29 hs46 (by simp only [Nat.min_def]; split <;> omega) hr1' hcB
  (row_cell' hb1' (by intro j u hj; rw [hB, List.getElem?_take] at hj; split at hj; rwa [List.getElem?_drop] at hj; cases hj)) (by rw [hcB, hl1]; omega) h1
 have hfin : ∃ Z : List Value, Z.length = (G - (n + 1)) * 2 ∧ W2.heap[w.heap.size]? = some (.cells (A ++ V ++ B ++ Z).toArray 46 (0, 0)) := by
  refine ⟨((A ++ zs).take (i * 2) ++ V ++ (A ++ zs).drop (i * 2 + 2)).drop ((i + 1) * 2 + B.length), by rw [List.length_drop, hl1, hcB]; omega, ?_⟩
  rw [hr2]
  have : ((A ++ zs).take (i * 2) ++ V ++ (A ++ zs).drop (i * 2 + 2)).take ((i + 1) * 2) = A ++ V := by
   have e1 : (A ++ zs).take (i * 2) = A := by rw [← hcA]; exact List.take_left
   have e2 : (A ++ V).length = (i + 1) * 2 := by rw [List.length_append, hcA, hV]; omega
   rw [e1, ← e2]; exact List.take_left
  rw [this]
 obtain ⟨Z, hZl, hZ⟩ := hfin
 have e1 : W2.os = w.os := q4.trans (q1.trans p1)
 have e2 : W2.tape = w.tape := q5.trans (q2.trans p2)
 have e3 : W2.output = w.output := q6.trans (q3.trans p3)
 have e4 : W2.heap.size = w.heap.size + 1 := hs2.trans (hs1.trans hs0)
 have e5 : ∀ k, k ≠ w.heap.size → W2.heap[k]? = w.heap[k]? := fun k hk => (ho2 k hk).trans ((ho1 k hk).trans (ho0 k hk))
 have hz2 : ¬ ((i : Int) = (n : Int)) := by omega
 have hz3 : (c : Int) < (n : Int) + 1 := by omega
 have hGi : ¬ (G = i) := by omega
 have hGim : ¬ (G = i + 1) := by omega
 have hci : ¬ (c = i) := by omega
 have hw1 : IntKind.i64.wrap ((i : Int) + 1) = (i : Int) + 1 := by rw [IntKind.wrap_i64]; omega
 have hb1 : (0 : Int) ≤ (i : Int) + 1 := by omega
 have hin : i ≤ n := by omega
 have htn : ((i : Int) + 1).toNat = i + 1 := by omega
 have hb3 : (i : Int) ≤ (n : Int) + 1 := by omega
 clear hkk hik hold hG hr0 hs0 ho0 p1 p2 p3 hv0 hr1 hs1 ho1 q1 q2 q3 hb1' hr1' hl1 hr2 hs2 ho2 q4 q5 q6 hzs' hzl hA hB hcA hcB
 go_enter Try.func74, Try.ntmps74
 go_wp2_with (first
  | (at_builtin; refine Lib.wpList_append_run _ rfl _ _ _ _ rfl _ _ rfl rfl _ _ (hrz _) ?_)
  | (at_builtin; refine wpList_copy_runI _ rfl _ _ 29 29 rfl _ _ rfl rfl (hc1 _) ?_))
 go_region_law_o (refine step_copy_runI rfl _ _ 29 29 rfl _ _ (by simp [Act.eval, Act.put]) (by simp [Act.eval, Act.put]) (hc2 _) ?_)
 go_wp2
 go_ret
 exact ⟨G, Z, hGn, hZl, rfl, e1, e2, e3, e4, e5, hZ⟩
end Go.User
namespace Go.Lf
section
variable {P : Program} {C : Ctx} {ops : Array Oper} {Q : Exit → Act → World → Prop} {a : Act} {w w' : World} {o : Oper} {v : Value} {i : Nat} {rest : List Nat}

theorem ops_value (ho : ops[i]? = some o) (hg : o.guard = none) (hrun : (execOp a.eval o).run P w = .ok (.value v) w') (hK : wpOps P ops Q rest (a.put o.dst v) w') : wpOps P ops Q (i :: rest) a w := by
 rw [wpOps_cons]
 unfold wpOp
 have hw : Region.wanted o (yielded ops a.tmps) = true := by simp [Region.wanted, hg]
 simp only [ho, hw, if_true]
 refine .inl ?_
 unfold Oper.wp
 rw [hrun, Oper.upon_value]
 exact hK
theorem ops_skip (ho : ops[i]? = some o) (hg : o.guard = none) (hrun : (execOp a.eval o).run P w = .ok .skip w') (hd : o.dst = none) (hK : wpOps P ops Q rest a w') : wpOps P ops Q (i :: rest) a w := by
 rw [wpOps_cons]
 unfold wpOp
 have hw : Region.wanted o (yielded ops a.tmps) = true := by simp [Region.wanted, hg]
 simp only [ho, hw, if_true]
 refine .inl ?_
 unfold Oper.wp
 rw [hrun, Oper.upon_skip, hd]
 exact hK
theorem ops_nil (h : Q .normal a w) : wpOps P ops Q [] a w := by simpa [wpOps] using h
/-- Cells are stored in a row. -/
theorem run_cells {b off : Nat} {row : Array Value} {T0 : TypeId} (hr : w.heap[b]? = some (.cells row T0 (0, 0))) {cs : List Value} (ho : off + cs.length ≤ row.size) (h1 : ∀ v ∈ cs, v.oneCell' = true) :
  ∃ w', (storeCells ⟨b, off, none⟩ cs).run P w = .ok () w' ∧ w'.heap[b]? = some (.cells (row.toList.take off ++ cs ++ row.toList.drop (off + cs.length)).toArray T0 (0, 0)) ∧ (∀ k, k ≠ b → w'.heap[k]? = w.heap[k]?) ∧
   w'.heap.size = w.heap.size ∧ w'.os = w.os ∧ w'.tape = w.tape ∧ w'.output = w.output := by
 have hs := run_storeCells_at (P := P) b off T0 cs 0 row w hr (by omega) h1
 refine ⟨w.setRow b (row.toList.take (off + 0) ++ cs ++ row.toList.drop (off + 0 + cs.length)).toArray, ?_, ?_, ?_, ?_, rfl, rfl, rfl⟩
 ·simpa using hs
 ·simp [World.setRow, Array.getElem?_modify, hr]
 ·intro k hk
  simp only [World.setRow, Array.getElem?_modify]
  rw [if_neg (Ne.symm hk)]
 ·simp [World.setRow]
end
end Go.Lf
namespace Go.User
open Go Go.Proofs Go.RowKit Go.Lf
theorem sg_mid {A B D : List Value} {o n k : Nat} (hA : A.length = k) (h : o + n ≤ k) : seg (A ++ B ++ D) o n = seg A o n := by
 unfold seg
 rw [List.append_assoc, List.drop_append_of_le_length (by omega), List.take_append_of_le_length (by rw [List.length_drop]; omega)]
theorem sg_in {A B D : List Value} {o n k : Nat} (hA : A.length = k) (h1 : k ≤ o) (h2 : o + n ≤ k + B.length) : seg (A ++ B ++ D) o n = seg B (o - k) n := by
 unfold seg
 rw [List.append_assoc, List.drop_append, List.drop_eq_nil_of_le (by omega), List.nil_append, hA, List.drop_append_of_le_length (by omega), List.take_append_of_le_length (by rw [List.length_drop]; omega)]
theorem sg_sg {A : List Value} {o m p n : Nat} (h : p + n ≤ m) : seg (seg A o m) p n = seg A (o + p) n := by
 unfold seg
 rw [List.drop_take, List.take_take, Nat.min_eq_left (by omega), List.drop_drop]
theorem own_ins {F : NSet} {w' : World} {b2 off2 cap2 : Nat} {row2 : Array Value} {T : TypeId} {x : List tOut.den} {y : tOut.den} {i : Nat} {A V B : List Value} (hA : A.length = i * 2) (hi : i ≤ x.length) (hB : B.length = (x.length - i) * 2) (hV : V.length = 2)
  (hAel : ∀ k e, k < i → x[k]? = some e → Own F w' tOut .shr none' (seg A (k * 2) 2) e) (hBel : ∀ k e, x[i + k]? = some e → Own F w' tOut .shr none' (seg B (k * 2) 2) e) (hVel : Own F w' tOut .shr none' V y)
  (hheap : w'.heap[b2]? = some (.cells row2 T (0, 0))) (hsz : off2 + cap2 * 2 ≤ row2.size) (hD : seg row2.toList off2 ((x.length + 1) * 2) = A ++ V ++ B) (hcap : x.length + 1 ≤ cap2) (hlim : x.length ≤ 500000000) :
  OwnV F w' (.slice tOut) (.own .shr) (fun k => k = b2) (.slice (some ⟨b2, off2, none⟩) (x.length + 1) cap2) (insOut x [y] (i : Int)) := by
 have hlen : (insOut x [y] (i : Int)).length = x.length + 1 := by
  unfold insOut
  simp only [Int.toNat_natCast, List.length_append, List.length_take, List.length_drop, List.length_singleton]; omega
 refine ⟨[.slice (some ⟨b2, off2, none⟩) (x.length + 1) cap2], rfl, some ⟨b2, off2, none⟩, cap2, by rw [hlen], by rw [hlen]; exact hcap, by rw [hlen]; unfold lim; omega,
  .inr ⟨b2, off2, row2, T, fun _ => none', rfl, rfl, hheap, hsz, fun _ _ h => h.elim, fun _ h => h.elim, fun _ _ _ _ h => h.elim, fun k e hk => ?_⟩⟩
 have hkl : k < x.length + 1 := by rw [← hlen]; exact (List.getElem?_eq_some_iff.1 hk).1
 show Own F w' tOut .shr none' (seg row2.toList (off2 + k * 2) 2) e
 rw [← sg_sg (m := (x.length + 1) * 2) (p := k * 2) (by omega), hD]
 unfold insOut at hk
 simp only [Int.toNat_natCast] at hk
 have hl1 : (x.take i).length = i := by rw [List.length_take]; omega
 rcases Nat.lt_trichotomy k i with h | h | h
 ·rw [sg_mid hA (by omega)]
  rw [List.append_assoc, List.getElem?_append_left (by omega), List.getElem?_take, if_pos h] at hk
  exact hAel k e h hk
 ·subst h
  rw [sg_in hA (Nat.le_refl _) (by omega), Nat.sub_self]
  rw [List.append_assoc, List.getElem?_append_right (by omega), hl1, Nat.sub_self] at hk
  simp at hk
  subst hk
  have : seg V 0 2 = V := by unfold seg; rw [List.drop_zero]; exact List.take_of_length_le (by omega)
  rw [this]; exact hVel
 ·have hAV : (A ++ V).length = i * 2 + 2 := by rw [List.length_append, hA, hV]
  have : seg (A ++ V ++ B) (k * 2) 2 = seg B (k * 2 - (i * 2 + 2)) 2 := by
   have := sg_in (A := A ++ V) (B := B) (D := []) (o := k * 2) (n := 2) hAV (by omega) (by omega)
   rw [List.append_nil] at this; exact this
  rw [this, show k * 2 - (i * 2 + 2) = (k - i - 1) * 2 from by omega]
  refine hBel (k - i - 1) e ?_
  rw [List.getElem?_append_right (by simp; omega)] at hk
  simp only [List.length_append, hl1, List.length_singleton] at hk
  rw [List.getElem?_drop] at hk
  rw [← hk]; congr 1
theorem ins_ok : InsOK Try.prog I32 := by
 intro f e hl
 have hfe : f = 74 ∧ e = tOut := by
  unfold I32 Go.Lf.look at hl
  cases hb : Nat.beq 74 f
  ·rw [hb] at hl; cases hl
  ·rw [hb] at hl
   simp only [cond_true, Option.some.injEq] at hl
   exact ⟨(Nat.eq_of_beq_eq_true hb).symm, hl.symm⟩
 obtain ⟨rfl, rfl⟩ := hfe
 refine ⟨Try.call74, ?_⟩
 intro w F S0 S1 v v2 x x2 n hF hS0 hS1 hdis hv hv2 h0 hn hx2 hlx
 have hC : CtxOK Try.prog (mkC 0 []) := okA fns_nil
 have hT : Lf.look (mkC 0 []).tys 29 = some (.slice tOut) := by kernel_rfl
 obtain ⟨i, rfl⟩ := Int.eq_ofNat_of_zero_le h0
 have hix : i ≤ x.length := by omega
 obtain ⟨y, rfl⟩ : ∃ y, x2 = [y] := by
  match x2, hx2 with
  | [y], _ => exact ⟨y, rfl⟩
 obtain ⟨cs2, rfl, ao2, vc, rfl, hc2, hl2, alt2⟩ := hv2
 rcases alt2 with ⟨-, h⟩ | ⟨vb, voff, vrow, TV, Si2, rfl, hSvb, hvheap, hvsz, -, -, -, hel2⟩
 ·rw [h] at hc2; simp at hc2
 have hvsz : voff + vc * 2 ≤ vrow.size := hvsz
 have hc2 : 1 ≤ vc := hc2
 obtain ⟨V, hVdef⟩ : ∃ V, V = seg vrow.toList voff 2 := ⟨_, rfl⟩
 have hVl : V.length = 2 := by rw [hVdef]; exact seg_len _ _ _ (by simp; omega)
 have hVel : Own F w tOut .shr none' V y := by
  have := hel2 0 y rfl
  rw [Nat.zero_mul, Nat.add_zero] at this
  rw [hVdef]; exact Own.shr this
 have hV1 : ∀ u ∈ V, u.oneCell' = true := fun u hu => hVel.one u hu
 have hvheap' : w.heap[vb]? = some (.cells vrow.toList.toArray TV (0, 0)) := by rw [hvheap]
 have hvs : ∀ j u, V[j]? = some u → vrow.toList[voff + j]? = some u := by
  intro j u hj
  rw [hVdef] at hj
  unfold seg at hj
  rw [List.getElem?_take] at hj
  split at hj
  ·rwa [List.getElem?_drop] at hj
  ·cases hj
 have hnew : ∀ w' : World, w'.heap = w.heap → (Builtin.firstCells tOut.size 1 (.slice (some ⟨vb, voff, none⟩) 1 vc)).run Try.prog w' = .ok V.toArray w' := by
  intro w' hw'
  have := firstCells_row (P := Try.prog) (size := tOut.size) (n := 1) (cap := vc) (off := voff) (w' := w') (by rw [hw']; exact hvheap) (show voff + 1 * 2 ≤ vrow.size by omega)
  rw [this, hVdef]; rfl
 obtain ⟨cs, rfl, ao, cap, rfl, hcap, hlim, alt⟩ := hv
 show Calls Try.prog 74 #[.slice ao x.length cap, .int .i64 (i : Int), .slice (some ⟨vb, voff, none⟩) 1 vc] w _
 -- what stays of the elements
 have keep : ∀ {w' : World} {cs : List Value} {e : tOut.den}, (∀ k, k < w.heap.size → ¬ S0 k → w'.heap[k]? = w.heap[k]?) → Own F w tOut .shr none' cs e → Own F w' tOut .shr none' cs e := by
  intro w' cs e hk ho
  exact ho.congr (fun b hb => hk b (hF b hb) (fun h => (hS0 b h).2 hb)) (fun b hb => hb.elim)
 have fin : ∀ {w' : World} {b2 off2 cap2 : Nat} {row2 : Array Value} {T : TypeId} {A B : List Value}, w'.os = w.os → w'.tape = w.tape → w'.output = w.output → w.heap.size ≤ w'.heap.size → (∀ k, k < w.heap.size → ¬ S0 k → w'.heap[k]? = w.heap[k]?) →
   (w.heap.size ≤ b2 ∨ S0 b2) → b2 < w'.heap.size → A.length = i * 2 → B.length = (x.length - i) * 2 → (∀ k e, k < i → x[k]? = some e → Own F w tOut .shr none' (seg A (k * 2) 2) e) → (∀ k e, x[i + k]? = some e → Own F w tOut .shr none' (seg B (k * 2) 2) e) →
   w'.heap[b2]? = some (.cells row2 T (0, 0)) → off2 + cap2 * 2 ≤ row2.size → seg row2.toList off2 ((x.length + 1) * 2) = A ++ V ++ B → x.length + 1 ≤ cap2 →
   InsPost F S0 w tOut (insOut x [y] (i : Int)) (.returned (.slice (some ⟨b2, off2, none⟩) (x.length + 1) cap2)) w' := by
  intro w' b2 off2 cap2 row2 T A B q1 q2 q3 q4 q5 q6 q7 hA hB hAel hBel hh hsz hD hc
  refine ⟨_, F, fun k => k = b2, rfl, q1, q2, q3, q4, q5, fun _ h => h, fun k g1 g2 => absurd g1 g2, ?_, ?_, own_ins hA hix hB hVl (fun k e g1 g2 => keep q5 (hAel k e g1 g2)) (fun k e g => keep q5 (hBel k e g)) (keep q5 hVel) hh hsz hD hc hlx⟩
  ·rintro k (h | rfl)
   ·have := hF k h; omega
   ·exact q7
  ·rintro k rfl
   refine ⟨q6, fun h => ?_⟩
   rcases q6 with g | g
   ·have := hF _ h; omega
   ·exact (hS0 _ g).2 h
 rcases alt with ⟨rfl, rfl⟩ | ⟨b, off, row, T, Si, rfl, hSb, hheap, hsz, -, -, -, hel⟩
 ·-- nil
  have hx0 : x = [] := by
   cases x with
   | nil => rfl
   | cons a l => simp at hcap
  subst hx0
  have hi0 : i = 0 := by simpa using hix
  subst hi0
  obtain ⟨cap', zs, E, g1, g2, g3⟩ := (run_append_gen (P := Try.prog) (w := w) (ty := 29) hC hT hT (ao := none) (sLen := 0) (sCap := 0) (olds := []) (ax := some ⟨vb, voff, none⟩) (n := 1) (cx := vc) (news := V)
   (fun w' _ => run_firstCells_none w' tOut.size 0 0 0) hnew (by decide)).2 (by omega)
  refine (ins_end w none 0 0 vb voff vc _ _ g3 (Nat.le_refl _) (fun _ => rfl)).mono ?_
  rintro en w' ⟨rfl, rfl⟩
  have hnewrow : (w.drew.alloc (.cells (([] : List Value) ++ V ++ zs).toArray E)).heap[w.heap.size]? = some (.cells (([] : List Value) ++ V ++ zs).toArray E (0, 0)) := by
   show (w.heap.push _)[w.heap.size]? = _
   simp
  have hsz' : (w.drew.alloc (.cells (([] : List Value) ++ V ++ zs).toArray E)).heap.size = w.heap.size + 1 := by
   show (w.heap.push _).size = _
   simp
  have g2 : zs.length = (cap' - (0 + 1)) * 2 := g2
  refine fin (A := []) (B := []) rfl rfl rfl (by omega) (fun k hk _ => ?_) (.inl (Nat.le_refl _)) (by omega) rfl rfl (fun k e h => absurd h (Nat.not_lt_zero _)) (fun k e h => by simp at h) hnewrow (by simp; omega) ?_ g1
  ·show (w.heap.push _)[k]? = _
   rw [Array.getElem?_push, if_neg (by omega)]
  ·show seg (([] : List Value) ++ V ++ zs) 0 2 = [] ++ V ++ []
   rw [sg_in (A := []) rfl (Nat.zero_le _) (by simp; omega)]
   simp only [List.nil_append, List.append_nil]
   unfold seg; simp only [List.length_nil, Nat.sub_zero, List.drop_zero]; exact List.take_of_length_le (by omega)
 ·have hsz : off + cap * 2 ≤ row.size := hsz
  have hcap : x.length ≤ cap := hcap
  have hb := hS0 b hSb
  have hvb := hS1 vb hSvb
  have hne : vb ≠ b := fun h => hdis b hSb (h ▸ hSvb)
  have hel : ∀ k e, x[k]? = some e → Own F w tOut .shr none' (seg row.toList (off + k * 2) 2) e := fun k e h => Own.shr (hel k e h)
  have hrow' : w.heap[b]? = some (.cells row.toList.toArray T (0, 0)) := by rw [hheap]
  have hrl : row.toList.length = row.size := by simp
  obtain ⟨A, hA⟩ : ∃ A, A = seg row.toList off (i * 2) := ⟨_, rfl⟩
  obtain ⟨B, hB⟩ : ∃ B, B = seg row.toList (off + i * 2) ((x.length - i) * 2) := ⟨_, rfl⟩
  have hAl : A.length = i * 2 := by rw [hA]; exact seg_len _ _ _ (by omega)
  have hBl : B.length = (x.length - i) * 2 := by rw [hB]; exact seg_len _ _ _ (by omega)
  have hAel : ∀ k e, k < i → x[k]? = some e → Own F w tOut .shr none' (seg A (k * 2) 2) e := by
   intro k e h1 h2
   rw [hA, sg_sg (by omega)]; exact hel k e h2
  have hBel : ∀ k e, x[i + k]? = some e → Own F w tOut .shr none' (seg B (k * 2) 2) e := by
   intro k e h2
   have hlt : i + k < x.length := (List.getElem?_eq_some_iff.1 h2).1
   rw [hB, sg_sg (by omega), show off + i * 2 + k * 2 = off + (i + k) * 2 from by omega]; exact hel _ e h2
  have hB1 : ∀ u ∈ B, u.oneCell' = true := by
   intro u hu
   obtain ⟨j, hj, rfl⟩ := List.getElem_of_mem hu
   rw [hBl] at hj
   have hlt : i + j / 2 < x.length := by omega
   have ho := hBel (j / 2) _ (List.getElem?_eq_getElem hlt)
   refine ho.one _ ?_
   have : (seg B (j / 2 * 2) 2)[j % 2]? = some B[j] := by
    unfold seg
    rw [List.getElem?_take, if_pos (by omega), List.getElem?_drop, show j / 2 * 2 + j % 2 = j from by omega]
    exact List.getElem?_eq_getElem _
   exact List.mem_of_getElem? this
  by_cases hend : i = x.length
  ·have hBn : B = [] := List.eq_nil_of_length_eq_zero (by rw [hBl]; omega)
   have hgen := run_append_gen (P := Try.prog) (w := w) (ty := 29) hC hT hT (ao := some ⟨b, off, none⟩) (sLen := x.length) (sCap := cap) (olds := A) (ax := some ⟨vb, voff, none⟩) (n := 1) (cx := vc) (news := V)
    (fun w' hw' => by
     have := firstCells_row (P := Try.prog) (size := tOut.size) (n := x.length) (cap := cap) (off := off) (w' := w') (by rw [hw']; exact hheap) (show off + x.length * 2 ≤ row.size by omega)
     rw [this, hA, hend]; rfl) hnew (by rw [maxNew_eq]; omega)
   rcases Nat.lt_or_ge cap (x.length + 1) with hg | hf
   ·obtain ⟨cap', zs, E, g1, g2, g3⟩ := hgen.2 hg
    rw [hend]
    refine (ins_end w (some ⟨b, off, none⟩) x.length cap vb voff vc _ _ g3 hcap (fun h => by cases h)).mono ?_
    rintro en w' ⟨rfl, rfl⟩
    have hnewrow : (w.drew.alloc (.cells (A ++ V ++ zs).toArray E)).heap[w.heap.size]? = some (.cells (A ++ V ++ zs).toArray E (0, 0)) := by
     show (w.heap.push _)[w.heap.size]? = _
     simp
    have hsz' : (w.drew.alloc (.cells (A ++ V ++ zs).toArray E)).heap.size = w.heap.size + 1 := by
     show (w.heap.push _).size = _
     simp
    have g2 : zs.length = (cap' - (x.length + 1)) * 2 := g2
    rw [← hend]
    rw [hend]
    have := fin (w' := w.drew.alloc (.cells (A ++ V ++ zs).toArray E)) (b2 := w.heap.size) (off2 := 0) (cap2 := cap') (A := A) (B := B) rfl rfl rfl (by omega) (fun k hk _ => by
     show (w.heap.push _)[k]? = _
     rw [Array.getElem?_push, if_neg (by omega)]) (.inl (Nat.le_refl _)) (by omega) hAl hBl hAel hBel hnewrow (by simp; omega) (by
     show seg (A ++ V ++ zs) 0 ((x.length + 1) * 2) = A ++ V ++ B
     rw [hBn, List.append_nil]
     unfold seg
     rw [List.drop_zero]
     have : (A ++ V).length = (x.length + 1) * 2 := by rw [List.length_append, hAl, hVl]; omega
     rw [← this]; exact List.take_left) g1
    rw [hend] at this
    exact this
   ·have hap := hgen.1 hf
    obtain ⟨w1, k1, k2, k3, k4, k5, k6, k7⟩ := run_cells (P := Try.prog) (w := w) (b := b) (off := off + x.length * 2) (row := row) (T0 := T) hheap (cs := V) (by rw [hVl]; omega) hV1
    have hap' : (Builtin.append_ #[29, 29] 29 #[.slice (some ⟨b, off, none⟩) x.length cap, .slice (some ⟨vb, voff, none⟩) 1 vc]).run Try.prog w = .ok (.slice (some ⟨b, off, none⟩) (x.length + 1) cap) w1 := by
     rw [hap]
     unfold appFit
     have e1 : (⟨b, off, none⟩ : Addr).add (x.length * tOut.size) = ⟨b, off + x.length * 2, none⟩ := add_lit2 _ _ _
     show ((storeCells ((⟨b, off, none⟩ : Addr).add (x.length * tOut.size)) V).run Try.prog w).andThen (fun _ w' => Result.ok (Value.slice (some ⟨b, off, none⟩) (x.length + 1) cap) w') = _
     rw [e1, k1]; rfl
    rw [hend]
    refine (ins_end w (some ⟨b, off, none⟩) x.length cap vb voff vc _ _ hap' hcap (fun h => by cases h)).mono ?_
    rintro en w' ⟨rfl, rfl⟩
    have hkl : (row.toList.take (off + x.length * 2) ++ V ++ row.toList.drop (off + x.length * 2 + V.length)).length = row.size := by
     rw [List.length_append, List.length_append, List.length_take, List.length_drop, hVl, hrl]; omega
    have := fin (w' := w') (b2 := b) (off2 := off) (cap2 := cap) (A := A) (B := B) k5 k6 k7 (by omega) (fun k _ hk => k3 k (fun h => hk (h ▸ hSb))) (.inr hSb) (by omega) hAl hBl hAel hBel k2 (by simp only [List.size_toArray]; omega) (by
     rw [List.toList_toArray, hBn, List.append_nil, hA, hend]
     unfold seg
     have e1 : off ≤ (row.toList.take (off + x.length * 2)).length := by rw [List.length_take]; omega
     have e2 : ((row.toList.take (off + x.length * 2)).drop off).length = x.length * 2 := by rw [List.length_drop, List.length_take]; omega
     rw [List.append_assoc, List.drop_append_of_le_length e1, ← List.append_assoc]
     have e3 : ((row.toList.take (off + x.length * 2)).drop off ++ V).length = (x.length + 1) * 2 := by rw [List.length_append, e2, hVl]; omega
     have e4 : (row.toList.take (off + x.length * 2)).drop off = (row.toList.drop off).take (x.length * 2) := by
      rw [List.drop_take, Nat.add_sub_cancel_left]
     rw [← e3, List.take_left, e4]) hf
    rw [hend] at this
    exact this
  ·have hilt : i < x.length := by omega
   have hBdef : (row.toList.drop (off + i * 2)).take ((x.length - i) * 2) = B := hB.symm
   rcases Nat.lt_or_ge cap (x.length + 1) with hg | hf
   ·refine (ins_grow w b off x.length cap i vb voff vc row.toList V T hilt hcap hg hlx hrow' (by omega) (by rw [hBdef]; exact hB1) hVl hV1 vrow.toList TV hvheap' hvs).mono ?_
    rintro en w' ⟨G, Z, z1, z2, rfl, z3, z4, z5, z6, z7, z8⟩
    have hAdef : (row.toList.drop off).take (i * 2) = A := hA.symm
    rw [hAdef, hBdef] at z8
    refine fin z3 z4 z5 (by omega) (fun k hk _ => z7 k (by omega)) (.inl (Nat.le_refl _)) (by omega) hAl hBl hAel hBel z8 ?_ ?_ z1
    ·simp only [List.size_toArray, List.length_append, hAl, hBl, hVl, z2]; omega
    ·show seg (A ++ V ++ B ++ Z) 0 ((x.length + 1) * 2) = A ++ V ++ B
     unfold seg
     rw [List.drop_zero]
     have : (A ++ V ++ B).length = (x.length + 1) * 2 := by rw [List.length_append, List.length_append, hAl, hBl, hVl]; omega
     rw [← this]; exact List.take_left
   ·refine (ins_shift w b off x.length cap i vb voff vc row.toList V T hilt hf hlx hne hrow' (by omega) (by rw [hBdef]; exact hB1) hVl hV1 vrow.toList TV hvheap' hvs).mono ?_
    rintro en w' ⟨rfl, z3, z4, z5, z6, z7, z8⟩
    rw [hBdef] at z8
    obtain ⟨P0, hP0⟩ : ∃ P0, P0 = row.toList.take (off + (i + 1) * 2) := ⟨_, rfl⟩
    have hP0l : P0.length = off + (i + 1) * 2 := by rw [hP0, List.length_take]; omega
    obtain ⟨P1, hP1⟩ : ∃ P1, P1 = row.toList.take (off + i * 2) := ⟨_, rfl⟩
    have hP1l : P1.length = off + i * 2 := by rw [hP1, List.length_take]; omega
    obtain ⟨Z, hZ⟩ : ∃ Z, Z = row.toList.drop (off + (i + 1) * 2 + (x.length - i) * 2) := ⟨_, rfl⟩
    have hZl : Z.length = row.size - (off + (i + 1) * 2 + (x.length - i) * 2) := by rw [hZ, List.length_drop]; omega
    rw [← hP0, ← hZ] at z8
    have t1 : (P0 ++ B ++ Z).take (off + i * 2) = P1 := by
     rw [List.append_assoc, List.take_append_of_le_length (by omega), hP0, List.take_take, hP1]
     congr 1; omega
    have t2 : (P0 ++ B ++ Z).drop (off + i * 2 + 2) = B ++ Z := by
     rw [List.append_assoc, show off + i * 2 + 2 = P0.length from by omega, List.drop_left]
    rw [t1, t2] at z8
    refine fin z3 z4 z5 (by omega) (fun k _ hk => z7 k (fun h => hk (h ▸ hSb))) (.inr hSb) (by omega) hAl hBl hAel hBel z8 ?_ ?_ hf
    ·simp only [List.size_toArray, List.length_append, hP1l, hBl, hVl, hZl]; omega
    ·show seg (P1 ++ V ++ (B ++ Z)) off ((x.length + 1) * 2) = A ++ V ++ B
     unfold seg
     rw [List.append_assoc, List.drop_append_of_le_length (by omega)]
     have e1 : P1.drop off = A := by
      rw [hP1, hA, List.drop_take]; unfold seg; congr 1; omega
     rw [e1]
     have : (A ++ V ++ B).length = (x.length + 1) * 2 := by rw [List.length_append, List.length_append, hAl, hBl, hVl]; omega
     rw [show A ++ (V ++ (B ++ Z)) = A ++ V ++ B ++ Z from by simp, ← this]; exact List.take_left
end Go.User
namespace Go.User
open Go.Proofs Go.Lf
set_option maxRecDepth 100000
theorem vc71 : (∀ q n : Nat, funK (C71 q n) (stpU I32 G32 (C71 q n)) p71 (t71 q n) (L71 q n) Try.f71) = (
let q0 : Nat := (3 : Nat);
let q1 : Prop := (True ∧ True) ∧ True;
let q2 : Prop := True ∧ True ∧ True;
let q3 : Prop := True ∧ q2;
let q4 : Prop := q3 ∧ True;
let q5 : Int := (0 : Int);
let q6 : Nat := (1 : Nat);
let q7 : Nat := (71 : Go.FuncId);
let q8 : Nat := (68 : Go.FuncId);
let q9 : List KI := KI.fn q8 :: ([] : List KI);
let q10 : Prop := Option.some (q8, ([] : List Int)) = Option.some (q8, ([] : List Int));
let q11 : Int × Int × Unit := (q5, q5, ());
let q12 : Int := (1 : Int);
let q13 : Prop := (([] : List Go.ResultVar)).toArray.toList = ([] : List Go.ResultVar);
let q14 : Nat := (500000000 : Nat);
∀ (q : Nat),
 let q15 : Prop := Option.some (q7, KI.self :: KI.own q :: q9) = Option.some (q7, KI.self :: KI.own q :: q9);
 ∀ (n : Nat),
 let q16 : Nat := n - q6;
 ∀ (x : List Sp.Out) (y : Sp.VSt × Unit),
 let q17 : Prop := True ∧ Sp.OkS y.1 ∧ True ∧ True;
 let q18 : Nat := (Sp.choices y.1).length;
 let q19 : Prop := Sp.choices y.1 = Sp.choices y.1;
 let q20 : Nat := (Sp.choices y.1).length;
 let q21 : Int := (↑q20 : Int);
 let q22 : Prop := q15 ∧ q10 ∧ y.1 = y.1 ∧ q19 ∧ q19 ∧ q21 = q21 ∧ True;
 let q23 : Bool := decide (q21 > q5);
 let q24 : List Sp.Out := Sp.visit n y.1 x;
 let q25 : Sp.Out := (Sp.outR y.1, Sp.lastN y.1 q0, ());
 let q26 : List Sp.Out := q25 :: ([] : List tOut.den);
 Sp.okV n x y.1 →
 dFact tOut.slice x →
 dFact (tLit.prod (tI.slice.prod ((Ty.arr q0 tMsg.slice).prod ((Ty.arr q0 tI).slice.prod ((Ty.arr q0 tI).prod (tI.slice.prod tOut)))))) y.1 ∧ True →
 q1 ∧
 (q17 ∧ True) ∧
 q4 ∧
 (∃ (x_1 : Nat), x_1 ≤ q18 ∧ q5 = (↑x_1 : Int) ∧ x = Sp.visitN q16 y.1 x x_1 ∧ q22) ∧
 ∀ (x_1 : Nat),
 let q27 : List Sp.Out := Sp.visitN q16 y.1 x x_1;
 let q28 : Bool := decide ((↑x_1 : Int) < q21);
 let q29 : Int × Int × Unit := (Sp.choices y.1).getD (↑x_1 : Int).toNat q11;
 let q30 : Sp.VSt := (y.1.1, Sp.nPc y.1 q29, Sp.nMem y.1 q29, Sp.nVw y.1 q29, Sp.nFe y.1 q29, Sp.nR y.1 q29, Sp.nFr y.1 q29, Sp.nFo y.1 q29, ());
 let q31 : Int := (↑x_1 : Int) + q12;
 let q32 : Prop := q13 ∧ q27 = q24;
 let q33 : Nat := q27.length;
 let q34 : Prop := q33 ≤ q14;
 let q35 : Bool := !Sp.foundO q27 q25;
 let q36 : Int := (↑(Sp.below q27 q25) : Int);
 let q37 : Nat := q36.toNat;
 x_1 ≤ q18 → dFact tI (↑x_1 : Int) ∧ dFact tOut.slice q27 ∧ True → q1 ∧ (q28 = true → ((inN (↑x_1 : Int) q20 ∧ q2) ∧ True ∧ True) ∧ ((True ∧ True ∧ True ∧ Sp.okX y.1 q29 ∧ True) ∧ (q15 ∧ q6 ≤ n ∧ Sp.okV q16 q27 q30) ∧ True) ∧ ((inK IntKind.i64 q31 ∧ True ∧ True) ∧ True) ∧ ∃ (y_1 : Nat), y_1 ≤ q18 ∧ q18 - y_1 < q18 - x_1 ∧ q31 = (↑y_1 : Int) ∧ Sp.visit q16 q30 q27 = Sp.visitN q16 y.1 x y_1 ∧ q22) ∧ (q28 = false → q4 ∧ (q23 = true → q32) ∧ (q23 = false → (q17 ∧ True ∧ True) ∧ ((True ∧ True ∧ True ∧ (Option.some (q8, ([] : List Int)) = Option.some (q8, ([] : List Int)) ∧ q34 ∧ Sp.sortedO q27) ∧ True ∧ True ∧ q3) ∧ True) ∧ (q2 ∧ True) ∧ (q35 = true → (True ∧ True ∧ True ∧ True ∧ True ∧ ((0 : tI.den) ≤ q36 ∧ q36 ≤ (↑q33 : Int) ∧ q26.length = q6 ∧ q34) ∧ True ∧ True) ∧ q13 ∧ List.take q37 q27 ++ q26 ++ List.drop q37 q27 = q24) ∧ (q35 = false → q32)))) := by kernel_rfl
end Go.User
namespace Go.User
open Go.Lf Go.Proofs
set_option maxRecDepth 100000 in
theorem k71 : ∀ (n q : Nat), KnOK Try.prog q (t71k q n) → KnOK Try.prog q (t71 q n) := by
 intro n q hk
 have hC : CtxOK Try.prog (C71 q n) := ctx_okQ q rfl rfl (fns_cons ok53 (fns_cons ok54c (fns_cons ok72 (fns_cons ok73 fns_nil)))) ptrs_nil (fun _ h => by cases h) (fun t h => by injection h with h; subst h; exact cmp_ok) ins_nil (fun t h => by injection h with h; subst h; exact hk)
 refine KnOK.intro hC (stpU_ok ins_ok grow_ok hC) Try.call71 Try.func71 (by kernel_rfl) (l1 := [.self]) (l2 := [.fn 68]) rfl rfl rfl rfl (by show 1 + 3 ≤ 44; omega) (L71 q n) (vc71.mpr ?_ q n)
 simp only [zz, zy]
 rintro n l ⟨s, u⟩ ⟨hg, h6, hl, hs, hlen⟩ _ hx
 have hg : Sp.Good s := hg
 have h6 : Sp.total s.1.1 ≤ 6 := h6
 have hl : Sp.left s = n := hl
 have hs : Sp.sortedO l := hs
 have hlen : l.length + 28 ^ n ≤ 500000000 := hlen
 have hcl := Sp.choices_len hg h6
 refine ⟨hg.ok, ⟨0, Nat.zero_le _, rfl, rfl⟩, fun i hi _ => ⟨fun hlt => ?_, fun hge => ⟨fun hpos => ?_, fun hz => ?_⟩⟩⟩
 ·have hlt : (i : Int) < ((Sp.choices s).length : Int) := hlt
  have hil : i < (Sp.choices s).length := by omega
  have hxm : (Sp.choices s).getD i (0, 0, ()) ∈ Sp.choices s := Pl.getD_mem hil _
  have hln := Sp.left_next hg.ok hxm
  obtain ⟨m, rfl⟩ : ∃ m, n = m + 1 := ⟨n - 1, by omega⟩
  obtain ⟨a1, a2⟩ := Sp.visitN_ok hg h6 hl hs i (by omega)
  have hm1 : (i + 1) * 28 ^ m ≤ 28 ^ (m + 1) := by
   rw [Nat.pow_succ, Nat.mul_comm (28 ^ m)]
   exact Nat.mul_le_mul_right _ (by omega)
  rw [Nat.succ_mul] at hm1
  refine ⟨inN_of hlt, ⟨⟨hg.ok, hxm⟩, by omega, hg.next hxm, h6, ?_, a1, ?_⟩, inK_mid (by omega) (by omega), i + 1, ?_, ?_, ?_, ?_⟩
  ·show Sp.left (Sp.next s ((Sp.choices s).getD i (0, 0, ()))) = m; omega
  ·show (Sp.visitN m s l i).length + 28 ^ m ≤ 500000000; omega
  ·show i + 1 ≤ (Sp.choices s).length; omega
  ·show (Sp.choices s).length - (i + 1) < (Sp.choices s).length - i; omega
  ·show (i : Int) + 1 = ((i + 1 : Nat) : Int); omega
  ·exact Sp.visitN_succ m s l hil
 ·have hi : i ≤ (Sp.choices s).length := hi
  have hge : ((Sp.choices s).length : Int) ≤ (i : Int) := hge
  have hpos : (0 : Int) < ((Sp.choices s).length : Int) := hpos
  have hne : Sp.choices s ≠ [] := by intro h; rw [h] at hpos; simp at hpos
  have hxm : (Sp.choices s).getD 0 (0, 0, ()) ∈ Sp.choices s := Pl.getD_mem (by omega) _
  have hln := Sp.left_pos hg.ok hxm
  obtain ⟨m, rfl⟩ : ∃ m, n = m + 1 := ⟨n - 1, by omega⟩
  show Sp.visitN m s l i = Sp.visit (m + 1) s l
  rw [Sp.visit_more hne, show i = (Sp.choices s).length from by omega]
 ·have hi : i ≤ (Sp.choices s).length := hi
  have hz : ((Sp.choices s).length : Int) ≤ 0 := hz
  have hi0 : i = 0 := by omega
  subst hi0
  have hnil : Sp.choices s = [] := List.eq_nil_of_length_eq_zero (by omega)
  have hv : Sp.visit n s l = Sp.insO l (Sp.outcome s) := Sp.visit_end hnil
  have hb := (Sp.below_spec hs (Sp.outcome s)).1
  refine ⟨hg.ok, ⟨?_, hs⟩, fun hf => ⟨⟨?_, ?_, ?_⟩, ?_⟩, fun hf => ?_⟩
  ·exact Nat.le_trans (Nat.le_add_right _ _) hlen
  ·exact Int.natCast_nonneg _
  ·show ((Sp.below l (Sp.outcome s) : Nat) : Int) ≤ (l.length : Int); omega
  ·exact Nat.le_trans (Nat.le_add_right _ _) hlen
  ·have hf : Sp.foundO l (Sp.outcome s) = false := hf
   show l.take (Sp.below l (Sp.outcome s)) ++ [Sp.outcome s] ++ l.drop (Sp.below l (Sp.outcome s)) = Sp.visit n s l
   rw [hv]; unfold Sp.insO; rw [if_neg (by rw [hf]; decide)]
  ·have hf : Sp.foundO l (Sp.outcome s) = true := hf
   show l = Sp.visit n s l
   rw [hv]; unfold Sp.insO; rw [if_pos hf]
/-- The closure finds what it should. -/
theorem visits : ∀ (n q : Nat), KnOK Try.prog q (t71 q n)
 | 0, q => k71 0 q ⟨Try.call71, fun w F S0 cs x caps vs y h1 h2 h3 h4 h5 h6 h7 h8 => absurd h8.1 (by show ¬ 1 ≤ 0; omega)⟩
 | n + 1, q => k71 (n + 1) q ⟨Try.call71, fun w F S0 cs x caps vs y h1 h2 h3 h4 h5 h6 h7 h8 => (visits n q).2 w F S0 cs x caps vs y h1 h2 h3 h4 h5 h6 h7 h8.2⟩
end Go.User
