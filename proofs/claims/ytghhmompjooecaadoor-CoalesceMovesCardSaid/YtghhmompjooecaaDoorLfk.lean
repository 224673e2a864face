/- Ranges over a function whose iterator keeps state of its own in memory: a law for the caller. The places of the ones of a set: the function over which Static ranges. How many ones: the walk of OnesCount64. How many segments: Segments' contract for a walk. Static: the walk, where the rest has one element. Static: the walk, where there is no lane, or all is allowed, or the rest has more than one element. Static: the walk, where the rest has more than one element. Static computes the bound. Moves: keys of its map. Moves: the walk. Moves computes the number of transactions. Segments: the laws: examples, MatchesReference, Bounds, Fewer, Sharp. Segments: the law of segments. Moves of accesses to four arrays: plain facts. Segments: the law of moves. The law CoalesceMoves. -/
import Derived.Test.YtghhmompjooecaaDoorLfj
import Derived.RangeFuncWrites
import Derived.RangeFuncLeaves
import Derived.RangeFuncBox
import Derived.Shelf.Abstract
import Derived.Maps.AppendAt
import Derived.RangeFuncNested
import Derived.WideKeyArr
set_option linter.unusedVariables false
set_option linter.unusedSimpArgs false
namespace Go
open Go.RowKit
variable {F : Fence} {n : Nat} {P : Program}

def AbX {β : Type} (G : World -> World -> Prop) (J : β -> World -> Prop) : Prop := ∀ s A B, J s A -> G A B -> J s B

def SeqX {α : Type} (F : Fence) (n : Nat) (P : Program) (g : Nat) (lb : Array Value) (encs : α -> Array Value) (G K : World -> World -> Prop) (X : List α -> α -> Prop) (S Sp : List α -> Prop) (w : World) : Prop :=
 ∀ (l : Nat) (J Jx : List α -> World -> Prop) (W : World), Below w.heap.size w W -> AbX G J -> AbX G Jx ->
  (∀ pre x W1, J pre W1 -> X pre x -> YieldAt F (n - 1) P l (encs x) W1 fun e W' => (e = .returned (.bool true) /\ J (pre ++ [x]) W' /\ K W1 W') ∨ (e = .returned (.bool false) /\ Jx (pre ++ [x]) W')) ->
  J [] W ->
  CallsIn F n P g (#[.func (.yield l) #[] #[]] ++ lb) W fun e W' => (∃ v, e = .returned v) /\ ((∃ xs, S xs /\ J xs W') ∨ (∃ pre, Sp pre /\ Jx pre W'))

def ownX {α : Type} (B : Nat) (K : World -> World -> Prop) (I : List α -> World -> Prop) (Ix : Code -> List α -> World -> Prop) (xs : List α) (W : World) : Exit -> Act -> World -> Prop
 | .normal, _, W' => KeepsFrom B W W' /\ K W W' /\ I xs W'
 | .ret, _, W' => KeepsFrom B W W' /\ Ix .ret xs W'
 | .exit id, _, W' => KeepsFrom B W W' /\ Ix (.exit id) xs W'
 | .goto t, _, W' => KeepsFrom B W W' /\ Ix (.goto t) xs W'
 | _, _, _ => False

theorem wpIn_rangeX {α : Type} {g : Operand} {ps : Array Tmp} {assign body : Code} {Q : Exit -> Act -> World -> Prop} {a : Act} {w : World}
  (hro : F.round = none) (h1 : 1 <= n) {gf : Nat} {lb : Array Value} (hg : a.eval g = .func (.func gf) #[] lb) (hFg : F.fn gf) (eg : ∀ args w, (callFunc gf args).run P w = .ok (.enter gf args) w)
  {encs : α -> Array Value} {G K : World -> World -> Prop} {X : List α -> α -> Prop} {S Sp : List α -> Prop} (hseq : SeqX F (n - 1) P gf lb encs G K X S Sp w)
  (hG : ∀ {A B : World}, G A B -> KeepsFrom w.heap.size A B) (hKt : ∀ {A B C : World}, K A B -> K B C -> K A C)
  (hKb : ∀ (W : World) (l : Nat) (o o' : Obj), w.heap.size <= l -> W.heap[l]? = some o -> o.isCells = false -> o.isWalk = false -> K W (W.putObj l o')) (hps : ∀ x, (encs x).size = ps.size)
  (I : List α -> World -> Prop) (Ix : Code -> List α -> World -> Prop) (hI : OwnFrom w.heap.size I) (hIx : ∀ c, OwnFrom w.heap.size (Ix c)) (hIG : AbX G I) (hIxG : ∀ c, AbX G (Ix c)) (h0 : I [] w) (a₁ : α -> Act)
  (hassign : ∀ (l : Nat) (x : α) (W : World) (k : Act -> World -> Prop), k (a₁ x) W ->
   assign.wpIn (F.inRound l) (n - 1 - 1) P (Exit.then k (fun _ _ _ => False)) { tmps := (ps.zip (encs x)).foldl (fun t (p, v) => t.setIfInBounds p v) a.tmps, defers := [] } W)
  (hbody : ∀ (l : Nat) (pre : List α) (x : α) (W : World), I pre W -> X pre x -> body.wpIn (F.inRound l) (n - 1 - 1) P (ownX w.heap.size K I Ix (pre ++ [x]) W) (a₁ x) W)
  (hdone : ∀ (D : Nat) (xs : List α) (W : World), w.heap.size <= D -> S xs -> I xs W -> W.heap[D]? = some (.deferred (some [])) -> Q .normal { a with defers := { target := .collected D, args := #[] } :: a.defers } W)
  (hstop : ∀ (D : Nat) (c : Code) (pre : List α) (W : World), w.heap.size <= D -> Sp pre -> Ix c pre W -> W.heap[D]? = some (.deferred (some [])) -> c.wpIn F n P Q { a with defers := { target := .collected D, args := #[] } :: a.defers } W) :
  (Code.rangeFunc g ps assign body).wpIn F n P Q a w := by
 refine wpIn_rangeFunc fun fn hfn => ?_
 rw [hro]
 let rec0 : LoopState -> Option Code -> Loop := fun st pe => { state := st, pending := pe, fn, tmps := a.tmps, params := ps, assign, body, defers := w.heap.size }
 obtain ⟨b, hb⟩ : ∃ b, b = w.heap.size := ⟨_, rfl⟩
 let Ready : World -> Prop := fun W => W.heap[b + 1]? = some (.loop (rec0 .ready none)) /\ W.heap[b]? = some (.deferred (some []))
 let Left : Code -> World -> Prop := fun c W => W.heap[b + 1]? = some (.loop (rec0 .done (some c))) /\ W.heap[b]? = some (.deferred (some []))
 obtain ⟨W1, hW1⟩ : ∃ W1, W1 = (w.alloc (.deferred (some []))).alloc (.loop (rec0 .ready none)) := ⟨_, rfl⟩
 have hready : Ready W1 := by
  subst hW1 hb;refine ⟨?_, (Below.heap_alloc _ _ _ (by simp)).trans (World.alloc_heap_new w _)⟩;have := World.alloc_heap_new (w.alloc (.deferred (some []))) (.loop (rec0 .ready none))
  rwa [World.size_alloc] at this
 have hI1 : I [] W1 := by rw [hW1]; exact hI.alloc _ (hI.alloc _ h0)
 have hbel : Below w.heap.size w W1 := by rw [hW1]; exact ((Below.refl _ w).alloc (Nat.le_refl _) _).alloc (by simp) _
 refine ⟨b + 1, [{ target := .collected b, args := #[] }], W1, { target := .fn (.func gf) lb, args := #[.func (.yield (b + 1)) #[] #[]] }, W1, gf,
  #[.func (.yield (b + 1)) #[] #[]] ++ lb, W1, ?_, ?_, ?_, ?_, fun _ => h1, ?_⟩
 ·rw [hW1, hb]; exact run_enterLoop_outer _ _ _ _ _
 ·simp only [resolve, hg]
  simp [go_sem]
 ·intro f' hf'; simp [Target.leads] at hf'; subst hf'; exact hFg
 ·simp [invoke, go_sem, eg]
 have hbB : w.heap.size <= b := by omega
 have ready_G : ∀ {A B : World}, G A B -> Ready A -> Ready B := fun hg h => ⟨(hG hg).same _ _ (by omega) h.1 rfl, (hG hg).same _ _ hbB h.2 rfl⟩
 have left_G : ∀ {A B : World} {c : Code}, G A B -> Left c A -> Left c B := fun hg h => ⟨(hG hg).same _ _ (by omega) h.1 rfl, (hG hg).same _ _ hbB h.2 rfl⟩
 refine (hseq (b + 1) (fun pre W => I pre W /\ Ready W) (fun pre W => ∃ c, Ix c pre W /\ Left c W) W1 hbel
  (fun s A B h hg => ⟨hIG s A B h.1 hg, ready_G hg h.2⟩) (fun s A B h hg => ?_) ?_ ⟨hI1, hready⟩).mono ?_
 ·obtain ⟨c, h1, h2⟩ := h
  exact ⟨c, hIxG c s A B h1 hg, left_G hg h2⟩
 ·
  rintro pre x W ⟨hi, hr, hd⟩ hx
  have hlt : b + 1 < W.heap.size := (Array.getElem?_eq_some_iff.1 hr).1
  refine ⟨fn, _, assign, body, run_yield hr (hps x), roundIn_of_wpIn hfn (hassign _ x W _ ⟨_, run_beginRound hr rfl, ?_⟩)⟩
  obtain ⟨W2, hW2⟩ : ∃ W2, W2 = W.putObj (b + 1) (.loop { rec0 .ready none with state := .busy }) := ⟨_, rfl⟩;have hr2 : W2.heap[b + 1]? = some (.loop { rec0 .ready none with state := .busy }) := by rw [hW2]; exact World.putObj_heap_same hlt
  have hd2 : W2.heap[b]? = some (.deferred (some [])) := by rw [hW2]; exact (World.putObj_heap_other (by omega)).trans hd
  have hK2 : K W W2 := by rw [hW2]; exact hKb _ _ _ _ (by omega) hr rfl rfl
  have hi2 : I pre W2 := by rw [hW2]; exact hI.putObj _ hi (by omega) hr rfl
  have hbd := hbody (b + 1) pre x W2 hi2 hx
  rw [<- hW2];refine wpIn_mono hbd ?_;have ended : ∀ (jump : Option Code) (W3 : World), KeepsFrom w.heap.size W2 W3 -> ∃ st, (Instr.endRound (b + 1) jump).run P W3 = .ok (.bool jump.isNone) (W3.putObj (b + 1) (.loop (rec0 st jump))) /\ (st = if jump.isNone then .ready else .done) /\
    W3.heap[b + 1]? = some (.loop { rec0 .ready none with state := .busy }) /\ (W3.putObj (b + 1) (.loop (rec0 st jump))).heap[b + 1]? = some (.loop (rec0 st jump)) /\ (W3.putObj (b + 1) (.loop (rec0 st jump))).heap[b]? = some (.deferred (some [])) := by
   intro jump W3 hk;have hr3 := hk.same _ _ (by omega) hr2 rfl;exact ⟨_, run_endRound (P := P) jump hr3, rfl, hr3, World.putObj_heap_same (Array.getElem?_eq_some_iff.1 hr3).1, (World.putObj_heap_other (by omega)).trans (hk.same _ _ hbB hd2 rfl)⟩
  have off : ∀ (c : Code) (W3 : World), KeepsFrom w.heap.size W2 W3 -> Ix c (pre ++ [x]) W3 -> ∃ v w', (Instr.endRound (b + 1) (some c)).run P W3 = .ok v w' /\
    ((Ending.returned v = .returned (.bool true) /\ (I (pre ++ [x]) w' /\ Ready w') /\ K W w') ∨ (Ending.returned v = .returned (.bool false) /\ ∃ c, Ix c (pre ++ [x]) w' /\ Left c w')) := by
   intro c W3 hk hix;obtain ⟨st, e1, e2, e3, e4, e5⟩ := ended (some c) W3 hk;subst e2;exact ⟨_, _, e1, .inr ⟨rfl, c, (hIx c).putObj _ hix (by omega) e3 rfl, e4, e5⟩⟩
  intro e a3 W3 hp;cases e with
  | normal =>
   obtain ⟨hk, hkp, hi3⟩ := hp;obtain ⟨st, e1, e2, e3, e4, e5⟩ := ended none W3 hk;subst e2;exact ⟨_, _, e1, .inl ⟨rfl, ⟨hI.putObj _ hi3 (by omega) e3 rfl, e4, e5⟩, hKt (hKt hK2 hkp) (hKb _ _ _ _ (by omega) e3 rfl rfl)⟩⟩
  | ret => exact off _ W3 hp.1 hp.2
  | exit id => exact off _ W3 hp.1 hp.2
  | goto t => exact off _ W3 hp.1 hp.2
  | panic ch => exact hp.elim
  | outgrown => exact hp.elim
 ·
  rintro e W2 ⟨⟨v, rfl⟩, ⟨xs, hS, hi, hr, hd⟩ | ⟨pre, hSp, c, hi, hr, hd⟩⟩
  ·exact ⟨none, _, run_endLoop (P := P) hr (by simp [rec0]), hb ▸ hdone b xs _ hbB hS (hI.putObj _ hi (by omega) hr rfl) ((World.putObj_heap_other (by omega)).trans hd)⟩
  ·exact ⟨some c, _, run_endLoop (P := P) hr (by simp [rec0]), hstop b c pre _ hbB hSp ((hIx c).putObj _ hi (by omega) hr rfl) ((World.putObj_heap_other (by omega)).trans hd)⟩

def Marks (B : Nat) (W : World) : List Deferred -> Prop
 | [] => True
 | d :: ds => (∃ D, B <= D /\ d = { target := .collected D, args := #[] } /\ W.heap[D]? = some (.deferred (some [])) /\ ∀ d' ∈ ds, d' ≠ d) /\ Marks B W ds

theorem Marks.keep {B : Nat} {W W' : World} (hk : ∀ (D : Nat) o, B <= D -> W.heap[D]? = some o -> o.isCells = false -> W'.heap[D]? = some o) : ∀ {ds : List Deferred}, Marks B W ds -> Marks B W' ds
 | [], _ => trivial
 | _ :: _, ⟨⟨D, h1, h2, h3, h4⟩, h⟩ => ⟨⟨D, h1, h2, hk D _ h1 h3 rfl, h4⟩, Marks.keep hk h⟩
theorem Marks.putObj {B D : Nat} {o : Obj} {W : World} : ∀ {ds : List Deferred}, Marks B W ds -> (∀ d ∈ ds, d ≠ { target := .collected D, args := #[] }) -> Marks B (W.putObj D o) ds
 | [], _, _ => trivial
 | d :: ds, ⟨⟨E, h1, h2, h3, h4⟩, h⟩, hn => ⟨⟨E, h1, h2, (World.putObj_heap_other (fun e => hn d (by simp) (by rw [h2]; subst e; rfl))).trans h3, h4⟩, Marks.putObj h (fun d hd => hn d (by simp [hd]))⟩
theorem Marks.lt {B : Nat} {W : World} : ∀ {ds : List Deferred}, Marks B W ds -> ∀ D, W.heap.size <= D -> ∀ d ∈ ds, d ≠ { target := .collected D, args := #[] }
 | [], _, _, _, _, h => by cases h
 | d :: ds, ⟨⟨E, h1, h2, h3, h4⟩, h⟩, D, hD, d', hd' => by
  rcases List.mem_cons.1 hd' with rfl | hd'
  ·rw [h2]
   intro e;simp at e;subst e;have := (Array.getElem?_eq_some_iff.1 h3).1;omega
  ·exact h.lt D hD d' hd'

theorem leaves_marks {fn : Func} {tmps : Array Value} {R : Ending -> World -> Prop} {B : Nat} : ∀ (ds : List Deferred) (W : World), Marks B W ds ->
  (∀ W', Below B W W' -> LeavesIn F n P fn tmps R [] .returning W') -> LeavesInM F n P fn tmps R ds .returning W
 | [], W, _, h => h W (Below.refl _ _)
 | d :: ds, W, ⟨⟨D, h1, h2, h3, h4⟩, hm⟩, h => by
  refine ⟨by simp, .inl ⟨D, _, by rw [h2], run_takeDeferred h3, ?_⟩⟩
  have hD := (Array.getElem?_eq_some_iff.1 h3).1
  have hb : Below B W (W.putObj D (.deferred none)) := (Below.refl B W).grown (grownBy_putObj' W D _) (by omega) (fun k e => by cases e; omega)
  exact leaves_marks ds _ (hm.putObj (fun d' hd' => by rw [<- h2]; exact h4 d' hd')) fun W' hW' => h W' (hb.trans hW')
end Go
namespace Go.Proofs
open Go.RowKit Go.Maps Go.Sort Go.Shelf Go.User

def Tryd.onG (Bn : Nat) (A B : World) : Prop := ∃ v, B = A.setCell ⟨Bn, 0, none⟩ v
def Tryd.onK (Bn : Nat) (A B : World) : Prop := B.heap[Bn]? = A.heap[Bn]? /\ B.heap[0]? = A.heap[0]?
def Tryd.cellN (W : World) (b : Nat) : Nat := match W.cell? ⟨b, 0, none⟩ with
 | some (.int _ x) => x.toNat
 | _ => 0
theorem Tryd.tab_heap {A B : World} (h : B.heap[0]? = A.heap[0]?) (hT : TabAt 0 Lib.deBruijn64tab A) : TabAt 0 Lib.deBruijn64tab B := fun j hj => by
 have := hT j hj
 unfold World.cell? at this ⊢
 simp only at this ⊢
 rw [h]
 exact this
theorem Tryd.and_pred (x : Nat) (hx : x < 18446744073709551616) (h0 : x ≠ 0) : bits BinOp.and IntKind.u64 (x : Int) ((x : Int) - 1) = ((x &&& (x - 1) : Nat) : Int) := by
 have e : ((x : Int) - 1) = ((x - 1 : Nat) : Int) := by omega
 rw [e, bits_and_u64_nat x _ hx (by omega)]

set_option maxRecDepth 100000 in
set_option maxHeartbeats 2000000 in
theorem Tryd.ones1_in (n : Nat) (hn : 1 <= n) (l Bn x0 : Nat) (hBn : Bn ≠ 0) (hx0 : x0 < 18446744073709551616) (J Jx : List Int -> World -> Prop) (hJ : AbX (Tryd.onG Bn) J)
  (hY : ∀ pre x W1, J pre W1 -> pre ++ [x] <+: onesI x0 -> YieldAt Fence.wide (n - 1) Tryd.prog l #[.int .i64 x] W1 fun e W' =>
   (e = .returned (.bool true) /\ J (pre ++ [x]) W' /\ Tryd.onK Bn W1 W') ∨ (e = .returned (.bool false) /\ Jx (pre ++ [x]) W'))
  (W : World) (hB : Boxed W Bn 38 (.int .u64 x0)) (hT : TabAt 0 Lib.deBruijn64tab W) (h0 : J [] W) :
  CallsIn Fence.wide n Tryd.prog 31 #[.func (.yield l) #[] #[], .pointer (some ⟨Bn, 0, none⟩)] W fun e W' => (∃ v, e = .returned v) /\
   ((∃ xs, xs = onesI x0 /\ J xs W') ∨ (∃ pre, pre <+: onesI x0 /\ Jx pre W')) := by
 refine callsIn_of_wp Tryd.func31 rfl trivial ?_ rfl
 simp only [Tryd.ntmps31, List.size_toArray, List.length_cons, List.length_nil, Nat.reduceAdd, Nat.reduceSub, Array.replicate_succ, Array.replicate_zero, List.push_toArray, List.append_toArray, List.nil_append, List.cons_append]
 gi_wp2
 gi_loopw [3] (fun _ wr => ∃ (pre : List Int) (x : Nat), onesI x0 = pre ++ onesI x /\ x < 18446744073709551616 /\ Boxed wr Bn 38 (.int .u64 x) /\ TabAt 0 Lib.deBruijn64tab wr /\ J pre wr)
  (fun _ wr => Tryd.cellN wr Bn)
 case atStart =>
  exact ⟨[], x0, rfl, hx0, hB, hT, h0⟩
 case round =>
  obtain ⟨pre, x, hp, hx, hb, hTr, hJs⟩ := hrel;have hc := hb.cell;have hfz := hb.frozen;by_cases h0 : x = 0
  ·subst h0
   gi_wp2
   go_end0
   exact ⟨⟨_, rfl⟩, .inl ⟨pre, by rw [hp, onesI_zero, List.append_nil], hJs⟩⟩
  ·obtain ⟨e1, e2, e3⟩ := onesI_cons x hx h0
   have hne : ((x : Int) == 0) = false := by simp; omega
   have hne' : (x : Int) ≠ 0 := by omega
   obtain ⟨fn, tmps, assign, body, hy, hR⟩ := hY pre (Lib.ctz 64 x : Int) wr hJs ⟨onesI (x &&& (x - 1)), by rw [hp, e1]; simp⟩
   have hf24 : Fence.wide.fn 24 := trivial
   have hand := Tryd.and_pred x hx h0
   gi_wp2_with (gi_at_call 24; refine (callsIn_wide.2 (Tryd.tz64 x hx wr hTr)).mono ?_; rintro e w' ⟨rfl, rfl⟩)
   refine hR.mono ?_
   rintro e W3 (⟨rfl, hJ3, hk3, hk4⟩ | ⟨rfl, hJx3⟩)
   ·have hb3 : Boxed W3 Bn 38 (.int .u64 x) := by unfold Boxed; rw [hk3]; exact hb
    have hT3 := Tryd.tab_heap hk4 hTr
    have hc3 := hb3.cell
    have hf3 := hb3.frozen
    gi_wp2
    go_roundw
    case rel =>
     refine ⟨pre ++ [(Lib.ctz 64 x : Int)], x &&& (x - 1), by rw [hp, e1]; simp, by omega, hb3.set _, ?_, hJ _ _ _ hJ3 ⟨_, rfl⟩⟩
     exact Tryd.tab_heap (Below.heap_setCell _ _ _ 0 (by simpa using hBn.symm)) hT3
    case measure =>
     have q1 : ∀ A : World, A.cell? ⟨Bn, 0, none⟩ = some (.int .u64 x) -> Tryd.cellN A Bn = x := by intro A hA; unfold Tryd.cellN; rw [hA]; simp
     have q2 := (hb3.set (.int .u64 ((x &&& (x - 1) : Nat) : Int))).cell
     have q3 : Tryd.cellN (W3.setCell ⟨Bn, 0, none⟩ (.int .u64 ((x &&& (x - 1) : Nat) : Int))) Bn = x &&& (x - 1) := by unfold Tryd.cellN; rw [q2]; simp
     rw [q3, q1 _ hc];exact e3
   ·gi_wp2
    refine bodyPost_ret (results_none rfl _ _ _) rfl ?_
    exact ⟨⟨_, rfl⟩, .inr ⟨pre ++ [(Lib.ctz 64 x : Int)], ⟨onesI (x &&& (x - 1)), by rw [hp, e1]; simp⟩, hJx3⟩⟩
theorem Tryd.ones_seq (n Bn z : Nat) (hn : 1 <= n) (hBn : Bn ≠ 0) (hz : z < 18446744073709551616) (w : World) (h0 : 0 < w.heap.size) (hB : Boxed w Bn 38 (.int .u64 z)) (hT : TabAt 0 Lib.deBruijn64tab w) :
  SeqX Fence.wide n Tryd.prog 31 #[.pointer (some ⟨Bn, 0, none⟩)] (fun x : Int => #[.int .i64 x]) (Tryd.onG Bn) (Tryd.onK Bn) (fun pre x => pre ++ [x] <+: onesI z) (fun xs => xs = onesI z) (fun pre => pre <+: onesI z) w :=
 fun l J Jx W hW hJ _ hY hJ0 => Tryd.ones1_in n hn l Bn z hBn hz J Jx hJ hY W (by unfold Boxed; rw [hW.block Bn hB.lt]; exact hB) (Tryd.tab_heap (hW.block 0 h0) hT) hJ0
end Go.Proofs
namespace Go.Proofs
open Go.RowKit Go.Maps Go.Sort Go.Shelf Go.User
set_option maxHeartbeats 1000000 in
theorem Tryd.ones64 (x : Nat) (hx : x < 18446744073709551616) (w : World) : Calls Tryd.prog 22 #[.int .u64 x] w fun e w' => e = .returned (.int .i64 ((onesN 64 x).length : Int)) /\ w' = w := by
 go_enter Tryd.func22, Tryd.ntmps22
 go_wp2
 go_ret
 refine ⟨?_, rfl⟩
 have hA : ∀ z : Int, IntKind.u64.wrap (bits BinOp.and IntKind.u64 (z / 2) 6148914691236517205 + bits BinOp.and IntKind.u64 z 6148914691236517205) = cA 6148914691236517205 1 z := fun z => rfl
 have hA2 : ∀ z : Int, IntKind.u64.wrap (bits BinOp.and IntKind.u64 (z / 4) 3689348814741910323 + bits BinOp.and IntKind.u64 z 3689348814741910323) = cA 3689348814741910323 2 z := fun z => rfl
 have hB : ∀ z : Int, bits BinOp.and IntKind.u64 (IntKind.u64.wrap (z / 16 + z)) 1085102592571150095 = cB z := fun z => rfl
 have hC1 : ∀ z : Int, IntKind.u64.wrap (z + z / 256) = cC 8 z := fun z => rfl
 have hC2 : ∀ z : Int, IntKind.u64.wrap (z + z / 65536) = cC 16 z := fun z => rfl
 have hC3 : ∀ z : Int, IntKind.u64.wrap (z + z / 4294967296) = cC 32 z := fun z => rfl
 have hD : ∀ z : Int, bits BinOp.and IntKind.i64 (wrap64 z) 127 = cD z := fun z => by
  have : wrap64 z = IntKind.i64.wrap z := by
   simp [wrap64, IntKind.wrap, IntKind.signed, IntKind.bits]
   split <;> omega
  rw [this]
  rfl
 simp only [hA, hA2, hB, hC1, hC2, hC3, hD]
 rw [<- ones_eq x hx]
 rfl
end Go.Proofs
namespace Go.Proofs
open Go.RowKit Go.Maps Go.Sort Go.Shelf Go.User
theorem Tryd.segs_owned (v : Value) (base : Nat) (zs : List Int) (W : World) (hn : zs.length <= 1000000) (hz : ∀ z ∈ zs, -9223372036854775808 <= z /\ z <= 9223372036854775807)
  (h : W.ownsRow base 3 1 v zs.length (zs.map (Value.int .i64))) :
  Calls Tryd.prog 14 #[v] W fun e w' => ∃ ao cap, e = .returned (.slice ao (segs zs).length cap) /\ Below W.heap.size W w' := by
 have fin : ∀ (w' : World) (v : Value) (ss : List Int), ss.Perm (Go.intKeys (Tryd.D zs zs.length)) ->
   w'.ownsRow W.heap.size 3 1 v ss.length ((ss.mergeSort (fun x y => decide (x <= y))).map encZ) -> ∃ ao cap, v = .slice ao (segs zs).length cap := by
  intro w' v ss hS hrow;have e := Tryd.sort_segs hS;have hl : ss.length = (segs zs).length := by rw [<- e, List.length_mergeSort]
  rw [hl] at hrow;rcases hrow.2 with ⟨rfl, h0⟩ | ⟨g, cap, cur, rfl, _⟩
  ·exact ⟨none, 0, by rw [h0]⟩
  ·exact ⟨_, _, rfl⟩
 rcases h.2 with ⟨rfl, h0⟩ | ⟨g, cap, cur, rfl, hg, hcell, hc1, hc2, hc3, hc4⟩
 ·have : zs = [] := List.eq_nil_of_length_eq_zero h0
  subst this;refine (Tryd.segs_none none 0 W).mono ?_;rintro e w' ⟨v, ss, rfl, hS, hrow, _, hb⟩;obtain ⟨ao, cap, rfl⟩ := fin w' v ss hS hrow;exact ⟨ao, cap, rfl, hb⟩
 ·refine (Tryd.segs_any g 0 cap zs W (by omega) (Array.getElem?_eq_some_iff.1 hcell).1 (fun j hj => ?_) hz).mono ?_
  ·have e1 : (cur.toList.take (zs.length * 1))[j]? = some (.int .i64 zs[j]) := by rw [hc4, List.getElem?_map, List.getElem?_eq_getElem hj]; rfl
   rw [List.getElem?_take_of_lt (by omega)] at e1;simp [World.cell?, hcell]
   simpa using e1
  ·rintro e w' ⟨v, ss, rfl, hS, hrow, _, hb⟩
   obtain ⟨ao, cap, rfl⟩ := fin w' v ss hS hrow;exact ⟨ao, cap, rfl, hb⟩
theorem Tryd.info3 : (Tryd.prog.info? 3).map (fun i => (i.zero, i.size, i.bytes)) = some (some (.int .i64 0), 1, 8) := by kernel_rfl
end Go.Proofs
namespace Go.Proofs
attribute [local go_sem] Oper.semAt_some
open Go.RowKit Go.Maps Go.Sort Go.Shelf Go.User
theorem Tryd.ones_in (n : Nat) (z : Int) (W : World) : CallsIn Fence.wide n Tryd.prog 23 #[.int .u64 z] W fun e w' => e = .returned (.func (.func 31) #[] #[.pointer (some ⟨W.heap.size, 0, none⟩)]) /\ w' = W.alloc (.cells #[.int .u64 z] 38) := by
 refine callsIn_of_wp Tryd.func23 rfl trivial ?_ rfl
 simp only [Tryd.ntmps23, List.size_toArray, List.length_cons, List.length_nil, Nat.reduceAdd, Nat.reduceSub, Array.replicate_succ, Array.replicate_zero, List.push_toArray, List.append_toArray, List.nil_append, List.cons_append]
 gi_wp2
 go_ret
 exact ⟨rfl, rfl⟩
theorem Tryd.someBox_own (B : Nat) (t : TypeId) : Own (fun (_ : List Int) W => ∃ y, Boxed W B t y) := by
 rintro s X Y row ⟨y, h⟩ hg hrow
 exact ⟨y, boxed_own B t (fun _ : Unit => y) () X Y row h hg hrow⟩
theorem Tryd.pre_facts {pre : List Int} {x : Int} {z : Nat} (h : pre ++ [x] <+: onesI z) : 0 <= x /\ x < 64 /\ pre.length + 1 <= 64 := by
 obtain ⟨r, hr⟩ := h
 have hx : x ∈ onesI z := by rw [<- hr]; simp
 obtain ⟨i, h1, _, rfl⟩ := mem_onesI.1 hx
 have hl : (onesI z).length <= 64 := by rw [onesI_len]; exact Nat.le_trans (List.length_filter_le _ _) (by simp)
 rw [<- hr] at hl
 simp at hl
 omega
def Tryd.wds (s : Int) (c : Nat) (pre : List Int) : List Int := pre.map fun i => (c : Int) + s * i
theorem Tryd.set_low (set : Nat) (n : Int) (hx : set < 18446744073709551616) :
  IntKind.u64.wrap ((set : Int) * 2 ^ (64 - min (max n 0) 64).toNat) / 2 ^ (64 - min (max n 0) 64).toNat = ((set % 2 ^ (min (max n 0) 64).toNat : Nat) : Int) := by
 obtain ⟨L, hL⟩ : ∃ L : Nat, L = (min (max n 0) 64).toNat := ⟨_, rfl⟩
 have hL64 : L <= 64 := by omega
 have e1 : (64 - min (max n 0) 64).toNat = 64 - L := by omega
 rw [e1, <- hL, IntKind.wrap_u64]
 obtain ⟨p, hp⟩ : ∃ p : Nat, p = 2 ^ (64 - L) := ⟨_, rfl⟩
 have hp2 : (2 : Int) ^ (64 - L) = (p : Int) := by rw [hp]; push_cast; rfl
 have hp0 : 0 < p := by rw [hp]; exact Nat.two_pow_pos _
 have e3 : 2 ^ L * p = 18446744073709551616 := by rw [hp, <- Nat.pow_add, show L + (64 - L) = 64 by omega]
 rw [hp2]
 have e4 : set * p % 18446744073709551616 / p = set % 2 ^ L := by rw [<- e3, Nat.mul_mod_mul_right, Nat.mul_div_cancel _ hp0]
 rw [<- e4]
 rw [<- Int.natCast_mul]
 rfl
set_option maxHeartbeats 2000000 in
set_option maxRecDepth 100000 in
set_option pp.maxSteps 1000000 in
set_option pp.deepTerms true in
theorem Tryd.static_loop (R : Nat) (it lc gr lo hi st n : Int) (set : Nat) (hx : set < 18446744073709551616) (w : World) (hT : TabAt 0 Lib.deBruijn64tab w) (h0 : 0 < w.heap.size) (hst : st = 0)
  (hnz : (onesN 64 (set % 2 ^ (min (max n 0) 64).toNat)).length ≠ 0) (hs1 : -4398046511104 <= it + lc) (hs2 : it + lc <= 4398046511104) (hR : R = Sp.maxSegs (it + lc) (onesI (set % 2 ^ (min (max n 0) 64).toNat)) 16) (hs : wrap64 (it + lc) = it + lc) :
  Calls Tryd.prog 11 #[.agg #[.bool false, .int .i64 it, .int .i64 lc, .int .i64 gr, .int .i64 lo, .int .i64 hi, .int .i64 st], .int .i64 n, .int .u64 set] w fun e w' => e = .returned (.int .i64 (R : Int)) /\ Below w.heap.size w w' := by
 refine (callsIn_wide (n := 6)).1 ?_
 refine callsIn_of_wp_marks Tryd.func11 rfl trivial ?_ rfl
 simp only [Tryd.ntmps11, List.size_toArray, List.length_cons, List.length_nil, Nat.reduceAdd, Nat.reduceSub, Array.replicate_succ, Array.replicate_zero, List.push_toArray, List.append_toArray, List.nil_append, List.cons_append]
 have hf22 : Fence.wide.fn 22 := trivial
 have hlow := Tryd.set_low set n hx
 obtain ⟨x, hxx⟩ : ∃ x, x = set % 2 ^ (min (max n 0) 64).toNat := ⟨_, rfl⟩
 rw [<- hxx] at hlow hnz
 have hx2 : x < 18446744073709551616 := by rw [hxx]; exact Nat.lt_of_le_of_lt (Nat.mod_le _ _) hx
 obtain ⟨N, hN⟩ : ∃ N, N = (onesN 64 x).length := ⟨_, rfl⟩
 rw [<- hN] at hnz
 have c22 : ∀ W, CallsIn Fence.wide 5 Tryd.prog 22 #[.int .u64 (IntKind.u64.wrap ((set : Int) * 2 ^ (64 - min (max n 0) 64).toNat) / 2 ^ (64 - min (max n 0) 64).toNat)] W fun e w' => e = .returned (.int .i64 (N : Int)) /\ w' = W := by
  intro W;rw [hlow, hN];exact callsIn_wide.2 (Tryd.ones64 x hx2 W)
 subst hst
 have hN0 : ((N : Int) == 0) = false := by simp; omega
 have hE : ∃ z : Nat, z = x /\ z < 18446744073709551616 /\ (onesN 64 z).length ≠ 0 /\ R = Sp.maxSegs (it + lc) (onesI z) 16 /\ IntKind.u64.wrap ((set : Int) * 2 ^ (64 - min (max n 0) 64).toNat) / 2 ^ (64 - min (max n 0) 64).toNat = (z : Int) := ⟨x, rfl, hx2, hN ▸ hnz, hxx ▸ hR, hlow⟩
 clear hlow hxx hN hx hx2 hnz hR
 gi_wp2
 refine (c22 _).mono ?_
 rintro e w' ⟨rfl, rfl⟩
 dsimp only
 clear c22
 obtain ⟨z, rfl, hzlt, hzn, hR, hE⟩ := hE
 simp only [hE]
 clear hE
 gi_wp2
 have hcalls23 := @Tryd.ones_in
 have hf23 : Fence.wide.fn 23 := trivial
 have hf14 : Fence.wide.fn 14 := trivial
 refine wpIn_loop (fun a wr => ∃ (c most : Nat) (ds : List Deferred) (u11 u12 u13 u46 u47 u48 u49 u50 u51 u52 u53 u54 u55 u56 u57 u58 u59 u60 u61 u62 u63 u64 : Value), a = { tmps := #[Value.agg #[Value.bool false, Value.int IntKind.i64 it, Value.int IntKind.i64 lc, Value.int IntKind.i64 gr, Value.int IntKind.i64 lo, Value.int IntKind.i64 hi, Value.int IntKind.i64 0], Value.int IntKind.i64 (min (max n 0) 64), Value.int IntKind.u64 (set : Int), Value.pointer (some { block := w.heap.size, off := 0 }), undef, undef, Value.int IntKind.i64 0, Value.int IntKind.u64 (z : Int), Value.int IntKind.i64 (N : Int), Value.pointer (some { block := w.heap.size + 1, off := 0 }), Value.int IntKind.i64 (most : Int), u11, u12, u13, undef, undef, undef, Value.int IntKind.i64 n, Value.int IntKind.i64 (max n 0), Value.int IntKind.i64 (min (max n 0) 64), Value.int IntKind.u64 (set : Int), Value.int IntKind.i64 (min (max n 0) 64), Value.int IntKind.i64 (64 - min (max n 0) 64), Value.int IntKind.u64 (IntKind.u64.wrap ((set : Int) * 2 ^ (64 - min (max n 0) 64).toNat)), Value.int IntKind.i64 (min (max n 0) 64), Value.int IntKind.i64 (64 - min (max n 0) 64), Value.int IntKind.u64 (z : Int), Value.int IntKind.u64 (z : Int), Value.int IntKind.i64 (N : Int), Value.int IntKind.i64 (N : Int), Value.bool false, Value.bool false, Value.pointer (some { block := w.heap.size, off := 0 }), Value.bool false, Value.bool false, undef, Value.pointer (some { block := w.heap.size, off := 1 }), Value.int IntKind.i64 it, Value.pointer (some { block := w.heap.size, off := 2 }), Value.int IntKind.i64 lc, Value.int IntKind.i64 (it + lc), Value.pointer (some { block := w.heap.size, off := 4 }), Value.pointer (some { block := w.heap.size, off := 6 }), Value.int IntKind.i64 0, Value.bool true, Value.int IntKind.i64 (c : Int), u46, u47, u48, u49, u50, u51, u52, u53, u54, u55, u56, u57, u58, u59, u60, u61, u62, u63, u64, undef, undef, undef, undef, undef, undef, undef, undef, undef, undef, undef, undef, undef, undef, undef, undef, undef, undef, undef, undef, undef, undef, undef, undef, undef, undef, undef, undef], defers := ds } /\
   c <= 16 /\ most = Sp.maxSegs (it + lc) (onesI z) c /\ Boxed wr (w.heap.size + 1) 2 (.int .i64 (it + lc)) /\ TabAt 0 Lib.deBruijn64tab wr /\ Below w.heap.size w wr /\ Marks (w.heap.size + 2) wr ds)
  (fun a _ => 16 - (intOf (a.tmps.getD 45 undef)).toNat) ?start ?round
 case start =>
  refine ⟨0, 0, [], undef, undef, undef, undef, undef, undef, undef, undef, undef, undef, undef, undef, undef, undef, undef, undef, undef, undef, undef, undef, undef, undef, rfl, by omega, rfl, ?_, ?_, ?_, trivial⟩
  ·have := Boxed.new (w.alloc (.cells #[.bool false, .int .i64 it, .int .i64 lc, .int .i64 gr, .int .i64 lo, .int .i64 hi, .int .i64 0] 35)) 2 (.int .i64 (it + lc))
   rw [World.size_alloc] at this;exact this
  ·exact Tryd.tab_heap ((((Below.refl w.heap.size w).alloc (Nat.le_refl _) _).alloc (by simp) _).block 0 h0) hT
  ·exact ((Below.refl _ w).alloc (Nat.le_refl _) _).alloc (by simp) _
 case round =>
  rintro _ wr ⟨c, most, ds, u11, u12, u13, u46, u47, u48, u49, u50, u51, u52, u53, u54, u55, u56, u57, u58, u59, u60, u61, u62, u63, u64, rfl, hc16, hmost, hbx, hTr, hbl, hmk⟩
  have hsz := hbl.size
  by_cases hc : c < 16
  ·have hc' : ((c : Int) < 16) := by omega
   gi_wp2_with (gi_at_call 23; refine (hcalls23 _ _ _).mono ?_; clear hcalls23; rintro e w' ⟨rfl, rfl⟩)
   have hc64 : c <= 64 := by omega
   obtain ⟨i0, hii, hz0, hz1, hz2⟩ := info_parts Tryd.info3;obtain ⟨L0, hL0⟩ : ∃ L0, L0 = wr.heap.size := ⟨_, rfl⟩;have bC := Boxed.new wr 2 (.int .i64 (c : Int));have bL := Boxed.new (wr.alloc (.cells #[.int .i64 (c : Int)] 2)) 22 (.slice none 0 0);have bS := Boxed.new ((wr.alloc (.cells #[.int .i64 (c : Int)] 2)).alloc (.cells #[.slice none 0 0] 22)) 38 (.int .u64 (z : Int));rw [World.size_alloc] at bL;rw [World.size_alloc, World.size_alloc] at bS;obtain ⟨W0, hW0⟩ : ∃ W0, W0 = ((wr.alloc (.cells #[.int .i64 (c : Int)] 2)).alloc (.cells #[.slice none 0 0] 22)).alloc (.cells #[.int .u64 (z : Int)] 38) := ⟨_, rfl⟩;have hsz0 : W0.heap.size = wr.heap.size + 3 := by rw [hW0]; simp
   have hB0 : Below wr.heap.size wr W0 := by rw [hW0]; exact (((Below.refl _ wr).alloc (Nat.le_refl _) _).alloc (by simp) _).alloc (by simp; omega) _
   have hT0 : TabAt 0 Lib.deBruijn64tab W0 := Tryd.tab_heap (hB0.block 0 (by omega)) hTr
   have bC0 : Boxed W0 wr.heap.size 2 (.int .i64 (c : Int)) := by rw [hW0]; exact (bC.alloc _).alloc _
   have bL0 : Boxed W0 (wr.heap.size + 1) 22 (.slice none 0 0) := by rw [hW0]; exact bL.alloc _
   have bS0 : Boxed W0 (wr.heap.size + 1 + 1) 38 (.int .u64 (z : Int)) := by rw [hW0]; exact bS
   rw [<- hW0];clear hW0 bC bL bS;have hseq := Tryd.ones_seq 5 (wr.heap.size + 1 + 1) z (by omega) (by omega) hzlt W0 (by omega) bS0 hT0;refine wpIn_rangeX (F := Fence.wide) rfl (by omega) (gf := 31) (lb := #[.pointer (some ⟨wr.heap.size + 1 + 1, 0, none⟩)]) rfl trivial (enters_of Tryd.func31 (by kernel_rfl) rfl) hseq ?hG ?hKt ?hKb (fun _ => rfl)
    (fun pre W => (∃ v, Boxed W (wr.heap.size + 1) 22 v /\ W.ownsRow wr.heap.size 3 1 v (Tryd.wds (it + lc) c pre).length ((Tryd.wds (it + lc) c pre).map (Value.int .i64)) /\ True) /\ (Boxed W wr.heap.size 2 (.int .i64 (c : Int)) /\ (∃ y, Boxed W (wr.heap.size + 1 + 1) 38 y) /\ Below wr.heap.size wr W))
    (fun _ _ _ => False) ?hI ?hIx ?hIG ?hIxG ?h0
    (fun x => { tmps := #[Value.agg #[Value.bool false, Value.int IntKind.i64 it, Value.int IntKind.i64 lc, Value.int IntKind.i64 gr, Value.int IntKind.i64 lo, Value.int IntKind.i64 hi, Value.int IntKind.i64 0], Value.int IntKind.i64 (min (max n 0) 64), Value.int IntKind.u64 (set : Int), Value.pointer (some { block := w.heap.size, off := 0 }), undef, undef, Value.int IntKind.i64 0, Value.int IntKind.u64 (z : Int), Value.int IntKind.i64 (N : Int), Value.pointer (some { block := w.heap.size + 1, off := 0 }), Value.int IntKind.i64 (Sp.maxSegs (it + lc) (onesI z) c : Int), Value.pointer (some { block := wr.heap.size, off := 0 }), Value.pointer (some { block := wr.heap.size + 1, off := 0 }), Value.int IntKind.i64 x, undef, undef, undef, Value.int IntKind.i64 n, Value.int IntKind.i64 (max n 0), Value.int IntKind.i64 (min (max n 0) 64), Value.int IntKind.u64 (set : Int), Value.int IntKind.i64 (min (max n 0) 64), Value.int IntKind.i64 (64 - min (max n 0) 64), Value.int IntKind.u64 (IntKind.u64.wrap ((set : Int) * 2 ^ (64 - min (max n 0) 64).toNat)), Value.int IntKind.i64 (min (max n 0) 64), Value.int IntKind.i64 (64 - min (max n 0) 64), Value.int IntKind.u64 (z : Int), Value.int IntKind.u64 (z : Int), Value.int IntKind.i64 (N : Int), Value.int IntKind.i64 (N : Int), Value.bool false, Value.bool false, Value.pointer (some { block := w.heap.size, off := 0 }), Value.bool false, Value.bool false, undef, Value.pointer (some { block := w.heap.size, off := 1 }), Value.int IntKind.i64 it, Value.pointer (some { block := w.heap.size, off := 2 }), Value.int IntKind.i64 lc, Value.int IntKind.i64 (it + lc), Value.pointer (some { block := w.heap.size, off := 4 }), Value.pointer (some { block := w.heap.size, off := 6 }), Value.int IntKind.i64 0, Value.bool true, Value.int IntKind.i64 (c : Int), Value.bool true, Value.int IntKind.i64 (c : Int), Value.int IntKind.u64 (z : Int), Value.func (Fn.func 31) #[] #[Value.pointer (some { block := wr.heap.size + 1 + 1, off := 0 })], Value.int IntKind.i64 x, u51, u52, u53, u54, u55, u56, u57, u58, u59, u60, u61, u62, u63, u64, undef, undef, undef, undef, undef, undef, undef, undef, undef, undef, undef, undef, undef, undef, undef, undef, undef, undef, undef, undef, undef, undef, undef, undef, undef, undef, undef, undef], defers := [] }) ?assign ?body ?done ?stop
   case hG => rintro A B ⟨v, rfl⟩; exact (KeepsOthers.setCell _ _ _).from _
   case hKt => rintro A B C ⟨h1, h2⟩ ⟨h3, h4⟩; exact ⟨h3.trans h1, h4.trans h2⟩
   case hKb => intro W l o o' hl _ _ _; exact ⟨World.putObj_heap_other (by omega), World.putObj_heap_other (by omega)⟩
   case hI => exact OwnFrom.and (Own.from (holdsRow_own wr.heap.size (wr.heap.size + 1) 22 3 1 (fun pre => (Tryd.wds (it + lc) c pre).length) (fun pre => (Tryd.wds (it + lc) c pre).map (Value.int .i64)) (fun _ _ => True)) _) (OwnFrom.and (Own.from (boxed_own _ _ _) _) (OwnFrom.and (Own.from (Tryd.someBox_own _ _) _) (ownFrom_below (by omega) (by omega))))
   case hIx => exact fun _ _ _ _ _ hs _ _ => hs
   case hIG =>
    rintro pre A B ⟨⟨v, hv, hrow, -⟩, hcb, ⟨y, hob⟩, hBl⟩ ⟨u, rfl⟩
    have hg := grownBy_setCell' A (wr.heap.size + 1 + 1) u
    exact ⟨⟨v, hv.kept hg (by simp), hrow.kept hg (.inr (hob.not_row (by decide) hrow).symm), trivial⟩, hcb.kept hg (by simp; omega), ⟨u, hob.set u⟩, hBl.setCell (p := ⟨wr.heap.size + 1 + 1, 0, none⟩) (by simp; omega) u⟩
   case hIxG => exact fun _ _ _ _ h _ => h
   case h0 => exact ⟨⟨_, bL0, World.ownsRow_nil _ _ _ _, trivial⟩, bC0, ⟨_, bS0⟩, hB0⟩
   case assign =>
    intro l x W k hk
    gi_wp2
    exact hk
   case body =>
    rintro l pre x W ⟨⟨v, hv, hrow, -⟩, hcb, ⟨y, hob⟩, hB⟩ hX
    have hlc := hv.cell
    have hcc := hcb.cell
    have hsb : Boxed W (w.heap.size + 1) 2 (.int .i64 (it + lc)) := by unfold Boxed; rw [hB.block _ hbx.lt]; exact hbx
    have hsc := hsb.cell
    obtain ⟨hx0, hx1, hpl⟩ := Tryd.pre_facts hX;obtain ⟨m1, m2⟩ := mul_bound hs1 hs2 hx0 (by omega);have hw1 : wrap64 ((it + lc) * x) = (it + lc) * x := by unfold wrap64; omega
    have hw2 : wrap64 ((c : Int) + (it + lc) * x) = (c : Int) + (it + lc) * x := by unfold wrap64; omega
    have hwl : (Tryd.wds (it + lc) c pre).length = pre.length := by simp [Tryd.wds]
    have hwx : (Tryd.wds (it + lc) c (pre ++ [x])) = Tryd.wds (it + lc) c pre ++ [(c : Int) + (it + lc) * x] := by simp [Tryd.wds]
    gi_wp2_with (gi_at_builtin; refine wpListIn_append_own _ rfl _ _ 22 rfl wr.heap.size 3 i0 (.int .i64 0) 1 8 Tryd.underlying22 hii hz0 hz1 hz2 rfl (by decide) _ _ _ rfl (hrow.alloc _) ⟨W.heap.size, 0, none⟩ 1 1 [.int .i64 ((c : Int) + (it + lc) * x)] rfl rfl (cell_one_new _ _ _) (by simp [Value.oneCell']) (by unfold maxLen; omega) (by omega) (by have := hB.size; simp; omega) ?_; intro v' w1 hown' hgrow _; obtain ⟨g', cap', rfl⟩ := ownsRow_succ hown'; obtain ⟨hv1, hv2, hr2, hk2, hb2⟩ := hv.appended (by decide) hrow hB.size (by omega) hown' hgrow; have hc1 := hv1.cell; have hf1 := hv1.frozen)
    have other : ∀ (B : Nat) (t : TypeId) (u : Value), Boxed W B t u -> t ≠ 3 -> B ≠ wr.heap.size + 1 -> Boxed (w1.setCell ⟨wr.heap.size + 1, 0, none⟩ (.slice (some ⟨g', 0, none⟩) ((Tryd.wds (it + lc) c pre).length + 1) cap')) B t u :=
     fun B t u h ht hne => ((h.alloc _).kept hgrow (h.not_row ht hrow)).other hne _
    have oS := other _ _ _ hob (by decide) (by omega)
    have oC := other _ _ _ hcb (by decide) (by omega)
    rw [hwl] at hk2 hv2 hb2 hr2 oS oC;refine ⟨hk2.from _, ⟨oS.trans hob.symm, hb2.block 0 (by omega)⟩, ⟨_, hv2, ?_, trivial⟩, oC, ⟨_, oS⟩, hB.trans hb2⟩;rw [hwx]
    simpa [hwl] using hr2
   case done =>
    rintro D xs W hD rfl ⟨⟨v, hv, hrow, -⟩, hcb, hob, hB⟩ hK
    have hwl : (Tryd.wds (it + lc) c (onesI z)).length = (onesN 64 z).length := by simp [Tryd.wds, onesI_len]
    have h64 : (onesN 64 z).length <= 64 := Nat.le_trans (List.length_filter_le _ _) (by simp)
    have c14 := Tryd.segs_owned v wr.heap.size (Tryd.wds (it + lc) c (onesI z)) W (by omega) (fun y hy => by
     obtain ⟨x, hx, rfl⟩ := List.mem_map.1 hy;obtain ⟨i, h1, _, rfl⟩ := mem_onesI.1 hx;obtain ⟨m1, m2⟩ := mul_bound (x := (i : Int)) hs1 hs2 (by omega) (by omega);omega) hrow
    have hsg : segs (Tryd.wds (it + lc) c (onesI z)) = Sp.segsAt (it + lc) c (onesI z) := rfl
    rw [hsg] at c14;obtain ⟨k, hk⟩ : ∃ k, (onesN 64 z).length = k + 1 := ⟨(onesN 64 z).length - 1, by omega⟩
    rw [hwl, hk] at hrow;obtain ⟨g, cap, rfl⟩ := ownsRow_succ hrow;have hlc := hv.cell;clear hwl hk hsg
    gi_wp2_with (gi_at_call 14; refine (callsIn_wide.2 c14).mono ?_; rintro e w' ⟨ao, cap', rfl, hbw⟩)
    have hmx : max (Sp.maxSegs (it + lc) (onesI z) c : Int) ((Sp.segsAt (it + lc) (c : Int) (onesI z)).length : Int) = (Sp.maxSegs (it + lc) (onesI z) (c + 1) : Nat) := by
     show _ = ((max (Sp.maxSegs (it + lc) (onesI z) c) (Sp.segsAt (it + lc) (c : Int) (onesI z)).length : Nat) : Int)
     omega
    have hc1 : (c : Int) + 1 = ((c + 1 : Nat) : Int) := by omega
    rw [hmx, hc1];have hWs := hB.size;have hblk : ∀ j, j < wr.heap.size -> w'.heap[j]? = wr.heap[j]? := fun j hj => (hbw.block j (by omega)).trans (hB.block j hj)
    refine ⟨⟨c + 1, Sp.maxSegs (it + lc) (onesI z) (c + 1), { target := .collected D, args := #[] } :: ds, _, _, _, _, _, _, _, _, _, _, _, _, _, _, _, _, _, _, _, _, _, _, rfl, by omega, rfl, ?_, ?_, ?_, ?_, ?_⟩, ?_⟩
    ·unfold Boxed; rw [hblk _ hbx.lt]; exact hbx
    ·exact Tryd.tab_heap (hblk 0 (by omega)) hTr
    ·exact hbl.trans ((hB.mono hsz).trans (hbw.mono (by omega)))
    ·have hDlt := (Array.getElem?_eq_some_iff.1 hK).1
     exact ⟨D, by omega, rfl, (hbw.block D hDlt).trans hK, fun d' hd' => hmk.lt D (by omega) d' hd'⟩
    ·exact hmk.keep fun E o _ hE _ => (hblk E (Array.getElem?_eq_some_iff.1 hE).1).trans hE
    ·simp [intOf]
     omega
   case stop => rintro D cc pre W _ _ h _; exact h.elim
  ·obtain rfl : c = 16 := by omega
   gi_wp2
   refine leaves_marks ds _ hmk fun W' hW' => ?_
   exact ⟨_, results_tmp rfl _ _ _, by rw [hR]; rfl, hbl.trans (hW'.mono (by omega))⟩
end Go.Proofs
namespace Go.Proofs
open Go.RowKit Go.Maps Go.Sort Go.Shelf Go.User
set_option maxHeartbeats 2000000 in
set_option maxRecDepth 100000 in
theorem Tryd.static_few (any : Bool) (it lc gr lo hi st n : Int) (set : Nat) (hx : set < 18446744073709551616) (w : World)
  (hnz : any = true ∨ (onesN 64 (set % 2 ^ (min (max n 0) 64).toNat)).length = 0) :
  Calls Tryd.prog 11 #[.agg #[.bool any, .int .i64 it, .int .i64 lc, .int .i64 gr, .int .i64 lo, .int .i64 hi, .int .i64 st], .int .i64 n, .int .u64 set] w fun e w' => e = .returned (.int .i64 ((onesN 64 (set % 2 ^ (min (max n 0) 64).toNat)).length : Int)) /\ Below w.heap.size w w' := by
 refine (callsIn_wide (n := 6)).1 ?_
 refine callsIn_of_wp_marks Tryd.func11 rfl trivial ?_ rfl
 simp only [Tryd.ntmps11, List.size_toArray, List.length_cons, List.length_nil, Nat.reduceAdd, Nat.reduceSub, Array.replicate_succ, Array.replicate_zero, List.push_toArray, List.append_toArray, List.nil_append, List.cons_append]
 have hf22 : Fence.wide.fn 22 := trivial
 have hlow := Tryd.set_low set n hx
 obtain ⟨x, hxx⟩ : ∃ x, x = set % 2 ^ (min (max n 0) 64).toNat := ⟨_, rfl⟩
 rw [<- hxx] at hlow hnz ⊢
 have hx2 : x < 18446744073709551616 := by rw [hxx]; exact Nat.lt_of_le_of_lt (Nat.mod_le _ _) hx
 obtain ⟨N, hN⟩ : ∃ N, N = (onesN 64 x).length := ⟨_, rfl⟩
 rw [<- hN] at hnz ⊢
 have c22 : ∀ W, CallsIn Fence.wide 5 Tryd.prog 22 #[.int .u64 (IntKind.u64.wrap ((set : Int) * 2 ^ (64 - min (max n 0) 64).toNat) / 2 ^ (64 - min (max n 0) 64).toNat)] W fun e w' => e = .returned (.int .i64 (N : Int)) /\ w' = W := by
  intro W;rw [hlow, hN];exact callsIn_wide.2 (Tryd.ones64 x hx2 W)
 clear hlow hxx hN hx hx2
 have bw := (Below.refl w.heap.size w).alloc (Nat.le_refl _) (.cells #[.bool any, .int .i64 it, .int .i64 lc, .int .i64 gr, .int .i64 lo, .int .i64 hi, .int .i64 st] 35)
 by_cases hN : N = 0
 ·subst hN
  clear hnz
  gi_wp2
  refine (c22 _).mono ?_
  rintro e w' ⟨rfl, rfl⟩
  dsimp only
  clear c22
  gi_wp2
  exact ⟨_, results_tmp rfl _ _ _, rfl, bw⟩
 ·have ha : any = true := by rcases hnz with h | h; exact h; exact absurd h hN
  subst ha;have hN0 : ((N : Int) == 0) = false := by simp; omega
  clear hnz hN
  gi_wp2
  refine (c22 _).mono ?_
  rintro e w' ⟨rfl, rfl⟩
  dsimp only
  clear c22
  gi_wp2
  exact ⟨_, results_tmp rfl _ _ _, rfl, bw⟩
end Go.Proofs
namespace Go.Proofs
open Go.RowKit Go.Maps Go.Sort Go.Shelf Go.User
set_option maxHeartbeats 2000000 in
set_option maxRecDepth 100000 in
theorem Tryd.static_wide (R it lc gr lo hi st n : Int) (set : Nat) (hx : set < 18446744073709551616) (w : World) (hT : TabAt 0 Lib.deBruijn64tab w) (h0 : 0 < w.heap.size) (hst : st ≠ 0)
  (hnz : (onesN 64 (set % 2 ^ (min (max n 0) 64).toNat)).length ≠ 0) (hs : wrap64 (it + lc) = it + lc) (hs1 : -4398046511104 <= it + lc) (hs2 : it + lc <= 4398046511104) (hl : -2199023255552 <= lo /\ lo <= 2199023255552 /\ -2199023255552 <= hi /\ hi <= 2199023255552 /\ lo < hi)
  (hR : let x := set % 2 ^ (min (max n 0) 64).toNat; (Lib.ctz 64 x : Int) + 1 <= Lib.bitLen x /\ (Lib.bitLen x : Int) <= 64 /\ R = min ((onesN 64 x).length : Int) ((Sp.absI (it + lc) * ((Lib.bitLen x : Int) - 1 - Lib.ctz 64 x) + hi - lo - 1) / 16 + 2)) :
  Calls Tryd.prog 11 #[.agg #[.bool false, .int .i64 it, .int .i64 lc, .int .i64 gr, .int .i64 lo, .int .i64 hi, .int .i64 st], .int .i64 n, .int .u64 set] w fun e w' => e = .returned (.int .i64 R) /\ Below w.heap.size w w' := by
 refine (callsIn_wide (n := 6)).1 ?_
 refine callsIn_of_wp_marks Tryd.func11 rfl trivial ?_ rfl
 simp only [Tryd.ntmps11, List.size_toArray, List.length_cons, List.length_nil, Nat.reduceAdd, Nat.reduceSub, Array.replicate_succ, Array.replicate_zero, List.push_toArray, List.append_toArray, List.nil_append, List.cons_append]
 have hf22 : Fence.wide.fn 22 := trivial
 have hf24 : Fence.wide.fn 24 := trivial
 have hf25 : Fence.wide.fn 25 := trivial
 have hlow := Tryd.set_low set n hx
 obtain ⟨x, hxx⟩ : ∃ x, x = set % 2 ^ (min (max n 0) 64).toNat := ⟨_, rfl⟩
 have hR0 : (Lib.ctz 64 (set % 2 ^ (min (max n 0) 64).toNat) : Int) + 1 <= Lib.bitLen (set % 2 ^ (min (max n 0) 64).toNat) /\ (Lib.bitLen (set % 2 ^ (min (max n 0) 64).toNat) : Int) <= 64 /\ R = min ((onesN 64 (set % 2 ^ (min (max n 0) 64).toNat)).length : Int) ((Sp.absI (it + lc) * ((Lib.bitLen (set % 2 ^ (min (max n 0) 64).toNat) : Int) - 1 - Lib.ctz 64 (set % 2 ^ (min (max n 0) 64).toNat)) + hi - lo - 1) / 16 + 2) := hR
 clear hR
 rw [<- hxx] at hlow hnz hR0
 have hx2 : x < 18446744073709551616 := by rw [hxx]; exact Nat.lt_of_le_of_lt (Nat.mod_le _ _) hx
 obtain ⟨N, hN⟩ : ∃ N, N = (onesN 64 x).length := ⟨_, rfl⟩
 rw [<- hN] at hnz hR0
 have c22 : ∀ W, CallsIn Fence.wide 5 Tryd.prog 22 #[.int .u64 (IntKind.u64.wrap ((set : Int) * 2 ^ (64 - min (max n 0) 64).toNat) / 2 ^ (64 - min (max n 0) 64).toNat)] W fun e w' => e = .returned (.int .i64 (N : Int)) /\ w' = W := by
  intro W;rw [hlow, hN];exact callsIn_wide.2 (Tryd.ones64 x hx2 W)
 have hN0 : ((N : Int) == 0) = false := by simp; omega
 have hst0 : (st == 0) = false := by simp; omega
 have hE : ∃ z : Nat, z = x /\ (∀ W, TabAt 0 Lib.deBruijn64tab W -> CallsIn Fence.wide 5 Tryd.prog 24 #[.int .u64 (z : Int)] W fun e w' => e = .returned (.int .i64 (Lib.ctz 64 z)) /\ w' = W) /\
   (∀ W, CallsIn Fence.wide 5 Tryd.prog 25 #[.int .u64 (z : Int)] W fun e w' => e = .returned (.int .i64 (64 - (Lib.bitLen z : Int))) /\ w' = W) /\
   ((∀ m : Nat, m = 0 -> (Lib.ctz 64 z : Int) + 1 <= Lib.bitLen z) /\ (Lib.bitLen z : Int) <= 64 /\ (-2199023255552 <= lo /\ lo <= 2199023255552) /\ (-2199023255552 <= hi /\ hi <= 2199023255552) /\ lo < hi /\ R = min (N : Int) ((Sp.absI (it + lc) * ((Lib.bitLen z : Int) - 1 - Lib.ctz 64 z) + hi - lo - 1) / 16 + 2)) /\
   IntKind.u64.wrap ((set : Int) * 2 ^ (64 - min (max n 0) 64).toNat) / 2 ^ (64 - min (max n 0) 64).toNat = (z : Int) :=
  ⟨x, rfl, fun W hW => callsIn_wide.2 (Tryd.tz64 x hx2 W hW), fun W => callsIn_wide.2 (Tryd.lz64 x W hx2), ⟨fun _ _ => hR0.1, hR0.2.1, ⟨hl.1, hl.2.1⟩, ⟨hl.2.2.1, hl.2.2.2.1⟩, hl.2.2.2.2, hR0.2.2⟩, hlow⟩
 clear hlow hxx hN hx hx2 hnz hst hR0 hl
 gi_wp2
 refine (c22 _).mono ?_
 rintro e w' ⟨rfl, rfl⟩
 dsimp only
 clear c22
 obtain ⟨z, rfl, c24, c25, hR, hE⟩ := hE
 simp only [hE]
 clear hE
 have hTab : ∀ W, Below w.heap.size w W -> TabAt 0 Lib.deBruijn64tab W := fun W h => Tryd.tab_heap (h.block 0 h0) hT
 have bw := ((Below.refl w.heap.size w).alloc (Nat.le_refl _) (.cells #[.bool false, .int .i64 it, .int .i64 lc, .int .i64 gr, .int .i64 lo, .int .i64 hi, .int .i64 st] 35)).alloc (by simp) (.cells #[.int .i64 (it + lc)] 2)
 have hT2 := hTab _ bw
 have d24 := c24 _ hT2
 have d25 := c25 (((w.alloc (.cells #[.bool false, .int .i64 it, .int .i64 lc, .int .i64 gr, .int .i64 lo, .int .i64 hi, .int .i64 st] 35))).alloc (.cells #[.int .i64 (it + lc)] 2))
 clear c24 c25 hT2 hTab hT
 gi_wp2_with (first | (gi_at_call 24; refine d24.mono ?_; clear d24; rintro e w' ⟨rfl, rfl⟩) | (gi_at_call 25; refine d25.mono ?_; clear d25; rintro e w' ⟨rfl, rfl⟩))
 have hfin : min (N : Int) (wrap64 (wrap64 ((wrap64 (wrap64 (wrap64 (wrap64 (max (it + lc) (-(it + lc)) * wrap64 (63 - (64 - (Lib.bitLen z : Int)) - (Lib.ctz 64 z : Int))) + hi) - lo) - 1)).tdiv 16) + 2)) = R := by
  obtain ⟨b1, b2, b3, b4, b5, hR⟩ := hR;have b1 := b1 0 rfl;have hp : 0 <= (Lib.ctz 64 z : Int) := by omega
  rw [hR];generalize (Lib.bitLen z : Int) = q at *;generalize (Lib.ctz 64 z : Int) = p at *;have e3 : wrap64 (63 - (64 - q) - p) = q - 1 - p := by unfold wrap64; omega
  have e4 : max (it + lc) (-(it + lc)) = Sp.absI (it + lc) := by unfold Sp.absI; split <;> omega
  rw [e3, e4];have hA : 0 <= Sp.absI (it + lc) /\ Sp.absI (it + lc) <= 4398046511104 := by unfold Sp.absI; split <;> omega
  obtain ⟨m1, m2⟩ := mul_bound (s := Sp.absI (it + lc)) (x := q - 1 - p) (by omega) (by omega) (by omega) (by omega);have m0 : 0 <= Sp.absI (it + lc) * (q - 1 - p) := Int.mul_nonneg (by omega) (by omega);generalize Sp.absI (it + lc) * (q - 1 - p) = P at *;have e5 : wrap64 P = P := by unfold wrap64; omega
  have e6 : wrap64 (P + hi) = P + hi := by unfold wrap64; omega
  have e7 : wrap64 (P + hi - lo) = P + hi - lo := by unfold wrap64; omega
  have e8 : wrap64 (P + hi - lo - 1) = P + hi - lo - 1 := by unfold wrap64; omega
  have e9 : (P + hi - lo - 1).tdiv 16 = (P + hi - lo - 1) / 16 := Int.tdiv_eq_ediv_of_nonneg (by omega)
  first
   | rw [e5, e6, e7, e8, e9]
   | skip
  have e10 : wrap64 ((P + hi - lo - 1) / 16) = (P + hi - lo - 1) / 16 := by unfold wrap64; omega
  have e11 : wrap64 ((P + hi - lo - 1) / 16 + 2) = (P + hi - lo - 1) / 16 + 2 := by unfold wrap64; omega
  rw [e10, e11]
 exact ⟨_, results_tmp rfl _ _ _, by rw [<- hfin]; rfl, bw⟩
end Go.Proofs
namespace Go.User
open Go.Lf Go.Proofs Go.RowKit
theorem onesI_set (n : Int) (set : Nat) : onesI (set % 2 ^ (min (max n 0) 64).toNat) = Sp.lanes n (set : Int) := by
 rw [onesI_lanes set _ (by omega)]
 by_cases h : n <= 0
 ·rw [lanes_zero _ n h, lanes_zero _ _ (by omega)]
 ·by_cases h2 : 64 <= n
  ·rw [lanes_full _ n h2, lanes_full _ _ (by omega)]
  ·rw [show (((min (max n 0) 64).toNat : Nat) : Int) = n by omega]
theorem tab_of {F : NSet} {w : World} (h : GlbOK 1 F w) : TabAt 0 Lib.deBruijn64tab w := by
 obtain ⟨_, row, T, fr, h1, h2⟩ := h 0 _ rfl
 intro j hj
 have e : (Lib.deBruijn64tab.map (fun k : Nat => Value.int .u8 (k : Int)))[j]? = some (.int .u8 (Lib.deBruijn64tab.getD j 0 : Nat)) := by
  rw [List.getElem?_map, List.getElem?_eq_getElem hj, List.getD, List.getElem?_eq_getElem hj]; rfl
 have := h2 j _ e
 simp [World.cell?, h1, this]
theorem own_int {F S : NSet} {w : World} {m : Md} {k : IntKind} {b : Ty} {cs : List Value} {x : (Ty.prod (.int k) b).den} (h : Go.Lf.Own F w (.prod (.int k) b) m S cs x) : ∃ c2 S2 m2, cs = .int k x.1 :: c2 /\ Go.Lf.Own F w b m2 S2 c2 x.2 := by
 obtain ⟨c1, c2, S1, S2, rfl, _, _, _, h1, h2⟩ := h
 have e : c1 = [.int k x.1] := h1.1
 exact ⟨c2, S2, _, by rw [e]; rfl, h2⟩
theorem own_bool {F S : NSet} {w : World} {m : Md} {b : Ty} {cs : List Value} {x : (Ty.prod .bool b).den} (h : Go.Lf.Own F w (.prod .bool b) m S cs x) : ∃ c2 S2 m2, cs = .bool x.1 :: c2 /\ Go.Lf.Own F w b m2 S2 c2 x.2 := by
 obtain ⟨c1, c2, S1, S2, rfl, _, _, _, h1, h2⟩ := h
 have e : c1 = [.bool x.1] := h1
 exact ⟨c2, S2, _, by rw [e]; rfl, h2⟩
theorem val_agg {F : NSet} {w : World} {v : Value} {x : Sp.Form} (h : OwnV F w tForm .shr none' v x) :
  v = .agg #[.bool x.1, .int .i64 x.2.1, .int .i64 x.2.2.1, .int .i64 x.2.2.2.1, .int .i64 (Sp.loOf x), .int .i64 (Sp.hiOf x), .int .i64 (Sp.stOf x)] := by
 obtain ⟨cs, rfl, h1⟩ := h
 obtain ⟨c1, _, _, e1, h2⟩ := own_bool h1
 obtain ⟨c2, _, _, e2, h3⟩ := own_int h2
 obtain ⟨c3, _, _, e3, h4⟩ := own_int h3
 obtain ⟨c4, _, _, e4, h5⟩ := own_int h4
 obtain ⟨d1, d2, _, _, e5, _, _, _, h6, hu⟩ := h5
 obtain ⟨c5, _, _, e6, h7⟩ := own_int h6
 obtain ⟨c6, _, _, e7, h8⟩ := own_int h7
 obtain ⟨c7, _, _, e8, h9⟩ := own_int h8
 have e9 : c7 = [] := h9
 have e10 : d2 = [] := hu
 rw [e1, e2, e3, e4, e5, e6, e7, e8, e9, e10]
 rfl
theorem int_post {F : NSet} {w w' : World} {z : Int} (hF : ∀ b, F b -> b < w.heap.size) (h1 : -9223372036854775808 <= z) (h2 : z <= 9223372036854775807) (hb : Below w.heap.size w w') : Post F w false tI .shr z (.returned (.int .i64 z)) w' :=
 ⟨_, F, none', rfl, hb, fun _ h => h, fun b h h' => absurd h h', fun b h => h.elim (fun h => Nat.lt_of_lt_of_le (hF b h) hb.size) (fun h => h.elim), fun b h => h.elim, _, rfl, rfl, h1, h2⟩
theorem static_le (f : Sp.Form) (l : List Int) (hu : Sp.usable f) (hl : l.length <= 64) (hs : Strict l) (hok : Sp.lanesOk l) : 0 <= Sp.static f l /\ Sp.static f l <= 64 := by
 unfold Sp.static
 split
 ·omega
 ·split
  ·have := maxSegs_le (Sp.sOf f) l 16
   omega
  ·rename_i h1 h2
   have h0 : 0 < l.length := by
    rcases Nat.eq_zero_or_pos l.length with h | h
    ·exact absurd (.inl h) h1
    ·exact h
   have hf := strict_first hs h0
   have hA : 0 <= Sp.absI (Sp.sOf f) := by unfold Sp.absI; split <;> omega
   have := Int.mul_nonneg hA (show 0 <= Sp.lastI l - l.getD 0 0 by omega)
   have hlt : Sp.loOf f <= Sp.hiOf f := hu.2.2.2.2.1
   have : 0 <= Sp.wide f l - 1 := by unfold Sp.wide; omega
   have := Int.ediv_nonneg this (show (0 : Int) <= 16 by omega)
   omega
theorem ok11 : FOk Tryd.prog 11 S11 := by
 refine ⟨Tryd.call11, fun w F vs xs hg hF ha hp => ?_⟩
 obtain ⟨v0, r0, rfl, h0, v1, r1, rfl, h1, v2, r2, rfl, h2, rfl⟩ := ha
 obtain ⟨f, (n : Int), (s : Int), ⟨⟩⟩ := xs
 have hT := tab_of hg
 have hw0 : 0 < w.heap.size := hF 0 (hg 0 _ rfl).1
 have hu : Sp.usable f := hp
 have e0 := val_agg h0
 obtain ⟨e1, -, -⟩ := OwnV.int_eq h1
 obtain ⟨e2, s0, s1⟩ := OwnV.int_eq h2
 subst e0 e1 e2
 have s0 : (0 : Int) <= s := s0
 have s1 : s <= (18446744073709551615 : Int) := s1
 obtain ⟨set, rfl⟩ : ∃ set : Nat, s = set := ⟨s.toNat, by omega⟩
 have hx : set < 18446744073709551616 := by omega
 have hL := onesI_set n set
 have hlen : (Sp.lanes n (set : Int)).length = (onesN 64 (set % 2 ^ (min (max n 0) 64).toNat)).length := by rw [<- hL, onesI_len]
 obtain ⟨b0, b1⟩ := static_le f (Sp.lanes n set) hu (lanes_len n set) (lanes_strict n set) (lanes_ok n set)
 obtain ⟨⟨u1, u2⟩, ⟨u3, u4⟩, ⟨u5, u6⟩, ⟨u7, u8⟩, u9, u10, u11⟩ := id hu
 have hws : wrap64 (f.2.1 + f.2.2.1) = f.2.1 + f.2.2.1 := by unfold wrap64; omega
 have fin : ∀ z, z = Sp.static f (Sp.lanes n set) -> Calls Tryd.prog 11 #[.agg #[.bool f.1, .int .i64 f.2.1, .int .i64 f.2.2.1, .int .i64 f.2.2.2.1, .int .i64 (Sp.loOf f), .int .i64 (Sp.hiOf f), .int .i64 (Sp.stOf f)], .int .i64 n, .int .u64 set] w (fun e w' => e = .returned (.int .i64 z) /\ Below w.heap.size w w') ->
   Calls Tryd.prog 11 #[.agg #[.bool f.1, .int .i64 f.2.1, .int .i64 f.2.2.1, .int .i64 f.2.2.2.1, .int .i64 (Sp.loOf f), .int .i64 (Sp.hiOf f), .int .i64 (Sp.stOf f)], .int .i64 n, .int .u64 set] w (Post F w false tI .shr (Sp.static f (Sp.lanes n set))) := by
  rintro z rfl h
  refine h.mono ?_
  rintro e w' ⟨rfl, hb⟩
  exact int_post hF (by omega) (by omega) hb
 by_cases hc : f.1 = true ∨ (onesN 64 (set % 2 ^ (min (max n 0) 64).toNat)).length = 0
 ·refine fin _ ?_ (Tryd.static_few f.1 f.2.1 f.2.2.1 f.2.2.2.1 (Sp.loOf f) (Sp.hiOf f) (Sp.stOf f) n set hx w hc)
  unfold Sp.static;rw [if_pos (by rw [hlen]; exact hc.symm), hlen]
 ·have hany : f.1 = false := by
   cases h : f.1
   ·rfl
   ·exact absurd (.inl h) hc
  have hnz : (onesN 64 (set % 2 ^ (min (max n 0) 64).toNat)).length ≠ 0 := fun h => hc (.inr h)
  have hn0 : ¬ ((Sp.lanes n (set : Int)).length = 0 ∨ f.1 = true) := by rw [hlen, hany]; simp; exact fun h => hnz (by simp [h])
  by_cases hst : Sp.stOf f = 0
  ·refine fin (Sp.maxSegs (Sp.sOf f) (Sp.lanes n set) 16 : Nat) ?_ ?_
   ·unfold Sp.static
    rw [if_neg hn0, if_pos (u10.1 hst)]
   ·rw [hany, hst]
    exact Tryd.static_loop _ f.2.1 f.2.2.1 f.2.2.2.1 (Sp.loOf f) (Sp.hiOf f) 0 n set hx w hT hw0 rfl hnz (by omega) (by omega) (by rw [hL]; rfl) hws
  ·have hlt : Sp.loOf f < Sp.hiOf f := by
    rcases Int.lt_or_eq_of_le u9 with h | h
    ·exact h
    ·exact absurd (u10.2 h) hst
   have hx2 : set % 2 ^ (min (max n 0) 64).toNat < 2 ^ 64 := Nat.lt_of_le_of_lt (Nat.mod_le _ _) hx
   have hne : set % 2 ^ (min (max n 0) 64).toNat ≠ 0 := fun h => by rw [h] at hnz; exact hnz (by rw [<- onesI_len, onesI_zero]; rfl)
   have hlast := onesI_last _ hx2 hne
   obtain ⟨hcons, hc64, -⟩ := onesI_cons _ hx2 hne;obtain ⟨t1, t2, -, -⟩ := bitLen_top _ hx2 hne;have hfirst : (onesI (set % 2 ^ (min (max n 0) 64).toNat)).getD 0 0 = (Lib.ctz 64 (set % 2 ^ (min (max n 0) 64).toNat) : Int) := by rw [hcons]; rfl
   have hfl := strict_first (onesI_strict (set % 2 ^ (min (max n 0) 64).toNat)) (by rw [onesI_len]; omega)
   rw [hfirst, hlast] at hfl;refine fin (Sp.static f (Sp.lanes n set)) rfl ?_;rw [hany];refine Tryd.static_wide _ f.2.1 f.2.2.1 f.2.2.2.1 (Sp.loOf f) (Sp.hiOf f) (Sp.stOf f) n set hx w hT hw0 hst hnz hws (by omega) (by omega) ⟨by omega, by omega, by omega, by omega, hlt⟩ ⟨by omega, by omega, ?_⟩
   unfold Sp.static;rw [if_neg hn0, if_neg (by omega), hlen];unfold Sp.wide;rw [<- hL, hlast, hfirst]
   rfl
end Go.User
namespace Go.Proofs
open Go.RowKit Go.Maps Go.Sort Go.Shelf Go.WideMaps

theorem Tryd.arrKey : ArrKey Tryd.prog 74 3 2 := ⟨by kernel_rfl, by kernel_rfl, by kernel_rfl, by kernel_rfl⟩
theorem Tryd.keyed : Keyed Tryd.prog 74 := Keyed.of_law Tryd.arrKey.law
def Tryd.kl (p : Int × Int) : Lit := .string (keyBytes [.int .i64 p.1, .int .i64 p.2])
theorem Tryd.kl_of {p : Int × Int} (h1 : (Lit.int .i64 p.1).wf = true) (h2 : (Lit.int .i64 p.2).wf = true) : keyOf Tryd.prog 74 (.agg #[.int .i64 p.1, .int .i64 p.2]) = some (Tryd.kl p) := by
 have hu : Tryd.prog.underlying 74 = some (.array 2 3) := Tryd.arrKey.hu
 have hk : Tryd.prog.keyType 74 = true := by kernel_rfl
 have hu3 : Tryd.prog.underlying 3 = some (.int .i64) := Tryd.underlying3
 obtain ⟨m, hm⟩ : ∃ m, Tryd.prog.types.size = m + 1 := ⟨Tryd.prog.types.size - 1, by kernel_rfl⟩
 have hc : Tryd.prog.cellsOf 74 = 2 := by kernel_rfl
 have hc3 : Tryd.prog.cellsOf 3 = 1 := by kernel_rfl
 unfold keyOf
 rw [hu]
 have hf : Value.formed Tryd.prog 74 (.agg #[.int .i64 p.1, .int .i64 p.2]) = true := by
  simp [Value.formed, hu, hc]
 simp only [hk, hf, Bool.and_self, if_true, Value.cells]
 rw [hm]
 simp [Program.keyLits, hu, hc, hc3, hu3, h1, h2, List.range_succ, Tryd.kl]
theorem Tryd.kl_key (p : Int × Int) : WideAt.IsKeyLit (Tryd.kl p) := trivial
theorem Tryd.kl_inj {p q : Int × Int} (hp : (Lit.int .i64 p.1).wf = true /\ (Lit.int .i64 p.2).wf = true) (hq : (Lit.int .i64 q.1).wf = true /\ (Lit.int .i64 q.2).wf = true) (h : Tryd.kl p = Tryd.kl q) : p = q := by
 have h1 := Tryd.kl_of hp.1 hp.2
 have h2 := Tryd.kl_of hq.1 hq.2
 rw [<- h] at h2
 have := Tryd.arrKey.law.inj h1 h2
 simp at this
 exact Prod.ext this.1 this.2
theorem Tryd.addKeys : ∀ (xs acc : List Lit), (∀ x ∈ xs, WideAt.IsKeyLit x) -> (∀ x ∈ acc, WideAt.IsKeyLit x) -> acc.Nodup -> (xs.foldl addKey acc).Nodup /\ ∀ y, y ∈ xs.foldl addKey acc ↔ y ∈ acc ∨ y ∈ xs
 | [], acc, _, _, h => ⟨h, by simp⟩
 | x :: xs, acc, hx, ha, h => by
  have hxk := hx x (by simp)
  have hin : (acc.any fun y => y.sameKey x) = true ↔ x ∈ acc := by
   rw [List.any_eq_true];constructor
   ·rintro ⟨y, hy, he⟩
    have := WideAt.sameKey_eq he
    exact this ▸ hy
   ·intro hy
    exact ⟨x, hy, WideAt.sameKey_self hxk⟩
  by_cases hm : x ∈ acc
  ·have e : addKey acc x = acc := by unfold addKey; rw [if_pos (hin.2 hm)]
   obtain ⟨q1, q2⟩ := Tryd.addKeys xs acc (fun y hy => hx y (by simp [hy])) ha h
   rw [List.foldl_cons, e];refine ⟨q1, fun y => ?_⟩
   rw [q2, List.mem_cons];constructor
   ·rintro (h | h) <;> simp [h]
   ·rintro (h | rfl | h)
    ·exact .inl h
    ·exact .inl hm
    ·exact .inr h
  ·have e : addKey acc x = acc ++ [x] := by unfold addKey; rw [if_neg (fun h => hm (hin.1 h))]
   have hnd : (acc ++ [x]).Nodup := List.nodup_append.2 ⟨h, by simp, by rintro a ha b hb rfl; simp at hb; exact hm (hb ▸ ha)⟩
   obtain ⟨q1, q2⟩ := Tryd.addKeys xs (acc ++ [x]) (fun y hy => hx y (by simp [hy])) (fun y hy => by rcases List.mem_append.1 hy with h | h; exact ha y h; simp at h; exact h ▸ hxk) hnd
   rw [List.foldl_cons, e];refine ⟨q1, fun y => ?_⟩
   rw [q2];simp only [List.mem_append, List.mem_cons, List.not_mem_nil, or_false, or_assoc]

def Tryd.mD (es : List Sp.Ev) (l : List Sp.Arr) (k : Nat) : DataW Unit := setOf (.agg []) (((Sp.pairs (es.take k) l).map Go.User.segp).map Tryd.kl)
theorem Tryd.mD_zero (es : List Sp.Ev) (l : List Sp.Arr) : Tryd.mD es l 0 = .map [] := by simp [Tryd.mD, Sp.pairs, setOf]
theorem Tryd.mD_hit (es : List Sp.Ev) (l : List Sp.Arr) (k : Nat) (hk : k < es.length) (h : Sp.counts es[k] l = true) :
  Tryd.mD es l (k + 1) = (Tryd.mD es l k).put (Tryd.kl (es[k].2.2.2.2.2.2.1, es[k].2.2.2.2.2.2.2.1 / 16)) (.agg []) := by
 unfold Tryd.mD
 rw [Go.User.pairs_snoc es l k hk]
 have e : es.getD k (0, 0, 0, 0, 0, 0, 0, 0, 0, ()) = es[k] := by simp [List.getD, List.getElem?_eq_getElem hk]
 rw [e, if_pos h, List.map_append, List.map_append, List.map_cons, List.map_cons, List.map_nil, List.map_nil, setOf_snoc]
 rfl
theorem Tryd.mD_miss (es : List Sp.Ev) (l : List Sp.Arr) (k : Nat) (hk : k < es.length) (h : ¬ Sp.counts es[k] l = true) : Tryd.mD es l (k + 1) = Tryd.mD es l k := by
 unfold Tryd.mD
 rw [Go.User.pairs_snoc es l k hk]
 have e : es.getD k (0, 0, 0, 0, 0, 0, 0, 0, 0, ()) = es[k] := by simp [List.getD, List.getElem?_eq_getElem hk]
 rw [e, if_neg h, List.append_nil]
theorem Tryd.mD_size (es : List Sp.Ev) (l : List Sp.Arr) (hw : ∀ p ∈ Sp.pairs es l, (Lit.int .i64 p.1).wf = true /\ (Lit.int .i64 (p.2 / 16)).wf = true) : Maps.size (Tryd.mD es l es.length) = Go.User.nmoves (Sp.pairs es l) := by
 unfold Tryd.mD
 rw [List.take_length, size_setOf]
 ·obtain ⟨q1, q2⟩ := Tryd.addKeys (((Sp.pairs es l).map Go.User.segp).map Tryd.kl) [] (fun x hx => by obtain ⟨p, _, rfl⟩ := List.mem_map.1 hx; exact Tryd.kl_key p) (by simp) (by simp)
  have e : Go.User.nmoves (Sp.pairs es l) = ((Go.User.dd ((Sp.pairs es l).map Go.User.segp)).map Tryd.kl).length := by simp [Go.User.nmoves]
  rw [e]
  letI : DecidableEq Lit := fun a b => Classical.propDecidable _
  refine Go.User.same_len q1 ?_ fun y => ?_
  ·unfold List.Nodup
   rw [List.pairwise_map];refine (Go.User.nodup_dd _).imp_of_mem fun {a b} ha hb hne hk => hne ?_
   have wf : ∀ c, c ∈ Go.User.dd ((Sp.pairs es l).map Go.User.segp) -> (Lit.int .i64 c.1).wf = true /\ (Lit.int .i64 c.2).wf = true := by
    intro c hc;rw [Go.User.mem_dd] at hc;obtain ⟨p, hp, rfl⟩ := List.mem_map.1 hc;exact hw p hp
   exact Tryd.kl_inj (wf a ha) (wf b hb) hk
  ·rw [q2, List.mem_map, List.mem_map]
   simp only [Go.User.mem_dd, List.not_mem_nil, false_or]
 ·intro x hx
  obtain ⟨p, _, rfl⟩ := List.mem_map.1 hx;exact Tryd.kl_key p
end Go.Proofs
namespace Go.Proofs
open Go.RowKit Go.Maps Go.Sort Go.Shelf Go.WideMaps

def Tryd.evCells (x : Sp.Ev) : List Value := [.int .i64 x.1, .int .i64 x.2.1, .int .i64 x.2.2.1, .int .i64 x.2.2.2.1, .int .i64 x.2.2.2.2.1, .int .i64 x.2.2.2.2.2.1, .int .i64 x.2.2.2.2.2.2.1, .int .i64 x.2.2.2.2.2.2.2.1, .int .i32 x.2.2.2.2.2.2.2.2.1]

set_option maxHeartbeats 2000000 in
set_option maxRecDepth 100000 in
theorem Tryd.moves_in (ao1 ao2 : Option Addr) (cap1 cap2 : Nat) (es : List Sp.Ev) (l : List Sp.Arr) (w : World) (hn : es.length <= 1000) (hm : l.length <= 1000)
  (he : ∀ (j : Nat) (h : j < es.length), ∃ b off, ao1 = some ⟨b, off, none⟩ /\ b < w.heap.size /\ ∀ i v, (Tryd.evCells es[j])[i]? = some v -> w.cell? ⟨b, off + j * 9 + i, none⟩ = some v)
  (hl : ∀ (j : Nat) (h : j < l.length), ∃ b off, ao2 = some ⟨b, off, none⟩ /\ b < w.heap.size /\ w.cell? ⟨b, off + j * 4 + 1, none⟩ = some (.int .i64 l[j].2.1))
  (hw : ∀ p ∈ Sp.pairs es l, (Lit.int .i64 p.1).wf = true /\ (Lit.int .i64 (p.2 / 16)).wf = true) :
  Calls Tryd.prog 16 #[.slice ao1 es.length cap1, .slice ao2 l.length cap2] w fun e w' => e = .returned (.int .i64 (Sp.moves es l)) /\ Below w.heap.size w w' := by
 refine (callsIn_wide (n := 6)).1 ?_
 have hmm := @run_makeMap Tryd.prog
 refine callsIn_of_wp Tryd.func16 rfl trivial ?_ rfl
 simp only [Tryd.ntmps16, List.size_toArray, List.length_cons, List.length_nil, Nat.reduceAdd, Nat.reduceSub, Array.replicate_succ, Array.replicate_zero, List.push_toArray, List.append_toArray, List.nil_append, List.cons_append]
 gi_wp2
 gi_loopw [12] (fun i wr => ∃ k : Nat, k <= es.length /\ i = .int .i64 k /\ wr.ownsMap Tryd.prog 74 (unitElem (H := Unit)) w.heap.size k (Tryd.mD es l k) /\ Below w.heap.size w wr)
  (fun i _ => es.length - (intOf i).toNat)
 case atStart => exact ⟨0, Nat.zero_le _, rfl, by rw [Tryd.mD_zero]; exact World.ownsMap_made _ _ _ _, (Below.refl _ _).alloc (Nat.le_refl _) _⟩
 case round =>
  obtain ⟨k, hk, rfl, hown, hnx⟩ := hrel;by_cases hkn : k < es.length
  ·obtain ⟨b, off, rfl, hb, hc⟩ := he k hkn
   have hcw : ∀ i v, (Tryd.evCells es[k])[i]? = some v -> wr.cell? ⟨b, off + k * 9 + i, none⟩ = some v := fun i v hi => (hnx.cell (by exact hb)).trans (hc i v hi)
   obtain ⟨x, hx⟩ : ∃ x, x = es[k] := ⟨_, rfl⟩;have hmiss := Tryd.mD_miss es l k hkn;have hhit := Tryd.mD_hit es l k hkn;rw [<- hx] at hcw hmiss hhit;have hwx : Sp.counts x l = true -> (Lit.int .i64 x.2.2.2.2.2.2.1).wf = true /\ (Lit.int .i64 (x.2.2.2.2.2.2.2.1 / 16)).wf = true := fun h =>
    hw (x.2.2.2.2.2.2.1, x.2.2.2.2.2.2.2.1) (List.mem_map.2 ⟨x, List.mem_filter.2 ⟨hx ▸ List.getElem_mem hkn, h⟩, rfl⟩)
   clear hx;obtain ⟨kd, f1, f2, f3, f4, f5, ar, ix, f8, ⟨⟩⟩ := x;have c0 : wr.cell? ⟨b, off + k * 9, none⟩ = some (.int .i64 kd) := hcw 0 _ rfl;have c1 := hcw 1 _ rfl;have c2 := hcw 2 _ rfl;have c3 := hcw 3 _ rfl;have c4 := hcw 4 _ rfl;have c5 := hcw 5 _ rfl;have c6 := hcw 6 _ rfl;have c7 := hcw 7 _ rfl;have c8 := hcw 8 _ rfl;clear hcw hc hw he
   dsimp only at hmiss hhit hwx c1 c2 c3 c4 c5 c6 c7 c8
   have hend : ∀ (o : Obj), ¬ Sp.counts (kd, f1, f2, f3, f4, f5, ar, ix, f8, ()) l = true -> (∃ k_1, k_1 <= es.length /\ Value.int IntKind.i64 ((k : Int) + 1) = Value.int IntKind.i64 (k_1 : Int) /\ (wr.alloc o).ownsMap Tryd.prog 74 (unitElem (H := Unit)) w.heap.size k_1 (Tryd.mD es l k_1) /\ Below w.heap.size w (wr.alloc o)) /\
     es.length - (intOf (Value.int IntKind.i64 ((k : Int) + 1))).toNat < es.length - (intOf (Value.int IntKind.i64 (k : Int))).toNat := by
    intro o hno;refine ⟨⟨k + 1, by omega, by simp, ?_, hnx.alloc hnx.size _⟩, by simp [intOf]; omega⟩
    rw [hmiss hno];exact (hown.alloc _).mono (by omega)
   by_cases hacc : (kd = 1 ∨ kd = 2) ∨ kd = 3
   ·by_cases h0 : 0 <= ar
    ·by_cases h1 : ar < (l.length : Int)
     ·obtain ⟨m, rfl⟩ : ∃ m : Nat, ar = m := ⟨ar.toNat, by omega⟩
      obtain ⟨b2, off2, rfl, hb2, hs⟩ := hl m (by omega);have hsp : wr.cell? ⟨b2, off2 + m * 4 + 1, none⟩ = some (.int .i64 l[m].2.1) := (hnx.cell (by exact hb2)).trans hs;have hgd : l.getD m ([], 0, 0, 0, ()) = l[m] := by simp [List.getD, List.getElem?_eq_getElem (show m < l.length by omega)]
      obtain ⟨sp, hspe⟩ : ∃ sp, sp = l[m].2.1 := ⟨_, rfl⟩;rw [<- hspe] at hsp;have hcnt : Sp.counts (kd, f1, f2, f3, f4, f5, (m : Int), ix, f8, ()) l = decide (sp = 1) := by
       have e1 : decide (1 <= kd) = true := decide_eq_true (by omega)
       have e2 : decide (kd <= 3) = true := decide_eq_true (by omega)
       have e3 : decide (0 <= (m : Int)) = true := decide_eq_true (by omega)
       have e4 : decide ((m : Int) < (l.length : Int)) = true := decide_eq_true h1
       show (decide (1 <= kd) && decide (kd <= 3) && decide (0 <= (m : Int)) && decide ((m : Int) < (l.length : Int)) && decide ((l.getD (m : Int).toNat Sp.arr0).2.1 = 1)) = _
       rw [e1, e2, e3, e4, Int.toNat_natCast, show Sp.arr0 = ([], 0, 0, 0, ()) from rfl, hgd, <- hspe]
       rfl
      have hsp2 : ∀ q : Int, (wr.alloc (.cells #[.int .i64 q, .int .i64 f1, .int .i64 f2, .int .i64 f3, .int .i64 f4, .int .i64 f5, .int .i64 (m : Int), .int .i64 ix, .int .i32 f8] 47)).cell? ⟨b2, off2 + m * 4 + 1, none⟩ = some (.int .i64 sp) := fun q => (((Below.refl wr.heap.size wr).alloc (Nat.le_refl _) _).cell (p := ⟨b2, off2 + m * 4 + 1, none⟩) (by have := hnx.size; show b2 < _; omega)).trans hsp
      have s1 := hsp2 1
      have s2 := hsp2 2
      have s3 := hsp2 3
      clear hs hgd hspe hl hsp2;by_cases h2 : sp = 1
      ·subst h2
       have hcnt : Sp.counts (kd, f1, f2, f3, f4, f5, (m : Int), ix, f8, ()) l = true := hcnt
       obtain ⟨w1, w2⟩ := hwx hcnt;have hh := hhit hcnt;clear hend hmiss hhit hwx hcnt;rcases hacc with (rfl | rfl) | rfl
       ·gi_wp2_with (gi_at_mapUpdate; refine wpListIn_mapUpdate_own _ rfl _ _ _ 73 rfl 74 68 Tryd.keyed Tryd.underlying73 _ w.heap.size k _ rfl (hown.alloc _) (by unfold maxLen; omega) _ _ _ rfl rfl (Tryd.kl_of (p := ((m : Int), ix / 16)) w1 w2) _ [] (unitElem_mk (H := Unit)) ?_; intro wq hown1 hgrow1)
        refine ⟨⟨k + 1, by omega, by simp, hh.symm ▸ hown1, ?_⟩, by simp [intOf]; omega⟩
        exact (hnx.alloc hnx.size _).grown hgrow1 (by have := hnx.size; simp; omega) (fun j hj => by cases hj; exact Nat.le_refl _)
       ·gi_wp2_with (gi_at_mapUpdate; refine wpListIn_mapUpdate_own _ rfl _ _ _ 73 rfl 74 68 Tryd.keyed Tryd.underlying73 _ w.heap.size k _ rfl (hown.alloc _) (by unfold maxLen; omega) _ _ _ rfl rfl (Tryd.kl_of (p := ((m : Int), ix / 16)) w1 w2) _ [] (unitElem_mk (H := Unit)) ?_; intro wq hown1 hgrow1)
        refine ⟨⟨k + 1, by omega, by simp, hh.symm ▸ hown1, ?_⟩, by simp [intOf]; omega⟩
        exact (hnx.alloc hnx.size _).grown hgrow1 (by have := hnx.size; simp; omega) (fun j hj => by cases hj; exact Nat.le_refl _)
       ·gi_wp2_with (gi_at_mapUpdate; refine wpListIn_mapUpdate_own _ rfl _ _ _ 73 rfl 74 68 Tryd.keyed Tryd.underlying73 _ w.heap.size k _ rfl (hown.alloc _) (by unfold maxLen; omega) _ _ _ rfl rfl (Tryd.kl_of (p := ((m : Int), ix / 16)) w1 w2) _ [] (unitElem_mk (H := Unit)) ?_; intro wq hown1 hgrow1)
        refine ⟨⟨k + 1, by omega, by simp, hh.symm ▸ hown1, ?_⟩, by simp [intOf]; omega⟩
        exact (hnx.alloc hnx.size _).grown hgrow1 (by have := hnx.size; simp; omega) (fun j hj => by cases hj; exact Nat.le_refl _)
      ·have n2 : (sp == 1) = false := by simp [h2]
       have hno : ¬ Sp.counts (kd, f1, f2, f3, f4, f5, (m : Int), ix, f8, ()) l = true := by rw [hcnt]; simp [h2]
       clear hmiss hhit hwx hcnt;rcases hacc with (rfl | rfl) | rfl
       ·gi_wp2; exact hend _ hno
       ·gi_wp2; exact hend _ hno
       ·gi_wp2; exact hend _ hno
     ·have hno : ¬ Sp.counts (kd, f1, f2, f3, f4, f5, ar, ix, f8, ()) l = true := by simp [Sp.counts]; omega
      clear hmiss hhit hwx hl;rcases hacc with (rfl | rfl) | rfl
      ·gi_wp2; exact hend _ hno
      ·gi_wp2; exact hend _ hno
      ·gi_wp2; exact hend _ hno
    ·have hno : ¬ Sp.counts (kd, f1, f2, f3, f4, f5, ar, ix, f8, ()) l = true := by simp [Sp.counts]; omega
     clear hmiss hhit hwx hl;rcases hacc with (rfl | rfl) | rfl
     ·gi_wp2; exact hend _ hno
     ·gi_wp2; exact hend _ hno
     ·gi_wp2; exact hend _ hno
   ·have n1 : (kd == 1) = false := by simp; omega
    have n2 : (kd == 2) = false := by simp; omega
    have n3 : (kd == 3) = false := by simp; omega
    have hno : ¬ Sp.counts (kd, f1, f2, f3, f4, f5, ar, ix, f8, ()) l = true := by simp [Sp.counts]; omega
    clear hmiss hhit hwx hl
    gi_wp2
    exact hend _ hno
  ·obtain rfl : k = es.length := by omega
   have hsz := Tryd.mD_size es l hw
   have hlen := hown.len Tryd.underlying73 3
   rw [hsz] at hlen;clear he hl hw hsz
   gi_wp2
   go_ret
   exact ⟨rfl, hnx⟩
end Go.Proofs
namespace Go.User
open Go.Lf Go.Proofs Go.RowKit
theorem ev_cells {F : NSet} {w : World} {m : Md} {S : NSet} {cs : List Value} {x : Sp.Ev} (h : Go.Lf.Own F w tEv m S cs x) : cs = Tryd.evCells x := by
 obtain ⟨c1, _, _, e1, h1⟩ := own_int h
 obtain ⟨c2, _, _, e2, h2⟩ := own_int h1
 obtain ⟨c3, _, _, e3, h3⟩ := own_int h2
 obtain ⟨c4, _, _, e4, h4⟩ := own_int h3
 obtain ⟨c5, _, _, e5, h5⟩ := own_int h4
 obtain ⟨c6, _, _, e6, h6⟩ := own_int h5
 obtain ⟨c7, _, _, e7, h7⟩ := own_int h6
 obtain ⟨c8, _, _, e8, h8⟩ := own_int h7
 obtain ⟨c9, _, _, e9, h9⟩ := own_int h8
 have e10 : c9 = [] := h9
 rw [e1, e2, e3, e4, e5, e6, e7, e8, e9, e10]
 rfl
theorem arr_cells {F : NSet} {w : World} {m : Md} {S : NSet} {cs : List Value} {x : Sp.Arr} (h : Go.Lf.Own F w tArr m S cs x) : ∃ v, cs = [v, .int .i64 x.2.1, .int .i64 x.2.2.1, .int .i64 x.2.2.2.1] := by
 obtain ⟨c1, d1, S1, S2, e1, _, _, _, h1, h2⟩ := h
 obtain ⟨c2, _, _, e2, h3⟩ := own_int h2
 obtain ⟨c3, _, _, e3, h4⟩ := own_int h3
 obtain ⟨c4, _, _, e4, h5⟩ := own_int h4
 have e5 : c4 = [] := h5
 have e6 : c1 = [.string ⟨x.1.toArray⟩] := h1.1
 exact ⟨_, by rw [e1, e2, e3, e4, e5, e6]; rfl⟩
theorem row_cells {F : NSet} {w : World} {τ : Ty} {v : Value} {xs : List τ.den} (hF : ∀ b, F b -> b < w.heap.size) (h : OwnV F w (.slice τ) .shr none' v xs) : ∃ ao cap, v = .slice ao xs.length cap /\
  ∀ (j : Nat) (hj : j < xs.length), ∃ b off cs m S, ao = some ⟨b, off, none⟩ /\ b < w.heap.size /\ Go.Lf.Own F w τ m S cs xs[j] /\ cs.length = τ.size /\ ∀ i u, cs[i]? = some u -> w.cell? ⟨b, off + j * τ.size + i, none⟩ = some u := by
 obtain ⟨cs, rfl, ao, cap, rfl, hc1, hc2, hm⟩ := h
 refine ⟨ao, cap, rfl, fun j hj => ?_⟩
 rcases hm with he | ⟨b, off, row, T, fr, rfl, hFb, hcell, hlen, hel⟩
 ·have : xs = [] := he
  subst this;simp at hj
 ·have h := hel j xs[j] (List.getElem?_eq_getElem hj)
  refine ⟨b, off, _, _, _, rfl, hF b hFb, h, h.len, fun i u hi => ?_⟩
  unfold seg at hi;have hlt := (List.getElem?_eq_some_iff.1 hi).1;rw [List.length_take] at hlt;rw [List.getElem?_take_of_lt (by omega), List.getElem?_drop] at hi;simp only [World.cell?, hcell]
  simpa using hi
theorem ok16 : FOk Tryd.prog 16 S16 := by
 refine ⟨Tryd.call16, fun w F vs xs hg hF ha hp => ?_⟩
 obtain ⟨v0, r0, rfl, h0, v1, r1, rfl, h1, rfl⟩ := ha
 obtain ⟨(es : List Sp.Ev), (l : List Sp.Arr), ⟨⟩⟩ := xs
 obtain ⟨hn, hm⟩ : es.length <= 1000 /\ l.length <= 1000 := hp
 have f0 : dFact (.slice tEv) es := by obtain ⟨cs, rfl, h⟩ := h0; exact h.fact
 obtain ⟨ao1, cap1, rfl, c1⟩ := row_cells hF h0
 obtain ⟨ao2, cap2, rfl, c2⟩ := row_cells hF h1
 have hle : Sp.moves es l <= 1000000 := by
  rw [moves_sum];have b1 := movesTo_le es l l.length;have b2 : l.length * es.length <= 1000 * 1000 := Nat.mul_le_mul hm hn;omega
 have h0' : 0 <= Sp.moves es l := by unfold Sp.moves; omega
 refine (Tryd.moves_in ao1 ao2 cap1 cap2 es l w hn hm (fun j hj => ?_) (fun j hj => ?_) (fun p hp => ?_)).mono ?_
 ·obtain ⟨b, off, cs, m, S, e1, e2, e3, e4, e5⟩ := c1 j hj
  refine ⟨b, off, e1, e2, fun i v hi => e5 i v ?_⟩
  have e6 : cs = Tryd.evCells es[j] := ev_cells e3
  rw [e6]; exact hi
 ·obtain ⟨b, off, cs, m, S, e1, e2, e3, e4, e5⟩ := c2 j hj
  obtain ⟨v, e6⟩ := arr_cells e3;refine ⟨b, off, e1, e2, ?_⟩;have := e5 1 (.int .i64 l[j].2.1) (by rw [e6]; rfl);exact this
 ·obtain ⟨x, hx, rfl⟩ := List.mem_map.1 hp
  have hx := f0.2 x (List.mem_filter.1 hx).1
  have k1 : (-9223372036854775808 : Int) <= x.2.2.2.2.2.2.1 := hx.2.2.2.2.2.2.1.1
  have k2 : x.2.2.2.2.2.2.1 <= (9223372036854775807 : Int) := hx.2.2.2.2.2.2.1.2
  have k3 : (-9223372036854775808 : Int) <= x.2.2.2.2.2.2.2.1 := hx.2.2.2.2.2.2.2.1.1
  have k4 : x.2.2.2.2.2.2.2.1 <= (9223372036854775807 : Int) := hx.2.2.2.2.2.2.2.1.2
  dsimp only
  exact ⟨WalkArith.wf_i64 (by omega), WalkArith.wf_i64 (by omega)⟩
 ·rintro e w' ⟨rfl, hb⟩
  exact int_post hF (by show _ <= Sp.moves es l; omega) (by show Sp.moves es l <= _; omega) hb
end Go.User
namespace Go.User
open Go.Lf Go.Proofs
set_option maxRecDepth 100000 in
theorem ex1 : Sp.static (Sp.form0 1) (Sp.lanes 32 18446744073709551615) = 3 := by
 show Sp.static (Sp.form0 1) (Sp.lanes ((32 : Nat) : Int) 18446744073709551615) = 3
 rw [static0 1 _ (all_len 32 (by omega) (by omega)), max_one 32 (by omega) (by omega)]
 rfl
set_option maxRecDepth 100000 in
theorem ex2 : Sp.static (Sp.form0 2) (Sp.lanes 32 18446744073709551615) = 5 := by decide +kernel
theorem ex0 : Sp.static (Sp.form0 0) (Sp.lanes 32 18446744073709551615) = 1 := by
 show Sp.static (Sp.form0 0) (Sp.lanes ((32 : Nat) : Int) 18446744073709551615) = 1
 rw [static0 0 _ (all_len 32 (by omega) (by omega)), max_zero _ (all_len 32 (by omega) (by omega))]
 rfl
theorem ex16 : Sp.static (Sp.form0 16) (Sp.lanes 32 18446744073709551615) = 32 := by
 have h : (Sp.lanes ((32 : Nat) : Int) 18446744073709551615).length = 32 := by decide +kernel
 show Sp.static (Sp.form0 16) (Sp.lanes ((32 : Nat) : Int) 18446744073709551615) = 32
 rw [static0 16 _ (all_len 32 (by omega) (by omega)), max_far 16 _ (lanes_strict _ _) (by omega), h]
 rfl
theorem exn : Sp.static (Sp.form0 1) (Sp.lanes 32 0) = 0 := by
 have h : Sp.lanes 32 0 = [] := by decide +kernel
 rw [h]; rfl
theorem exs : Sp.segs (0 :: 15 :: 16 :: -1 :: 40 :: []) = (-1 :: 0 :: 1 :: 2 :: []) := by decide +kernel
theorem exm : Sp.moves ((1, 0, 0, 0, 0, 0, 0, 3, 0, ()) :: (2, 0, 0, 0, 0, 0, 0, 15, 0, ()) :: (1, 0, 0, 0, 0, 0, 1, 3, 0, ()) :: (3, 0, 0, 0, 0, 0, 0, 16, 0, ()) :: (4, 0, 0, 0, 0, 0, 0, 0, 0, ()) :: []) (([], 1, 0, 32, ()) :: ([], 2, 0, 4, ()) :: []) = 2 := by decide +kernel
theorem ok9 : FOk Tryd.prog 9 S9 := by
 have hC : CtxOK Tryd.prog C9 := okC (fns_cons ok14 (fns_cons ok13 (fns_cons ok16 (fns_cons ok21 (fns_cons ok11 fns_nil))))) rfl rfl rfl rfl rfl rfl rfl
 refine FOk.intro hC (stpS_ok hC) Tryd.call9 Tryd.func9 (by kernel_rfl) (by kernel_rfl) L9 (vc9.mpr ?_)
 simp only [zz, zy]
 have e1 : Sp.sameI (Sp.segs (0 :: 15 :: 16 :: -1 :: 40 :: [])) (-1 :: 0 :: 1 :: 2 :: []) = true := by rw [exs]; decide
 refine ⟨⟨by decide, by decide, by decide⟩, fun h => ?_, fun _ => ⟨⟨usable0 1 (by omega) (by omega), usable0 2 (by omega) (by omega), usable0 0 (by omega) (by omega), usable0 16 (by omega) (by omega), usable0 1 (by omega) (by omega)⟩, ⟨⟨⟨ex1, ex2⟩, ex0⟩, ex16⟩, exn⟩⟩
 rw [e1, exm] at h
 exact absurd h (by decide)
theorem usableF {x : Sp.Raw} (hx : dFact tRaw x) (any : Bool) : Sp.usable (any, Sp.fItem x, x.2.2.1, x.2.2.2.1, (x.2.2.2.2.1, Sp.fHi x, Sp.fSt x, ()), ()) := by
 obtain ⟨any', (it : Int), (lo : Int), (gr : Int), (rl : Int), (st : Int), (n : Int), great, ⟨⟩⟩ := x
 have h1 : (-32768 : Int) <= it := hx.2.1.1
 have h1' : it <= (32767 : Int) := hx.2.1.2
 have h2 : (-32768 : Int) <= lo := hx.2.2.1.1
 have h2' : lo <= (32767 : Int) := hx.2.2.1.2
 have h4 : (-2147483648 : Int) <= rl := hx.2.2.2.2.1.1
 have h4' : rl <= (2147483647 : Int) := hx.2.2.2.2.1.2
 have h5 : (0 : Int) <= st := hx.2.2.2.2.2.1.1
 have h5' : st <= (65535 : Int) := hx.2.2.2.2.2.1.2
 have h6 : (0 : Int) <= n := hx.2.2.2.2.2.2.1.1
 have hm : (st % 64 + 1) * (n % 8) <= 64 * 7 := Int.mul_le_mul (by omega) (by omega) (by omega) (by omega)
 have hm0 : 0 < n % 8 -> 1 * 1 <= (st % 64 + 1) * (n % 8) := fun h => Int.mul_le_mul (by omega) (by omega) (by omega) (by omega)
 have e1 : Sp.fItem (any', it, lo, gr, rl, st, n, great, ()) = if great then it * 16777216 else it := rfl
 have e2 : Sp.fSt (any', it, lo, gr, rl, st, n, great, ()) = if 0 < n % 8 then st % 64 + 1 else 0 := rfl
 have e3 : Sp.fHi (any', it, lo, gr, rl, st, n, great, ()) = if 0 < n % 8 then rl + Sp.fSt (any', it, lo, gr, rl, st, n, great, ()) * (n % 8) else rl := rfl
 have i1 : -2199023255552 <= Sp.fItem (any', it, lo, gr, rl, st, n, great, ()) /\ Sp.fItem (any', it, lo, gr, rl, st, n, great, ()) <= 2199023255552 := by rw [e1]; split <;> omega
 refine ⟨i1, ⟨by show _ <= lo; omega, by show lo <= _; omega⟩, ⟨by show _ <= rl; omega, by show rl <= _; omega⟩, ?_⟩
 show (-2199023255552 <= Sp.fHi (any', it, lo, gr, rl, st, n, great, ()) /\ Sp.fHi (any', it, lo, gr, rl, st, n, great, ()) <= 2199023255552) /\ rl <= Sp.fHi (any', it, lo, gr, rl, st, n, great, ()) /\ (Sp.fSt (any', it, lo, gr, rl, st, n, great, ()) = 0 ↔ rl = Sp.fHi (any', it, lo, gr, rl, st, n, great, ())) /\ 0 <= Sp.fSt (any', it, lo, gr, rl, st, n, great, ())
 rw [e3, e2]
 by_cases hn : 0 < n % 8
 ·have := hm0 hn
  rw [if_pos hn, if_pos hn];generalize (st % 64 + 1) * (n % 8) = P at *;omega
 ·rw [if_neg hn, if_neg hn]
  omega
theorem hiF {x : Sp.Raw} (hx : dFact tRaw x) : Sp.fSt x <= 64 /\ Sp.fHi x <= x.2.2.2.2.1 + 448 /\ (-2147483648 : Int) <= x.2.2.2.2.1 /\ x.2.2.2.2.1 <= (2147483647 : Int) := by
 obtain ⟨any', (it : Int), (lo : Int), (gr : Int), (rl : Int), (st : Int), (n : Int), great, ⟨⟩⟩ := x
 have h4 : (-2147483648 : Int) <= rl := hx.2.2.2.2.1.1
 have h4' : rl <= (2147483647 : Int) := hx.2.2.2.2.1.2
 have h5 : (0 : Int) <= st := hx.2.2.2.2.2.1.1
 have hm : (st % 64 + 1) * (n % 8) <= 64 * 7 := Int.mul_le_mul (by omega) (by omega) (by omega) (by omega)
 refine ⟨by show (if 0 < n % 8 then st % 64 + 1 else 0) <= 64; split <;> omega, ?_, h4, h4'⟩
 show (if 0 < n % 8 then rl + (if 0 < n % 8 then st % 64 + 1 else 0) * (n % 8) else rl) <= rl + 448
 by_cases hn : 0 < n % 8
 ·rw [if_pos hn, if_pos hn]; omega
 ·rw [if_neg hn]; omega
theorem and_bound (n : Int) (m : Nat) (hm : m < 9223372036854775808) : 0 <= IntKind.i64.wrap (↑(BitVec.ofInt 64 n &&& BitVec.ofInt 64 (m : Int)).toNat : Int) /\ IntKind.i64.wrap (↑(BitVec.ofInt 64 n &&& BitVec.ofInt 64 (m : Int)).toNat : Int) <= m := by
 have h : (BitVec.ofInt 64 n &&& BitVec.ofInt 64 (m : Int)).toNat <= m := by
  rw [BitVec.toNat_and];refine Nat.le_trans Nat.and_le_right ?_;rw [BitVec.ofInt_natCast, BitVec.toNat_ofNat, Nat.mod_eq_of_lt (by omega)];exact Nat.le_refl _
 rw [wrapI (by omega)]
 omega
theorem arrs_len (l : List Int) : (Sp.arrs l).length = min 12 l.length := by simp [Sp.arrs]
theorem ok3 : FOk Tryd.prog 3 S3 := by
 have hC : CtxOK Tryd.prog C3 := okC (fns_cons ok9 (fns_cons ok10 (fns_cons ok11 (fns_cons ok12 (fns_cons ok13 (fns_cons ok14 (fns_cons ok15 (fns_cons ok16 (fns_cons ok17 fns_nil))))))))) rfl rfl rfl rfl rfl rfl rfl
 refine FOk.intro hC (stpS_ok hC) Tryd.call3 Tryd.func3 (by kernel_rfl) (by kernel_rfl) L3 (vc3.mpr ?_)
 simp only [zz, zy]
 rintro ⟨(l : List Int), (e : List Sp.Ev), (x : Sp.Raw), ⟨⟩⟩ hx
 have hu := usableF hx.2.2 x.1
 clear hx
 dsimp only at *
 have hab : ∀ n : Int, inK .i64 (1 + IntKind.i64.wrap (↑(BitVec.ofInt 64 n &&& BitVec.ofInt 64 63).toNat : Int)) := fun n => by
  have := and_bound n 63 (by omega)
  rw [show ((63 : Nat) : Int) = 63 from rfl] at this;exact inK_mid (by omega) (by omega)
 have hal := arrs_len l
 have hsame : Sp.sameI (Sp.segs l) (Sp.segs l) = true := by simp [Sp.sameI]
 rintro ⟨h1, h2⟩
 refine ⟨⟨0, ⟨by omega, by omega⟩, rfl, rfl⟩, fun i hi _ => ⟨fun ⟨i1, i2⟩ => ⟨⟨inN_of i1, ?_⟩, inK_mid (by omega) (by omega), i + 1, ⟨by omega, by omega⟩, by omega, ?_, by omega⟩, fun hi2 => ⟨⟨0, by omega, rfl⟩, fun j hj _ => ⟨fun ⟨j1, j2⟩ => ⟨⟨inN_of j1, inN_of j1, hu, inN_of j1, inN_of j1, hu, inN_of j1, hab _, inN_of j1, hu, inN_of j1, hab _, inN_of j1, hu⟩, fun h => ?_, inK_mid (by omega) (by omega), j + 1, by omega, by omega, by omega⟩, fun hj2 => ⟨⟨by omega, by omega, fun _ => ⟨by omega, ?_⟩⟩, hsame⟩⟩⟩⟩⟩
 ·rw [maxNew_eq, List.length_take]; omega
 ·have q : i < (Sp.arrs l).length := by rw [hal]; omega
  have q2 : i < l.length := by omega
  rw [List.take_succ_eq_append_getElem q]
  congr 1
  simp only [Sp.arrs, List.getElem_map, List.getElem_take, List.getD, List.getElem?_eq_getElem q2, Option.getD_some]
  rfl
 ·simp at h
 ·rw [List.length_take]; omega
theorem ok6 : FOk Tryd.prog 6 S6 := by
 have hC : CtxOK Tryd.prog C6 := okC (fns_cons ok9 (fns_cons ok10 (fns_cons ok11 (fns_cons ok14 (fns_cons ok19 (fns_cons ok20 fns_nil)))))) rfl rfl rfl rfl rfl rfl rfl
 refine FOk.intro hC (stpS_ok hC) Tryd.call6 Tryd.func6 (by kernel_rfl) (by kernel_rfl) L6 (vc6.mpr ?_)
 simp only [zz, zy]
 rintro ⟨(x : Sp.Raw), (c : List Int), (pick : List Int), ⟨⟩⟩ hx
 have hu := usableF (x := (false, x.2)) ⟨trivial, hx.1.2⟩ false
 have hpick : ∀ p ∈ pick, (0 : Int) <= p := fun p hp => (hx.2.2.2 p hp).1
 clear hx
 dsimp only at *
 have hb := and_bound (c.getD 1 0) 63 (by omega)
 rw [show ((63 : Nat) : Int) = 63 from rfl] at hb
 have hab : inK .i64 (1 + IntKind.i64.wrap (↑(BitVec.ofInt 64 (c.getD 1 0) &&& BitVec.ofInt 64 63).toNat : Int)) := inK_mid (by omega) (by omega)
 rw [show Int.toNat 1 = 1 from rfl, show Int.toNat 2 = 2 from rfl, show Int.toNat 0 = 0 from rfl]
 generalize 1 + IntKind.i64.wrap (↑(BitVec.ofInt 64 (c.getD 1 0) &&& BitVec.ofInt 64 63).toNat : Int) = n at *
 have ht := Int.tmod_lt_of_pos (c.getD 0 0) (show (0 : Int) < 1073741824 by decide)
 have ht2 := Int.lt_tmod_of_pos (c.getD 0 0) (show (0 : Int) < 1073741824 by decide)
 generalize (c.getD 0 0).tmod 1073741824 = c0 at *
 have hok := lanes_ok n (IntKind.u64.wrap (c.getD 2 0))
 have hst := lanes_strict n (IntKind.u64.wrap (c.getD 2 0))
 generalize Sp.lanes n (IntKind.u64.wrap (c.getD 2 0)) = l at *
 generalize ((false, Sp.fItem (false, x.2), x.2.2.1, x.2.2.2.1, (x.2.2.2.2.1, Sp.fHi (false, x.2), Sp.fSt (false, x.2), ()), ()) : Sp.Form) = f at *
 have b1 := bound_ok f l c0 pick hu hst hpick
 have b2 := static_le_len f l
 have b3 : Sp.static (true, 0, 0, 0, (0, 0, 0, ()), ()) l = l.length := by unfold Sp.static; rw [if_pos (.inr rfl)]
 have hu0 : Sp.usable (true, 0, 0, 0, (0, 0, 0, ()), ()) := usable0 0 (by omega) (by omega)
 have hwl : (Sp.words f l c0 pick).length <= 1000000 := by rw [words_len]; have := hok.1; omega
 exact ⟨⟨⟨by omega, by omega⟩, hab, by omega, by omega⟩, hu, ⟨⟨by omega, by omega⟩, by decide, hu, hok, by omega, by omega⟩, ⟨hwl, fun _ => hu0⟩, ⟨b1, b2⟩, b3⟩
theorem ok8 : FOk Tryd.prog 8 S8 := by
 have hC : CtxOK Tryd.prog C8 := okC (fns_cons ok9 (fns_cons ok10 (fns_cons ok11 fns_nil))) rfl rfl rfl rfl rfl rfl rfl
 refine FOk.intro hC (stpS_ok hC) Tryd.call8 Tryd.func8 (by kernel_rfl) (by kernel_rfl) L8 (vc8.mpr ?_)
 simp only [zz, zy]
 rintro ⟨(x : Sp.Raw), (a : Int), (b : Int), ⟨⟩⟩ hx
 have hu := usableF hx.1 x.1
 have hh := hiF hx.1
 have g1 : (-32768 : Int) <= x.2.2.2.1 := hx.1.2.2.2.1.1
 have g2 : x.2.2.2.1 <= (32767 : Int) := hx.1.2.2.2.1.2
 have a1 : (0 : Int) <= a := hx.2.1.1
 have a2 : a <= (18446744073709551615 : Int) := hx.2.1.2
 have b1 : (0 : Int) <= b := hx.2.2.1
 have b2 : b <= (18446744073709551615 : Int) := hx.2.2.2
 clear hx
 dsimp only at *
 obtain ⟨any, (it : Int), (lo : Int), (gr : Int), (rl : Int), (st0 : Int), (n : Int), great, ⟨⟩⟩ := x
 dsimp only at *
 generalize Sp.fItem (any, it, lo, gr, rl, st0, n, great, ()) = item at *
 generalize Sp.fHi (any, it, lo, gr, rl, st0, n, great, ()) = hi at *
 generalize Sp.fSt (any, it, lo, gr, rl, st0, n, great, ()) = st at *
 obtain ⟨⟨u1, u2⟩, ⟨u3, u4⟩, ⟨u5, u6⟩, ⟨u7, u8⟩, u9, u10, u11⟩ := id hu
 simp only [Sp.loOf, Sp.hiOf, Sp.stOf] at u5 u6 u7 u8 u9 u10 u11
 have e1 : Sp.lanes 64 (IntKind.u64.wrap (↑(BitVec.ofInt 64 a &&& BitVec.ofInt 64 b).toNat : Int)) = Sp.lanes 64 ((a.toNat &&& b.toNat : Nat) : Int) := by
  have h1 := andU a.toNat b.toNat (by omega) (by omega)
  rw [show ((a.toNat : Nat) : Int) = a by omega, show ((b.toNat : Nat) : Int) = b by omega] at h1
  have h2 : a.toNat &&& b.toNat <= a.toNat := Nat.and_le_left
  rw [h1, wrapU (by omega)]
 rw [e1]
 have m1 : Sp.static (any, item, lo, gr, (rl, hi, st, ()), ()) (Sp.lanes 64 ((a.toNat &&& b.toNat : Nat) : Int)) <= Sp.static (any, item, lo, gr, (rl, hi, st, ()), ()) (Sp.lanes 64 a) :=
  static_mono _ hu (lanes_strict _ _) (lanes_strict _ _) (lanes_sub fun i _ h => by
   rw [Int.toNat_natCast, Nat.testBit_and] at h;simp at h;exact h.1)
 have m2 : Sp.static (any, item, lo, gr, (rl, hi, st, ()), ()) (Sp.lanes 20 a) <= Sp.static (any, item, lo, gr, (rl, hi, st, ()), ()) (Sp.lanes 64 a) :=
  static_mono _ hu (lanes_strict _ _) (lanes_strict _ _) (lanes_less (by omega))
 have m3 : Sp.static (any, item, lo, 7 - gr, (rl + 5, hi + 5, st, ()), ()) (Sp.lanes 64 a) = Sp.static (any, item, lo, gr, (rl, hi, st, ()), ()) (Sp.lanes 64 a) := by
  unfold Sp.static Sp.wide Sp.loOf Sp.hiOf Sp.sOf
  dsimp only
  have : Sp.absI (item + lo) * (Sp.lastI (Sp.lanes 64 a) - (Sp.lanes 64 a).getD 0 0) + (hi + 5) - (rl + 5) - 1 = Sp.absI (item + lo) * (Sp.lastI (Sp.lanes 64 a) - (Sp.lanes 64 a).getD 0 0) + hi - rl - 1 := by omega
  rw [this];by_cases he : rl = hi
  ·rw [if_pos he, if_pos (show rl + 5 = hi + 5 by omega)]
  ·rw [if_neg he, if_neg (show ¬ rl + 5 = hi + 5 by omega)]
 have hu2 : Sp.usable (any, item, lo, 7 - gr, (rl + 5, hi + 5, st, ()), ()) :=
  ⟨⟨u1, u2⟩, ⟨u3, u4⟩, ⟨by show _ <= rl + 5; omega, by show rl + 5 <= _; omega⟩, ⟨by show _ <= hi + 5; omega, by show hi + 5 <= _; omega⟩, by show rl + 5 <= hi + 5; omega, by show st = 0 ↔ rl + 5 = hi + 5; omega, u11⟩
 have hu3 : 0 < st -> rl < hi - st -> Sp.usable (any, item, lo, gr, (rl, hi - st, st, ()), ()) := fun h1 h2 =>
  ⟨⟨u1, u2⟩, ⟨u3, u4⟩, ⟨u5, u6⟩, ⟨by show _ <= hi - st; omega, by show hi - st <= _; omega⟩, by show rl <= hi - st; omega, by show st = 0 ↔ rl = hi - st; omega, u11⟩
 have m4 : 0 < st -> rl < hi - st -> Sp.static (any, item, lo, gr, (rl, hi - st, st, ()), ()) (Sp.lanes 64 a) <= Sp.static (any, item, lo, gr, (rl, hi, st, ()), ()) (Sp.lanes 64 a) := fun h1 h2 => by
  unfold Sp.static Sp.wide Sp.loOf Sp.hiOf Sp.sOf
  dsimp only
  rw [if_neg (show ¬ rl = hi - st by omega), if_neg (show ¬ rl = hi by omega)]
  generalize Sp.absI (item + lo) * (Sp.lastI (Sp.lanes 64 a) - (Sp.lanes 64 a).getD 0 0) = P
  split <;> omega
 refine ⟨hu, inK_mid (by omega) (by omega), inK_of (by omega) (by omega), inK_of (by omega) (by omega), fun _ => inK_of (by omega) (by omega), fun ⟨h1, h2⟩ => ⟨inK_of (by omega) (by omega), ⟨hu, fun _ => hu2, fun _ => hu3 h1 h2, fun _ => hu⟩, ⟨⟨m1, m3⟩, m4 h1 h2⟩, m2⟩, fun _ => ⟨⟨hu, fun _ => hu2, fun _ => hu, fun _ => hu⟩, ?_⟩⟩
 exact ⟨⟨⟨m1, m3⟩, Int.le_refl _⟩, m2⟩
theorem ok7 : FOk Tryd.prog 7 S7 := by
 have hC : CtxOK Tryd.prog C7 := okC (fns_cons ok9 (fns_cons ok21 (fns_cons ok11 (fns_cons ok14 (fns_cons ok19 (fns_cons ok20 fns_nil)))))) rfl rfl rfl rfl rfl rfl rfl
 refine FOk.intro hC (stpS_ok hC) Tryd.call7 Tryd.func7 (by kernel_rfl) (by kernel_rfl) L7 (vc7.mpr ?_)
 simp only [zz, zy]
 rintro ⟨(s0 : Int), (n0 : Int), (a : Int), ⟨⟩⟩ hx
 have n1 : (0 : Int) <= n0 := hx.2.1.1
 clear hx
 dsimp only at *
 have ht := Int.tmod_lt_of_pos s0 (show (0 : Int) < 1099511627776 by decide)
 have ht2 := Int.lt_tmod_of_pos s0 (show (0 : Int) < 1099511627776 by decide)
 generalize s0.tmod 1099511627776 = s at *
 obtain ⟨n, hn⟩ : ∃ n : Nat, (n : Int) = 1 + n0 % 64 := ⟨(1 + n0 % 64).toNat, by omega⟩
 rw [<- hn]
 have hn64 : n <= 64 := by omega
 have hn0 : 0 < n := by omega
 have hus := usable0 s (by omega) (by omega)
 have hu0 := usable0 0 (by omega) (by omega)
 have hu1 := usable0 1 (by omega) (by omega)
 have hum := usable0 (-1) (by omega) (by omega)
 have et : ((n : Int) + 30).tdiv 16 = ((n : Int) + 30) / 16 := Int.tdiv_eq_ediv_of_nonneg (by omega)
 rw [et]
 have f1 : Sp.static (Sp.form0 1) (Sp.lanes n 18446744073709551615) = ((n : Int) + 30) / 16 := by rw [static0 1 _ (all_len n hn64 hn0), max_one n hn64 hn0]
 have fm : Sp.static (Sp.form0 (-1)) (Sp.lanes n 18446744073709551615) = ((n : Int) + 30) / 16 := by rw [static0 (-1) _ (all_len n hn64 hn0), max_minus n hn64 hn0]
 have hok := lanes_ok n a
 have hst := lanes_strict n a
 generalize Sp.lanes n a = l at *
 refine ⟨by decide, ⟨by decide, inK_mid (by omega) (by omega)⟩, fun h => ⟨hus, ?_⟩, fun h => ?_⟩
 ·unfold Sp.static
  rw [if_pos (.inl (by omega))]; omega
 ·have hl0 : l.length ≠ 0 := by omega
  have hs := static0 s l hl0
  have h0 : Sp.static (Sp.form0 0) l = 1 := by rw [static0 0 l hl0, max_zero l hl0]; rfl
  have hw : ∀ c : Nat, Sp.segs (Sp.words (Sp.form0 s) l (c : Int) []) = Sp.segsAt s c l := fun c => segs_words0 s l c []
  have hwl : ∀ c : Int, (Sp.words (Sp.form0 s) l c []).length <= 1000000 := fun c => by rw [words_len]; have := hok.1; omega
  refine ⟨hus, ⟨0, by omega, rfl, rfl⟩, fun c hc _ => ⟨fun hc2 => ⟨⟨⟨hus, hok, by omega, by omega⟩, hwl _⟩, inK_mid (by omega) (by omega), c + 1, by omega, by omega, ?_, by omega⟩, fun hc2 => ⟨fun hb => ?_, fun _ => ⟨⟨hu0, fun _ => hu1, fun _ => inK_mid (by omega) (by omega), fun _ => ⟨by decide, inK_mid (by omega) (by omega)⟩, fun _ => hum, fun _ => inK_mid (by omega) (by omega), fun _ => ⟨by decide, inK_mid (by omega) (by omega)⟩⟩, ⟨h0, f1⟩, fm⟩⟩⟩⟩
  ·rw [hw]
   show _ = ((max (Sp.maxSegs s l c) (Sp.segsAt s c l).length : Nat) : Int)
   omega
  ·obtain rfl : c = 16 := by omega
   rw [hs] at hb;by_cases hf : 16 <= s ∨ s <= -16
   ·rw [max_far s l hst hf] at hb
    simp at hb
   ·simp at hb
    omega
end Go.User
namespace Go.User
open Go.Lf Go.Proofs
theorem cutW_len (l : List Int) : (Sp.cutW l).length = min 60 l.length := by simp [Sp.cutW]
theorem cutW_bound {l : List Int} : ∀ x ∈ Sp.cutW l, -1099511627776 < x /\ x < 1099511627776 := by
 intro x hx
 obtain ⟨n, _, rfl⟩ := List.mem_map.1 hx
 exact ⟨Int.lt_tmod_of_pos n (by decide), Int.tmod_lt_of_pos n (by decide)⟩
theorem cutW_snoc (l : List Int) (i : Nat) (h : i < 60) (h2 : i < l.length) : (Sp.cutW l).take i ++ [(l.getD i 0).tmod 1099511627776] = (Sp.cutW l).take (i + 1) := by
 rw [List.take_succ_eq_append_getElem (by rw [cutW_len]; omega)]
 simp [Sp.cutW, List.getD, List.getElem?_eq_getElem h2]
theorem plus_snoc (l : List Int) (i : Nat) (h : i < 60) (h2 : i < l.length) : (Sp.plus16 (Sp.cutW l)).take i ++ [(l.getD i 0).tmod 1099511627776 + 16] = (Sp.plus16 (Sp.cutW l)).take (i + 1) := by
 rw [List.take_succ_eq_append_getElem (by unfold Sp.plus16; rw [List.length_map, cutW_len]; omega)]
 simp [Sp.plus16, Sp.cutW, List.getD, List.getElem?_eq_getElem h2]
theorem turn_snoc (a : List Int) (t : Int) (k : Nat) (h0 : 0 <= t) : Sp.turnW a t k ++ [a.getD (((k : Int) + t).tmod (a.length : Int)).toNat 0] = Sp.turnW a t (k + 1) := by
 obtain ⟨u, rfl⟩ : ∃ u : Nat, t = u := ⟨t.toNat, by omega⟩
 have e : (((k : Int) + (u : Int)).tmod (a.length : Int)).toNat = (k + u) % a.length := by
  rw [Int.tmod_eq_emod_of_nonneg (by omega)]
  rfl
 rw [e]
 simp [Sp.turnW, List.range_succ]
theorem turn_len (a : List Int) (t : Int) (k : Nat) : (Sp.turnW a t k).length = k := by simp [Sp.turnW]
theorem segs_turn (a : List Int) (t : Int) : Sp.segs (Sp.turnW a t (2 * a.length)) = Sp.segs a := by
 refine segs_congr fun x => ?_
 constructor
 ·intro hx
  obtain ⟨i, hi, rfl⟩ := List.mem_map.1 hx;have h0 : 0 < a.length := by have := List.mem_range.1 hi; omega
  have h1 : (i + t.toNat) % a.length < a.length := Nat.mod_lt _ h0
  rw [List.getD, List.getElem?_eq_getElem h1];exact List.getElem_mem h1
 ·intro hx
  obtain ⟨j, hj, rfl⟩ := List.mem_iff_getElem.1 hx;have hr : t.toNat % a.length < a.length := Nat.mod_lt _ (by omega);have hm := Nat.div_add_mod t.toNat a.length;have hmod : ∀ i, i + t.toNat % a.length = j ∨ i + t.toNat % a.length = j + a.length -> (i + t.toNat) % a.length = j := by
   intro i hi;rw [Nat.add_mod];rw [<- Nat.add_mod, show i + t.toNat = i + t.toNat % a.length + a.length * (t.toNat / a.length) by omega, Nat.add_mul_mod_self_left]
   rcases hi with hi | hi
   ·rw [hi]; exact Nat.mod_eq_of_lt hj
   ·rw [hi, Nat.add_mod_right]; exact Nat.mod_eq_of_lt hj
  by_cases hle : t.toNat % a.length <= j
  ·refine List.mem_map.2 ⟨j - t.toNat % a.length, List.mem_range.2 (by omega), ?_⟩
   rw [hmod _ (by omega), List.getD, List.getElem?_eq_getElem hj]
   rfl
  ·refine List.mem_map.2 ⟨j + a.length - t.toNat % a.length, List.mem_range.2 (by omega), ?_⟩
   rw [hmod _ (by omega), List.getD, List.getElem?_eq_getElem hj]
   rfl
theorem segs_plus (a : List Int) : Sp.segs (Sp.plus16 a) = (Sp.segs a).map (· + 1) := segs_shift a 1
theorem hasW_snoc (s : Int) (a : List Int) (k : Nat) (h : k < a.length) :
  (Sp.hasW s (a.take k) || decide (16 * s <= a.getD k 0) && decide (a.getD k 0 < 16 * s + 16)) = Sp.hasW s (a.take (k + 1)) := by
 rw [List.take_succ_eq_append_getElem h]
 simp only [Sp.hasW, List.any_append, List.any_cons, List.any_nil, Bool.or_false, List.getD, List.getElem?_eq_getElem h, Option.getD_some]
theorem hasS_snoc (x : Int) (s : List Int) (k : Nat) (h : k < s.length) :
  (Sp.hasS x (s.take k) || decide (16 * s.getD k 0 <= x) && decide (x < 16 * s.getD k 0 + 16)) = Sp.hasS x (s.take (k + 1)) := by
 rw [List.take_succ_eq_append_getElem h]
 simp only [Sp.hasS, List.any_append, List.any_cons, List.any_nil, Bool.or_false, List.getD, List.getElem?_eq_getElem h, Option.getD_some]
theorem hasW_all (a : List Int) (i : Nat) (h : i < (Sp.segs a).length) : Sp.hasW ((Sp.segs a).getD i 0) a = true := by
 rw [List.getD, List.getElem?_eq_getElem h, Option.getD_some]
 obtain ⟨x, hx, e⟩ := (mem_segs a _).1 (List.getElem_mem h)
 refine List.any_eq_true.2 ⟨x, hx, ?_⟩
 have e' : (Sp.segs a)[i] = x / 16 := e
 rw [e']
 simp
 omega
theorem hasS_all (a : List Int) (k : Nat) (h : k < a.length) : Sp.hasS (a.getD k 0) (Sp.segs a) = true := by
 rw [List.getD, List.getElem?_eq_getElem h, Option.getD_some]
 refine List.any_eq_true.2 ⟨a[k] / 16, (mem_segs a _).2 ⟨a[k], List.getElem_mem h, rfl⟩, ?_⟩
 simp
 omega
theorem seg_bound {a : List Int} (h : ∀ x ∈ a, -1099511627776 < x /\ x < 1099511627776) (i : Nat) : -1099511627776 <= (Sp.segs a).getD i 0 /\ (Sp.segs a).getD i 0 <= 1099511627776 := by
 by_cases hi : i < (Sp.segs a).length
 ·rw [List.getD, List.getElem?_eq_getElem hi, Option.getD_some]
  obtain ⟨x, hx, e⟩ := (mem_segs a _).1 (List.getElem_mem hi);have e' : (Sp.segs a)[i] = x / 16 := e;have := h x hx;omega
 ·rw [List.getD, List.getElem?_eq_none (by omega)]
  simp
theorem ok4 : FOk Tryd.prog 4 S4 := by
 have hC : CtxOK Tryd.prog C4 := okC (fns_cons ok9 (fns_cons ok13 (fns_cons ok14 fns_nil))) rfl rfl rfl rfl rfl rfl rfl
 refine FOk.intro hC (stpS_ok hC) Tryd.call4 Tryd.func4 (by kernel_rfl) (by kernel_rfl) L4 (vc4.mpr ?_)
 simp only [zz, zy]
 rintro ⟨(l : List Int), (t : Int), ⟨⟩⟩ hx
 have t0 : (0 : Int) <= t := hx.2.1
 have t1 : t <= (255 : Int) := hx.2.2
 clear hx
 dsimp only at *
 have hal := cutW_len l
 have hab := cutW_bound (l := l)
 have hcs := cutW_snoc l
 have hps := plus_snoc l
 have hpl : (Sp.plus16 (Sp.cutW l)).length = (Sp.cutW l).length := by simp [Sp.plus16]
 have htb : ∀ i : Nat, inK .i64 ((l.getD i 0).tmod 1099511627776 + 16) := fun i => by
  have h1 := Int.lt_tmod_of_pos (l.getD i 0) (show (0 : Int) < 1099511627776 by decide)
  have h2 := Int.tmod_lt_of_pos (l.getD i 0) (show (0 : Int) < 1099511627776 by decide)
  exact inK_of (by omega) (by omega)
 generalize Sp.cutW l = a at *
 have hsp := segs_plus a
 have hst := segs_turn a t
 have hW := hasW_all a
 have hS := hasS_all a
 have hsb := seg_bound hab
 have hsl : (Sp.segs a).length <= a.length := segs_len_le a
 have hstr : Strict (Sp.segs a) := segs_strict a
 have hw1 := hasW_snoc
 refine ⟨⟨0, ⟨by omega, by omega⟩, rfl, rfl, rfl⟩, fun i hi _ => ⟨fun ⟨i1, i2⟩ => ⟨⟨inN_of i1, by decide⟩, ?_, ⟨htb i, ?_⟩, inK_mid (by omega) (by omega), i + 1, ⟨by omega, by omega⟩, by omega, hcs i (by omega) (by omega), hps i (by omega) (by omega), by omega⟩, fun hi2 => ?_⟩⟩
 ·rw [maxNew_eq, List.length_take]; omega
 ·rw [maxNew_eq, List.length_take]; omega
 have hia : a.length <= i := by
  rw [Bool.and_eq_false_iff] at hi2;simp at hi2;omega
 rw [List.take_of_length_le hia, List.take_of_length_le (by omega)]
 clear hi2 hcs hps
 refine ⟨⟨0, by omega, rfl, rfl, rfl, rfl⟩, fun j hj _ => ⟨inK_mid (by omega) (by omega), fun hj2 => ⟨⟨⟨inK_mid (by omega) (by omega), by omega, ?_⟩, ?_⟩, inK_mid (by omega) (by omega), j + 1, by omega, by omega, turn_snoc a t j t0, by omega⟩, fun hj2 => ?_⟩⟩
 ·have h1 := Int.tmod_lt_of_pos ((j : Int) + t) (show (0 : Int) < a.length by omega)
  have h2 := Int.tmod_nonneg (a.length : Int) (show 0 <= (j : Int) + t by omega)
  exact ⟨h2, h1⟩
 ·rw [maxNew_eq, turn_len]; omega
 obtain rfl : j = 2 * a.length := by omega
 rw [hst, hsp]
 have hk1 : ∀ i, inK .i64 (16 * (Sp.segs a).getD i 0) := fun i => by have := hsb i; exact inK_of (by omega) (by omega)
 have hk2 : ∀ i, inK .i64 (16 * (Sp.segs a).getD i 0 + 16) := fun i => by have := hsb i; exact inK_of (by omega) (by omega)
 have hk3 : ∀ i, inK .i64 ((Sp.segs a).getD i 0 + 1) := fun i => by have := hsb i; exact inK_of (by omega) (by omega)
 have hs1 := hasS_snoc
 generalize Sp.segs a = s at *
 have hml : (s.map (· + 1)).length = s.length := List.length_map _
 have hmg : ∀ i, i < s.length -> (s.map (· + 1)).getD i 0 = s.getD i 0 + 1 := fun i hi => by
  simp [List.getD, List.getElem?_eq_getElem hi]
 have hinc : ∀ i, 0 < i -> i < s.length -> s.getD (i - 1) 0 < s.getD i 0 := fun i h0 h1 => by
  have := List.pairwise_iff_getElem.1 hstr (i - 1) i (by omega) h1 (by omega)
  simpa [List.getD, List.getElem?_eq_getElem h1, List.getElem?_eq_getElem (show i - 1 < s.length by omega)] using this
 refine ⟨⟨by omega, by omega⟩, fun _ => by rw [turn_len]; omega, fun h => ?_, fun _ => ⟨⟨0, by omega, rfl⟩, fun p hp _ => ⟨fun hp2 => ⟨⟨0, by omega, rfl, rfl⟩, fun q hq _ => ⟨fun hq2 =>
  ⟨⟨fun _ => inN_of hq2, fun _ => inN_of hp2, fun _ => hk1 p, fun _ => inN_of hq2, fun _ => inN_of hp2, fun _ => hk1 p, fun _ => hk2 p⟩, inK_mid (by omega) (by omega), q + 1, by omega, by omega, hw1 _ _ _ (by omega), by omega⟩, fun hq2 => ?_⟩⟩, fun hp2 =>
  ⟨⟨0, by omega, rfl⟩, fun q hq _ hq2 => ⟨⟨0, by omega, rfl, rfl⟩, fun r hr _ => ⟨fun hr2 => ⟨⟨fun _ => inN_of hq2, fun _ => inN_of hr2, fun _ => hk1 r, fun _ => inN_of hq2, fun _ => inN_of hr2, fun _ => hk1 r, fun _ => hk2 r⟩, inK_mid (by omega) (by omega), r + 1, by omega, by omega, hs1 _ _ _ (by omega), by omega⟩, fun hr2 => ?_⟩⟩⟩⟩⟩⟩
 ·rw [hml] at h
  simp [Sp.sameI] at h
 ·have hq3 : q = a.length := by omega
  subst hq3;rw [List.take_length, hW p (by omega), hmg p (by omega)];refine ⟨⟨fun _ => ⟨by omega, by rw [hml]; omega⟩, fun _ => inN_of hp2, fun _ => hk3 p, fun _ => inK_mid (by omega) (by omega), fun h => ⟨by omega, by omega⟩, fun _ => inN_of hp2⟩, fun h => ?_, fun _ => ⟨inK_mid (by omega) (by omega), p + 1, by omega, by omega, by omega⟩⟩
  have e : ((p : Int) - 1).toNat = p - 1 := by omega
  rw [e] at h;simp only [Bool.not_true, bne_self_eq_false, Bool.false_or, Bool.and_eq_true, decide_eq_true_eq] at h;have := hinc p (by omega) (by omega);omega
 ·have hr3 : r = s.length := by omega
  subst hr3;rw [List.take_length, hS q (by omega)];exact ⟨fun h => (by cases h), fun _ => ⟨inK_mid (by omega) (by omega), q + 1, by omega, by omega, by omega⟩⟩
end Go.User
namespace Go.User
theorem pairs_app (e f : List Sp.Ev) (l : List Sp.Arr) : Sp.pairs (e ++ f) l = Sp.pairs e l ++ Sp.pairs f l := by simp [Sp.pairs]
theorem counts4 {k a i : Int} (hk : 1 <= k) (hk3 : k <= 3) (ha : 0 <= a) (ha4 : a < 4) : Sp.counts (Sp.ev k a i) Sp.arrs4 = decide (a % 2 = 0) := by
 have h : a = 0 ∨ a = 1 ∨ a = 2 ∨ a = 3 := by omega
 have e1 : decide (1 <= k) = true := decide_eq_true hk
 have e2 : decide (k <= 3) = true := decide_eq_true hk3
 rcases h with rfl | rfl | rfl | rfl <;> simp [Sp.counts, Sp.ev, Sp.arrs4, hk, hk3]
theorem pairs_one {k a i : Int} (hk : 1 <= k) (hk3 : k <= 3) (ha : 0 <= a) (ha4 : a < 4) : Sp.pairs [Sp.ev k a i] Sp.arrs4 = if a % 2 = 0 then [(a, i)] else [] := by
 have hc := counts4 (i := i) hk hk3 ha ha4
 unfold Sp.pairs
 by_cases h : a % 2 = 0
 ·rw [List.filter_cons, if_pos (by rw [hc]; exact decide_eq_true h), if_pos h]; rfl
 ·rw [List.filter_cons, if_neg (by rw [hc]; simpa using h), if_neg h]; rfl
def Acc (e : List Sp.Ev) : Prop := ∀ x ∈ e, ∃ k a i, x = Sp.ev k a i /\ 1 <= k /\ k <= 3 /\ 0 <= a /\ a < 4
theorem moves_step (e : List Sp.Ev) {k a i : Int} (hk : 1 <= k) (hk3 : k <= 3) (ha : 0 <= a) (ha4 : a < 4) :
  Sp.moves e Sp.arrs4 <= Sp.moves (e ++ [Sp.ev k a i]) Sp.arrs4 /\ Sp.moves (e ++ [Sp.ev k a i]) Sp.arrs4 <= Sp.moves e Sp.arrs4 + 1 /\ (a % 2 = 1 -> Sp.moves (e ++ [Sp.ev k a i]) Sp.arrs4 = Sp.moves e Sp.arrs4) := by
 have hc := counts4 (i := i) hk hk3 ha ha4
 have hp : Sp.pairs (e ++ [Sp.ev k a i]) Sp.arrs4 = Sp.pairs e Sp.arrs4 ++ (if a % 2 = 0 then [(a, i)] else []) := by
  rw [pairs_app, pairs_one hk hk3 ha ha4]
 unfold Sp.moves
 rw [hp]
 by_cases h : a % 2 = 0
 ·rw [if_pos h, nmoves_snoc]
  refine ⟨?_, ?_, fun h1 => by omega⟩
  ·split <;> omega
  ·split <;> omega
 ·rw [if_neg h, List.append_nil]
  exact ⟨by omega, by omega, fun _ => rfl⟩
theorem wordsAt4 (e : List Sp.Ev) (he : Acc e) : Sp.wordsAt e Sp.arrs4 0 = Sp.wrd e 0 /\ Sp.wordsAt e Sp.arrs4 2 = Sp.wrd e 1 /\ Sp.wordsAt e Sp.arrs4 1 = [] /\ Sp.wordsAt e Sp.arrs4 3 = [] := by
 induction e with
 | nil => exact ⟨rfl, rfl, rfl, rfl⟩
 | cons x e ih =>
  obtain ⟨i1, i2, i3, i4⟩ := ih fun y hy => he y (List.mem_cons_of_mem _ hy)
  obtain ⟨k, a, i, rfl, hk, hk3, ha, ha4⟩ := he x (by simp);have hc := counts4 (i := i) hk hk3 ha ha4;have hw : ∀ b : Int, Sp.wordsAt (Sp.ev k a i :: e) Sp.arrs4 b = (if a % 2 = 0 /\ a = b then [i] else []) ++ Sp.wordsAt e Sp.arrs4 b := by
   intro b;show wordsOf (Sp.pairs ([Sp.ev k a i] ++ e) Sp.arrs4) b = _ ++ wordsOf (Sp.pairs e Sp.arrs4) b;rw [pairs_app];unfold wordsOf;rw [List.filter_append, List.map_append]
   congr 1
   rw [pairs_one hk hk3 ha ha4];by_cases h : a % 2 = 0
   ·by_cases hb : a = b
    ·rw [if_pos h, if_pos ⟨h, hb⟩, List.filter_cons, if_pos (beq_iff_eq.2 hb)]; rfl
    ·rw [if_pos h, if_neg (fun q => hb q.2), List.filter_cons, if_neg (fun q => hb (beq_iff_eq.1 q))]; rfl
   ·rw [if_neg h, if_neg (fun q => h q.1)]; rfl
  have hr : ∀ j : Int, Sp.wrd (Sp.ev k a i :: e) j = (if a = 2 * j then [i] else []) ++ Sp.wrd e j := by
   intro j;unfold Sp.wrd;by_cases h : a = 2 * j
   ·have hd : decide ((Sp.ev k a i).2.2.2.2.2.2.1 = 2 * j) = true := decide_eq_true h
    rw [List.filter_cons, if_pos hd, if_pos h]; rfl
   ·have hd : decide ((Sp.ev k a i).2.2.2.2.2.2.1 = 2 * j) = false := decide_eq_false h
    rw [List.filter_cons, hd, if_neg h]; rfl
  rw [hw, hw, hw, hw, hr, hr, i1, i2, i3, i4];refine ⟨?_, ?_, ?_, ?_⟩
  ·congr 1
   by_cases h : a = 0
   ·rw [if_pos ⟨by omega, h⟩, if_pos (by omega)]
   ·rw [if_neg (fun q => h q.2), if_neg (by omega)]
  ·congr 1
   by_cases h : a = 2
   ·rw [if_pos ⟨by omega, h⟩, if_pos (by omega)]
   ·rw [if_neg (fun q => h q.2), if_neg (by omega)]
  ·rw [if_neg (by omega)]; rfl
  ·rw [if_neg (by omega)]; rfl
theorem moves4 (e : List Sp.Ev) (he : Acc e) : Sp.moves e Sp.arrs4 = ((Sp.segs (Sp.wrd e 0)).length : Int) + ((Sp.segs (Sp.wrd e 1)).length : Int) := by
 obtain ⟨h0, h2, h1, h3⟩ := wordsAt4 e he
 rw [moves_sum]
 have e4 : Sp.movesTo e Sp.arrs4 Sp.arrs4.length = 0 + (segs (Sp.wordsAt e Sp.arrs4 0)).length + (segs (Sp.wordsAt e Sp.arrs4 1)).length + (segs (Sp.wordsAt e Sp.arrs4 2)).length + (segs (Sp.wordsAt e Sp.arrs4 3)).length := rfl
 rw [e4, h0, h1, h2, h3]
 have : (segs []).length = 0 := rfl
 rw [this]
 show _ = ((segs (Sp.wrd e 0)).length : Int) + ((segs (Sp.wrd e 1)).length : Int)
 omega
theorem moves_fence (e : List Sp.Ev) : Sp.moves (e ++ (4, 0, 0, 0, 0, 0, 0, 0, 0, ()) :: Sp.ev 1 4 3 :: Sp.ev 1 (-1) 3 :: Sp.ev 9 0 999 :: []) Sp.arrs4 = Sp.moves e Sp.arrs4 := by
 unfold Sp.moves
 rw [pairs_app]
 have : Sp.pairs ((4, 0, 0, 0, 0, 0, 0, 0, 0, ()) :: Sp.ev 1 4 3 :: Sp.ev 1 (-1) 3 :: Sp.ev 9 0 999 :: []) Sp.arrs4 = [] := by decide +kernel
 rw [this, List.append_nil]
theorem segs_zero (l : List Int) : (Sp.segs l).length = 0 ↔ l.length = 0 := by
 constructor
 ·intro h
  rcases Nat.eq_zero_or_pos l.length with h0 | h0
  ·exact h0
  ·obtain ⟨x, hx⟩ := List.exists_mem_of_length_pos h0
   have : 0 < (Sp.segs l).length := List.length_pos_of_mem ((mem_segs l (x / 16)).2 ⟨x, hx, rfl⟩)
   omega
 ·intro h
  have := List.eq_nil_of_length_eq_zero h
  subst this
  rfl
theorem accs_len (l : List (List Int)) : (Sp.accs l).length = min 60 l.length := by simp [Sp.accs]
theorem accs_acc (l : List (List Int)) (h : ∀ b ∈ l, ∀ x ∈ b, (0 : Int) <= x) : Acc (Sp.accs l) := by
 intro x hx
 obtain ⟨b, hb, rfl⟩ := List.mem_map.1 hx
 have hg : ∀ i, 0 <= b.getD i 0 := fun i => by
  by_cases hi : i < b.length
  ·rw [List.getD, List.getElem?_eq_getElem hi]
   exact h b (List.mem_of_mem_take hb) _ (List.getElem_mem hi)
  ·rw [List.getD, List.getElem?_eq_none (by omega)]
   exact Int.le_refl _
 have h0 := hg 0
 have h1 := hg 1
 exact ⟨_, _, _, rfl, by omega, by omega, by omega, by omega⟩
end Go.User
namespace Go.User
open Go.Lf Go.Proofs
theorem wrd_snoc (e : List Sp.Ev) (k j v q : Int) : Sp.wrd (e ++ [Sp.ev k j v]) q = Sp.wrd e q ++ (if j = 2 * q then [v] else []) := by
 unfold Sp.wrd
 rw [List.filter_append, List.map_append]
 congr 1
 by_cases h : j = 2 * q
 ·have hd : decide ((Sp.ev k j v).2.2.2.2.2.2.1 = 2 * q) = true := decide_eq_true h
  rw [List.filter_cons, if_pos hd, if_pos h]; rfl
 ·have hd : decide ((Sp.ev k j v).2.2.2.2.2.2.1 = 2 * q) = false := decide_eq_false h
  rw [List.filter_cons, hd, if_neg h]; rfl
theorem wrd_len (e : List Sp.Ev) (q : Int) : (Sp.wrd e q).length <= e.length := by
 unfold Sp.wrd
 rw [List.length_map]
 exact List.length_filter_le _ _
theorem accs_snoc (l : List (List Int)) (i : Nat) (h : i < 60) (h2 : i < l.length) :
  (Sp.accs l).take i ++ [Sp.ev (1 + (l.getD i (List.replicate 3 0)).getD 0 0 % 3) ((l.getD i (List.replicate 3 0)).getD 1 0 % 4) ((l.getD i (List.replicate 3 0)).getD 2 0)] = (Sp.accs l).take (i + 1) := by
 rw [List.take_succ_eq_append_getElem (by rw [accs_len]; omega)]
 congr 1
 have e : l.getD i (List.replicate 3 0) = l[i] := by rw [List.getD, List.getElem?_eq_getElem h2]; rfl
 rw [e]
 simp only [Sp.accs, List.getElem_map, List.getElem_take]
 rfl
theorem Acc.take {e : List Sp.Ev} (h : Acc e) (i : Nat) : Acc (e.take i) := fun x hx => h x (List.mem_of_mem_take hx)
theorem ok5 : FOk Tryd.prog 5 S5 := by
 have hC : CtxOK Tryd.prog C5 := okC (fns_cons ok9 (fns_cons ok14 (fns_cons ok16 (fns_cons ok18 fns_nil)))) rfl rfl rfl rfl rfl rfl rfl
 refine FOk.intro hC (stpS_ok hC) Tryd.call5 Tryd.func5 (by kernel_rfl) (by kernel_rfl) L5 (vc5.mpr ?_)
 simp only [zz, zy]
 rintro ⟨(l : List (List Int)), ⟨⟩⟩ hx
 have hb0 : ∀ b ∈ l, ∀ x ∈ b, (0 : Int) <= x := fun b hb x hx' => ((hx.2 b hb).2 x hx').1
 have hacc := accs_acc l hb0
 have hlen := accs_len l
 dsimp only at *
 have hA : (([], 1, 0, 256, ()) :: ([], 2, 0, 256, ()) :: ([], 1, 0, 256, ()) :: ([], 3, 0, 256, ()) :: [] : List Sp.Arr) = Sp.arrs4 := rfl
 simp only [hA]
 rw [show Int.toNat 0 = 0 from rfl, show Int.toNat 1 = 1 from rfl, show Int.toNat 2 = 2 from rfl]
 refine ⟨⟨0, ⟨by omega, by omega⟩, rfl, rfl, rfl, rfl⟩, fun i hi _ => ⟨fun ⟨i1, i2⟩ => ?_, fun hi2 => ?_⟩⟩
 ·have hsn := accs_snoc l i (by omega) (by omega)
  have hb := hb0 (l.getD i (List.replicate 3 0)) (by rw [List.getD, List.getElem?_eq_getElem (show i < l.length by omega)]; exact List.getElem_mem _)
  have hg : ∀ q, 0 <= (l.getD i (List.replicate 3 0)).getD q 0 := fun q => by
   by_cases hq : q < (l.getD i (List.replicate 3 0)).length
   ·rw [List.getD, List.getElem?_eq_getElem hq]; exact hb _ (List.getElem_mem hq)
   ·rw [List.getD, List.getElem?_eq_none (by omega)]; exact Int.le_refl _
  have g0 := hg 0
  have g1 := hg 1
  obtain ⟨k, hk⟩ : ∃ k, k = 1 + (l.getD i (List.replicate 3 0)).getD 0 0 % 3 := ⟨_, rfl⟩;obtain ⟨j, hj⟩ : ∃ j, j = (l.getD i (List.replicate 3 0)).getD 1 0 % 4 := ⟨_, rfl⟩;obtain ⟨v, hv⟩ : ∃ v, v = (l.getD i (List.replicate 3 0)).getD 2 0 := ⟨_, rfl⟩;have hEl : ((Sp.accs l).take i).length = i := by rw [List.length_take, hlen]; omega
  have w0 := wrd_len ((Sp.accs l).take i) 0
  have w1 := wrd_len ((Sp.accs l).take i) 1
  rw [<- hk, <- hj, <- hv] at hsn;rw [<- hk, <- hj, <- hv];have k1 : 1 <= k := by omega
  have k3 : k <= 3 := by omega
  have j0 : 0 <= j := by omega
  have j4 : j < 4 := by omega
  have hmv := moves_step ((Sp.accs l).take i) (i := v) k1 k3 j0 j4
  have s0 := wrd_snoc ((Sp.accs l).take i) k j v 0
  have s1 := wrd_snoc ((Sp.accs l).take i) k j v 1
  have hM : Sp.moves ((Sp.accs l).take i) Sp.arrs4 <= 1000 := by
   rw [moves4 _ (hacc.take i)];have := segs_len_le (Sp.wrd ((Sp.accs l).take i) 0);have := segs_len_le (Sp.wrd ((Sp.accs l).take i) 1);have e0 : (Sp.segs (Sp.wrd ((Sp.accs l).take i) 0)).length = (segs (Sp.wrd ((Sp.accs l).take i) 0)).length := rfl;have e1 : (Sp.segs (Sp.wrd ((Sp.accs l).take i) 1)).length = (segs (Sp.wrd ((Sp.accs l).take i) 1)).length := rfl;omega
  have hM0 : 0 <= Sp.moves ((Sp.accs l).take i) Sp.arrs4 := by unfold Sp.moves; omega
  rw [hsn] at s0 s1 hmv;rw [hsn];have hEl2 : ((Sp.accs l).take (i + 1)).length = i + 1 := by rw [List.length_take, hlen]; omega
  have hA4 : Sp.arrs4.length <= 1000 := by decide
  rw [hEl, hEl2];clear hk hj hv hb hg g0 g1 hsn hb0;generalize Sp.wrd ((Sp.accs l).take i) 0 = W0 at *;generalize Sp.wrd ((Sp.accs l).take i) 1 = W1 at *;generalize Sp.moves ((Sp.accs l).take i) Sp.arrs4 = M at *;have hsum : ∀ y, y = i + 1 -> Sp.moves ((Sp.accs l).take (i + 1)) Sp.arrs4 = Sp.moves ((Sp.accs l).take y) Sp.arrs4 := fun y hy => by rw [hy]
  generalize hM' : Sp.moves ((Sp.accs l).take (i + 1)) Sp.arrs4 = M' at *
  obtain ⟨m1, m2, m3⟩ := hmv;have hbad : ∀ b : Bool, (j.tmod 2 == 1) = b -> (b = true -> M' = M) -> ((decide (M' < M) || decide (M + 1 < M') || decide (M < M') && (j.tmod 2 == 1)) = true -> False) := by
   intro b hb he h;rw [hb] at h;simp only [Bool.or_eq_true, Bool.and_eq_true, decide_eq_true_eq] at h;rcases h with (h | h) | ⟨h1, h2⟩
   ·omega
   ·omega
   ·have := he h2; omega
  refine ⟨⟨inN_of i1, ⟨by omega, by omega⟩, by decide, inK_mid (by omega) (by omega), inN_of i1, ⟨by omega, by omega⟩, by decide, inN_of i1, ⟨by omega, by omega⟩⟩, by rw [maxNew_eq]; omega, by decide, fun ht => ?_, fun ht => ?_⟩
  ·have h : j = 0 ∨ j = 2 := by
    have : j = 0 ∨ j = 1 ∨ j = 2 ∨ j = 3 := by omega
    rcases this with rfl | rfl | rfl | rfl
    ·exact .inl rfl
    ·exact absurd ht (by decide)
    ·exact .inr rfl
    ·exact absurd ht (by decide)
   have hb := hbad false (by rw [ht]; rfl) (fun h => by cases h)
   have hle : W0.length <= 60 /\ W1.length <= 60 := by omega
   rcases h with rfl | rfl
   ·rw [if_pos (by omega)] at s0
    rw [if_neg (by omega), List.append_nil] at s1;exact ⟨⟨⟨by decide, inK_mid (by decide) (by decide)⟩, ⟨by decide, inK_mid (by decide) (by decide)⟩, ⟨by decide, show Int.tdiv 0 2 < ((2 : Nat) : Int) from by decide⟩, by rw [maxNew_eq]; show ((W0.length + 1 : Nat) : Int) <= _; omega, by decide, show Int.tdiv 0 2 < ((2 : Nat) : Int) from by decide⟩, ⟨by omega, hA4⟩, ⟨fun _ => inK_mid (by omega) (by omega), fun _ => by decide⟩, hb, fun _ => ⟨inK_mid (by omega) (by omega), i + 1, ⟨by omega, by omega⟩, by omega, rfl, by rw [s0, s1]; rfl, hsum _ rfl, by omega⟩⟩
   ·rw [if_neg (by omega), List.append_nil] at s0
    rw [if_pos (by omega)] at s1;exact ⟨⟨⟨by decide, inK_mid (by decide) (by decide)⟩, ⟨by decide, inK_mid (by decide) (by decide)⟩, ⟨by decide, show Int.tdiv 2 2 < ((2 : Nat) : Int) from by decide⟩, by rw [maxNew_eq]; show ((W1.length + 1 : Nat) : Int) <= _; omega, by decide, show Int.tdiv 2 2 < ((2 : Nat) : Int) from by decide⟩, ⟨by omega, hA4⟩, ⟨fun _ => inK_mid (by omega) (by omega), fun _ => by decide⟩, hb, fun _ => ⟨inK_mid (by omega) (by omega), i + 1, ⟨by omega, by omega⟩, by omega, rfl, by rw [s0, s1]; rfl, hsum _ rfl, by omega⟩⟩
  ·have h : j = 1 ∨ j = 3 := by
    have : j = 0 ∨ j = 1 ∨ j = 2 ∨ j = 3 := by omega
    rcases this with rfl | rfl | rfl | rfl
    ·exact absurd rfl ht
    ·exact .inl rfl
    ·exact absurd rfl ht
    ·exact .inr rfl
   have hb := hbad true (by rcases h with rfl | rfl <;> rfl) (fun _ => m3 (by omega))
   rw [if_neg (by omega), List.append_nil] at s0;rw [if_neg (by omega), List.append_nil] at s1;exact ⟨⟨by omega, hA4⟩, ⟨fun _ => inK_mid (by omega) (by omega), fun _ => by decide⟩, hb, fun _ => ⟨inK_mid (by omega) (by omega), i + 1, ⟨by omega, by omega⟩, by omega, rfl, by rw [s0, s1], hsum _ rfl, by omega⟩⟩
 ·have hE : (Sp.accs l).take i = Sp.accs l := List.take_of_length_le (by
   rw [Bool.and_eq_false_iff] at hi2;simp at hi2;omega)
  rw [hE, moves_fence];have h4 := moves4 _ hacc;have w0 := wrd_len (Sp.accs l) 0;have w1 := wrd_len (Sp.accs l) 1;have z0 := segs_zero (Sp.wrd (Sp.accs l) 0);have z1 := segs_zero (Sp.wrd (Sp.accs l) 1);have l0 : (Sp.segs (Sp.wrd (Sp.accs l) 0)).length <= (Sp.wrd (Sp.accs l) 0).length := segs_len_le _;have l1 : (Sp.segs (Sp.wrd (Sp.accs l) 1)).length <= (Sp.wrd (Sp.accs l) 1).length := segs_len_le _;have g0 : [Sp.wrd (Sp.accs l) 0, Sp.wrd (Sp.accs l) 1].getD 0 [] = Sp.wrd (Sp.accs l) 0 := rfl;have g1 : [Sp.wrd (Sp.accs l) 0, Sp.wrd (Sp.accs l) 1].getD 1 [] = Sp.wrd (Sp.accs l) 1 := rfl;rw [g0, g1];rw [h4];have hA4 : Sp.arrs4.length <= 1000 := by decide
  generalize Sp.wrd (Sp.accs l) 0 = W0 at *
  generalize Sp.wrd (Sp.accs l) 1 = W1 at *
  have hq : (((W0.length : Int) + (W1.length : Int)) == 0) = (((Sp.segs W0).length : Int) + ((Sp.segs W1).length : Int) == 0) := by
   rw [Bool.eq_iff_iff, beq_iff_eq, beq_iff_eq];omega
  have hle : ((Sp.segs W0).length : Int) + ((Sp.segs W1).length : Int) <= (W0.length : Int) + (W1.length : Int) := by omega
  exact ⟨⟨⟨by decide, show (0 : Int) < ((2 : Nat) : Int) from by decide⟩, ⟨by decide, show (1 : Int) < ((2 : Nat) : Int) from by decide⟩, inK_mid (by omega) (by omega)⟩, ⟨⟨by decide, show (0 : Int) < ((2 : Nat) : Int) from by decide⟩, by omega, ⟨by decide, show (1 : Int) < ((2 : Nat) : Int) from by decide⟩, by omega⟩,
   ⟨by rw [maxNew_eq]; omega, by rw [maxNew_eq]; show (((Sp.accs l).length + 4 : Nat) : Int) <= _; omega⟩, ⟨fun _ => inK_mid (by omega) (by omega), fun _ => ⟨by rw [List.length_append]; show _ + 4 <= _; omega, hA4⟩⟩, ⟨⟨hle, hq⟩, rfl⟩, rfl⟩
end Go.User
namespace Go.Proofs.YtghhmompjooecaaDoor
open Go.ChangeShapes Go.WideShapes Go.ChangeAt Go.RowKit Go.Proofs Go.Lf

set_option maxRecDepth 100000 in
theorem coalesceMoves_lifted (hF : FOk Tryd.prog 5 Go.User.S5) (os : Os) (started : os.Started) (H : Type) (enc : TypeId × Value -> H) :
  ReturnsInHanded {} Tryd.checked os 5 .any (fun w args => (Rows.coalesceMovesSpec.pre enc Tryd.prog Tryd.f5 [] false w args /\ laidMetH Tryd.prog Tryd.laid w) /\ sizedMet enc Tryd.prog Tryd.f5 (OpenSpec.ofChange Rows.coalesceMovesSpec) false w args) (Rows.coalesceMovesSpec.post enc Tryd.prog Tryd.f5 false true false false) := by
 refine returnsInHanded_of_change_and (C := Tryd.checked) (X := fun w _ => laidMetH Tryd.prog Tryd.laid w) (fun _ _ _ hh h => h.of_heap hh) Tryd.own started (by kernel_rfl) Tryd.func5
  (ChangeSpec.witness_shaped (enc := enc) (C := Tryd.checked) (os := os) (X := fun w _ => laidMetH Tryd.prog Tryd.laid w) false (World.doorLaid Tryd.prog 400 os) #[.slice none 0 0] 8 rfl (World.shaped_of_RefB (by kernel_rfl) (by kernel_rfl)) (by kernel_rfl) (by kernel_rfl) (by kernel_rfl) (Tryd.door_met os _)) ?_
 intro W base args ds gs before hval0 hW _ hsz0 hL _
 have hsz : (DataW.weightsEach Tryd.prog (Tryd.f5.params.toList ++ Rows.coalesceMovesSpec.plain.varTypes Tryd.prog) (ds ++ gs)).all (· <= reachBytes) = true := hsz0
 clear hsz0
 have hG := Tryd.glb hL
 have hval : ∀ (j : Nat) t v, Tryd.f5.params[j]? = some t -> args[j]? = some v -> Value.okWide Tryd.prog W .any base t v := hval0
 have hW' := hW
 obtain ⟨p, q, hA0, hV, rfl, _, _⟩ := hW
 have hA : DataW.TrodAll enc Tryd.prog W 0 (fun _ => true) true Tryd.f5.params.toList args.toList ds p := hA0
 rw [Tryd.params5] at hA hval hsz
 obtain ⟨v0, d0, rfl, rfl, h0⟩ := trodAll_one hA
 obtain ⟨rfl, rfl⟩ := trodVars_none hV
 clear hA0 hval0
 simp only [List.append_nil] at hW'
 have hlt0 : ∀ x ∈ p, x.block < W.heap.size := fun x hx => hW'.lt x (by simp [hx])
 obtain ⟨x0, hx0⟩ := arg_of (τ := .slice (.arr 3 (.int .u8))) (by kernel_rfl) (hval 0 44 v0 rfl rfl) h0 hlt0 (sz_of hsz (j := 0) rfl rfl)
 have hcall := hF.2 W (fun b => b < W.heap.size) [v0] (x0, ()) hG (fun b h => h) ⟨v0, [], rfl, hx0, rfl⟩ trivial
 refine hcall.mono ?_
 rintro e W' ⟨v, F', S', rfl, hb, _, _, _, _, hv⟩
 have hv : OwnV F' W' .bool .shr S' v true := hv
 have := hv.bool_eq
 subst this
 have hargs0 := Below.trod Tryd.laidOut (by kernel_rfl) (of_decide_eq_true (by kernel_rfl)) h0 hb hlt0
 refine ⟨_, rfl, _, _, _, [], p, [], hW', ?_, trodAll_mk1 hargs0, rfl, hb.frame _, fun h => by cases h⟩
 exact trodAll_mk1 (shut_bool Tryd.underlying4 true)

theorem coalesceMoves_row : Rows.CoalesceMovesSaid :=
 OpenClaim.holds_of_wide 5 Tryd.f5 rfl rfl rfl rfl rfl rfl rfl ⟨rfl, rfl, rfl, rfl, rfl⟩ rfl rfl rfl rfl rfl (by kernel_rfl) Tryd.func5 (by kernel_rfl)
  (of_decide_eq_true (by kernel_rfl)) (by unfold Func.isWrapper; first | (rw [if_pos (by decide +kernel)]; kernel_rfl) | (rw [if_neg (by decide +kernel)]; exact ⟨rfl, rfl⟩))
  (fun os started H enc _ => coalesceMoves_lifted Go.User.ok5 os started H enc)
theorem coalesceMoves_holds : Rows.CoalesceMovesCardSaid :=
 Claim7.holds_tied_plain_at .later [] [.data] true (true, "d5983a9aa6b571c4b2995309dc6bd9fb9601bb370d8130d876cb1f606cecb1f5") false
  coalesceMoves_row (fun _ h => by cases h) (by kernel_rfl) (fun _ h => by cases h) coalesceMoves_row_tie rfl ⟨rfl, rfl⟩ (by kernel_rfl) rfl
  (fun f fn hf hfn => by
   obtain rfl : f = 5 := Option.some.inj ((show Tryd.prog.funcNamed "warpwright/warpwrightlaw22.CoalesceMoves" = some 5 by kernel_rfl).symm.trans hf) |>.symm
   obtain rfl : fn = Tryd.f5 := (Option.some.inj (Tryd.func5.symm.trans hfn)).symm
   exact ⟨by kernel_rfl, fun j t ht => by
    rw [Tryd.params5] at ht;have hm : t ∈ [44] := by simpa using Array.mem_of_getElem? ht
    have hall : ([44].all fun u => !Tryd.prog.wantsStandIn u) = true := by kernel_rfl
    exact (show Tryd.prog.wantsStandIn t = false by simpa using List.all_eq_true.1 hall t hm)⟩)
  (by kernel_rfl)
end Go.Proofs.YtghhmompjooecaaDoor
