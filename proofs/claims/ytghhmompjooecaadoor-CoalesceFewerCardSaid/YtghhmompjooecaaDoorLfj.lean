/- Segments: the reference's Form, Lanes, Static, Moves, words compute what they should. Segments: the reference's Static, Moves, words; the number of ones. Segments: the reference's Moves; words; the number of ones. The number of ones: OnesCount64. Bounds of transactions: plain facts. Sharp bounds: plain facts. Contracts of the library at this program (written by lay-plain.mjs). Segments: what it hands back. Segments computes the segments. Bits: the number of trailing and of leading zeros. The places of the ones of a number: the lowest, the highest, without the lowest. Ranges over a function whose iterator keeps state of its own in memory: a law for the caller. The places of the ones of a set: the function over which Static ranges. How many ones: the walk of OnesCount64. How many segments: Segments' contract for a walk. Static: the walk, where the rest has one element. Static: the walk, where there is no lane, or all is allowed, or the rest has more than one element. -/
import Derived.Test.YtghhmompjooecaaDoorLfi
import Derived.Shelf.SlIterI.Nil
import Derived.Shelf.SortM.Plain
import Derived.Shelf.SortM.SortNone
import Derived.Ground.GgzProg
import Derived.Ground.SlgmProg
import Derived.Test.YtghhmompjooecaaDoorProg
import Derived.Maps.OwnSet
import Derived.Maps.OwnIn
import Derived.OwnWalkIn
import Derived.TacticsInMore
import Derived.LoopNIn
import Derived.LoopIn
import Derived.WalkKit
import Derived.Shelf.Spec.TrailingZeros
import Derived.Lib.TrailingZeros
import Derived.Lib.BitFns
import Derived.RangeFuncWrites
import Derived.RangeFuncLeaves
import Derived.RangeFuncBox
import Derived.Shelf.Abstract
import Derived.Maps.AppendAt
import Derived.RangeFuncNested
set_option linter.unusedVariables false
set_option linter.unusedSimpArgs false
namespace Go.User
open Go.Lf Go.Proofs
theorem ok10 : FOk Tryd.prog 10 S10 := by
 refine FOk.intro (okA fns_nil) (stpS_ok (okA fns_nil)) Tryd.call10 Tryd.func10 (by kernel_rfl) (by kernel_rfl) L10 (vc10.mpr ?_)
 simp only [zz, zy]
 rintro ⟨⟨any, (it : Int), (lo : Int), (gr : Int), (rl : Int), (st : Int), (n : Int), great, ⟨⟩⟩, ⟨⟩⟩ hx
 have h1 : (-32768 : Int) <= it := hx.2.1.1
 have h1' : it <= (32767 : Int) := hx.2.1.2
 have h4 : (-2147483648 : Int) <= rl := hx.2.2.2.2.1.1
 have h4' : rl <= (2147483647 : Int) := hx.2.2.2.2.1.2
 have h5 : (0 : Int) <= st := hx.2.2.2.2.2.1.1
 have h5' : st <= (65535 : Int) := hx.2.2.2.2.2.1.2
 have h6 : (0 : Int) <= n := hx.2.2.2.2.2.2.1.1
 have h6' : n <= (65535 : Int) := hx.2.2.2.2.2.2.1.2
 clear hx
 dsimp only at *
 have hw : IntKind.i64.wrap (it * 2 ^ shiftN IntKind.i64 24) = it * 16777216 := by
  show IntKind.i64.wrap (it * 16777216) = _
  exact inK_wrap (inK_of (by omega) (by omega))
 have hm : (st % 64 + 1) * (n % 8) <= 64 * 7 := Int.mul_le_mul (by omega) (by omega) (by omega) (by omega)
 have hm0 : 0 <= (st % 64 + 1) * (n % 8) := Int.mul_nonneg (by omega) (by omega)
 generalize hP : (st % 64 + 1) * (n % 8) = P at *
 refine ⟨fun hg => ⟨by decide, by decide, fun hn => ⟨⟨by decide, inK_mid (by omega) (by omega)⟩, ⟨by decide, inK_mid (by omega) (by omega), inK_of (by omega) (by omega)⟩, ?_⟩, fun hn => ?_⟩, fun hg => ⟨by decide, fun hn => ⟨⟨by decide, inK_mid (by omega) (by omega)⟩, ⟨by decide, inK_mid (by omega) (by omega), inK_of (by omega) (by omega)⟩, ?_⟩, fun hn => ?_⟩⟩
 ·simp [Sp.fItem, Sp.fSt, Sp.fHi, hw, hg, hP, hn]
 ·simp [Sp.fItem, Sp.fSt, Sp.fHi, hw, hg, show ¬ 0 < n % 8 by omega]
 ·simp [Sp.fItem, Sp.fSt, Sp.fHi, hg, hP, hn]
 ·simp [Sp.fItem, Sp.fSt, Sp.fHi, hg, show ¬ 0 < n % 8 by omega]
theorem lanes_zero (set : Int) (n : Int) (h : n <= 0) : Sp.lanes n set = [] := by
 unfold Sp.lanes
 rw [List.map_eq_nil_iff, List.filter_eq_nil_iff]
 intro i _
 simp
 omega
theorem lanes_snoc (set : Int) (i : Nat) (hi : i < 64) : Sp.lanes ((i + 1 : Nat) : Int) set = Sp.lanes (i : Int) set ++ (if Nat.testBit set.toNat i then [(i : Int)] else []) := by
 unfold Sp.lanes
 have key : ∀ k, i + 1 <= k -> (List.range k).filter (fun (j : Nat) => decide ((j : Int) < ((i + 1 : Nat) : Int)) && Nat.testBit set.toNat j) =
   (List.range k).filter (fun (j : Nat) => decide ((j : Int) < (i : Int)) && Nat.testBit set.toNat j) ++ (if Nat.testBit set.toNat i then [i] else []) := by
  intro k
  induction k with
  | zero => intro h; omega
  | succ k ih =>
   intro h;rw [List.range_succ, List.filter_append, List.filter_append];by_cases hk : k = i
   ·subst hk
    have e1 : (List.range k).filter (fun (j : Nat) => decide ((j : Int) < ((k + 1 : Nat) : Int)) && Nat.testBit set.toNat j) = (List.range k).filter (fun (j : Nat) => decide ((j : Int) < (k : Int)) && Nat.testBit set.toNat j) := by
     refine List.filter_congr fun j hj => ?_
     have := List.mem_range.1 hj
     rw [show decide ((j : Int) < ((k + 1 : Nat) : Int)) = true from decide_eq_true (by omega), show decide ((j : Int) < (k : Int)) = true from decide_eq_true (by omega)]
    rw [e1, List.append_assoc]
    congr 1
    have : decide ((k : Int) < ((k + 1 : Nat) : Int)) = true := decide_eq_true (by omega)
    have h2 : decide ((k : Int) < (k : Int)) = false := decide_eq_false (by omega)
    simp only [List.filter_cons, List.filter_nil, this, h2, Bool.true_and, Bool.false_and]
    simp
   ·rw [ih (by omega)]
    have h1 : decide ((k : Int) < ((i + 1 : Nat) : Int)) = false := decide_eq_false (by omega)
    have h2 : decide ((k : Int) < (i : Int)) = false := decide_eq_false (by omega)
    simp only [List.filter_cons, List.filter_nil, h1, h2, Bool.false_and]
    simp
 rw [key 64 (by omega), List.map_append]
 congr 1
 split <;> rfl
theorem lanes_full (set n : Int) (h : 64 <= n) : Sp.lanes n set = Sp.lanes 64 set := by
 unfold Sp.lanes
 congr 1
 refine List.filter_congr fun j hj => ?_
 have := List.mem_range.1 hj
 rw [show decide ((j : Int) < n) = true from decide_eq_true (by omega), show decide ((j : Int) < 64) = true from decide_eq_true (by omega)]
theorem lanes_min (set n : Int) (i : Nat) (h : n <= i ∨ 64 <= i) : Sp.lanes (min n (i : Int)) set = Sp.lanes n set := by
 rcases h with h | h
 ·rw [show min n (i : Int) = n by omega]
 ·by_cases hn : n <= i
  ·rw [show min n (i : Int) = n by omega]
  ·rw [lanes_full set n (by omega), show min n (i : Int) = i by omega, lanes_full set i (by omega)]
theorem lanes_len (n set : Int) : (Sp.lanes n set).length <= 64 := by
 unfold Sp.lanes
 rw [List.length_map]
 exact Nat.le_trans (List.length_filter_le _ _) (by simp)
theorem mem_lanes {n set y : Int} : y ∈ Sp.lanes n set ↔ ∃ i : Nat, i < 64 /\ (i : Int) < n /\ Nat.testBit set.toNat i = true /\ y = i := by
 unfold Sp.lanes
 rw [List.mem_map]
 constructor
 ·rintro ⟨i, hi, rfl⟩
  obtain ⟨h1, h2⟩ := List.mem_filter.1 hi;simp at h2;exact ⟨i, List.mem_range.1 h1, h2.1, h2.2, rfl⟩
 ·rintro ⟨i, h1, h2, h3, rfl⟩
  exact ⟨i, List.mem_filter.2 ⟨List.mem_range.2 h1, by simp [h2, h3]⟩, rfl⟩
theorem lanes_ok (n set : Int) : Sp.lanesOk (Sp.lanes n set) := ⟨lanes_len n set, fun x hx => by
 obtain ⟨i, h1, _, _, rfl⟩ := mem_lanes.1 hx
 omega⟩
theorem lanes_strict (n set : Int) : Strict (Sp.lanes n set) := by
 unfold Sp.lanes Strict
 rw [List.pairwise_map]
 exact (List.Pairwise.filter _ List.pairwise_lt_range).imp fun h => by
  show (_ : Int) < _
  exact Int.ofNat_lt.2 h
theorem bit_of (a : Int) (i : Nat) (h0 : 0 <= a) (h1 : a <= 18446744073709551615) (hi : i < 64) :
  (IntKind.u64.wrap (↑(BitVec.ofInt 64 (a / 2 ^ shiftN IntKind.u64 (IntKind.u64.wrap (i : Int))) &&& BitVec.ofInt 64 1).toNat : Int) = 1) ↔ Nat.testBit a.toNat i = true := by
 obtain ⟨x, rfl⟩ : ∃ x : Nat, a = x := ⟨a.toNat, by omega⟩
 have hs : shiftN IntKind.u64 (IntKind.u64.wrap (i : Int)) = i := by
  have : IntKind.u64.wrap (i : Int) = i := inK_wrap (k := .u64) ⟨by show (0 : Int) <= _; omega, by show _ <= (18446744073709551615 : Int); omega⟩
  rw [this];unfold shiftN;show min (i : Int).toNat 64 = i
  simp
  omega
 rw [hs]
 have e : ((x : Int) / 2 ^ i) = ((x / 2 ^ i : Nat) : Int) := by push_cast; rfl
 rw [e]
 have e1 : (BitVec.ofInt 64 ((x / 2 ^ i : Nat) : Int) &&& BitVec.ofInt 64 1).toNat = x / 2 ^ i % 2 := by
  rw [BitVec.toNat_and];have h2 : (BitVec.ofInt 64 ((x / 2 ^ i : Nat) : Int)).toNat = x / 2 ^ i := by
   rw [BitVec.ofInt_natCast, BitVec.toNat_ofNat, Nat.mod_eq_of_lt];have := Nat.div_le_self x (2 ^ i);omega
  have h3 : (BitVec.ofInt 64 1).toNat = 1 := by decide
  rw [h2, h3, Nat.and_one_is_mod]
 rw [e1]
 have hw : IntKind.u64.wrap ((x / 2 ^ i % 2 : Nat) : Int) = ((x / 2 ^ i % 2 : Nat) : Int) := inK_wrap (k := .u64) ⟨by show (0 : Int) <= _; omega, by show _ <= (18446744073709551615 : Int); omega⟩
 rw [hw, show ((x : Int)).toNat = x from rfl, Nat.testBit_eq_decide_div_mod_eq]
 simp
 omega

theorem ok19 : FOk Tryd.prog 19 S19 := by
 refine FOk.intro (okA fns_nil) (stpS_ok (okA fns_nil)) Tryd.call19 Tryd.func19 (by kernel_rfl) (by kernel_rfl) L19 (vc19.mpr ?_)
 simp only [zz, zy]
 rintro ⟨(n : Int), (a : Int), ⟨⟩⟩ hx
 have ha0 : (0 : Int) <= a := hx.2.1
 have ha1 : a <= (18446744073709551615 : Int) := hx.2.2
 dsimp only at *
 refine ⟨⟨0, Nat.zero_le _, (lanes_zero a _ (by omega)).symm, rfl⟩, fun i hi hdi => ⟨fun ⟨h1, h2⟩ => ?_, fun h => ?_⟩⟩
 ·have hw : IntKind.u64.wrap (i : Int) = i := inK_wrap (k := .u64) ⟨by show (0 : Int) <= _; omega, by show _ <= (18446744073709551615 : Int); omega⟩
  have hmin : min n (i : Int) = i := by omega
  have hmin2 : min n ((i + 1 : Nat) : Int) = ((i + 1 : Nat) : Int) := by omega
  have hb := bit_of a i ha0 ha1 (by omega)
  refine ⟨by rw [hw]; omega, fun hb1 => ?_, fun hb1 => ?_⟩
  ·have := lanes_len (min n (i : Int)) a
   refine ⟨by rw [maxNew_eq]; omega, inK_mid (by omega) (by omega), i + 1, by omega, by omega, ?_, by omega⟩
   rw [hmin, hmin2, lanes_snoc a i (by omega), if_pos (hb.1 hb1)]
  ·refine ⟨inK_mid (by omega) (by omega), i + 1, by omega, by omega, ?_, by omega⟩
   rw [hmin, hmin2, lanes_snoc a i (by omega), if_neg (fun h => hb1 (hb.2 h)), List.append_nil]
 ·refine lanes_min a n i ?_
  rw [Bool.and_eq_false_iff] at h;simp at h;omega
end Go.User
namespace Go.User
open Go.Lf Go.Proofs
theorem segsAt_snoc (s c : Int) (l : List Int) (i : Nat) (h : i < l.length) : Sp.segsAt s c (l.take (i + 1)) = Sp.added (Sp.segsAt s c (l.take i)) ((c + s * l.getD i 0) / 16) := by
 unfold Sp.segsAt Sp.added Sp.segs
 rw [List.take_succ_eq_append_getElem h, List.map_append, List.map_cons, List.map_nil, segs_snoc]
 simp [List.getD, List.getElem?_eq_getElem h]
theorem segsAt_len (s c : Int) (l : List Int) : (Sp.segsAt s c l).length <= l.length := by
 have := segs_len_le (l.map fun i => c + s * i)
 rw [List.length_map] at this
 exact this
theorem segsAt_strict (s c : Int) (l : List Int) : Strict (Sp.segsAt s c l) := segs_strict _
theorem maxSegs_le (s : Int) (l : List Int) : ∀ k, Sp.maxSegs s l k <= l.length
 | 0 => Nat.zero_le _
 | k + 1 => by
  have h1 := maxSegs_le s l k
  have h2 := segsAt_len s k l
  unfold Sp.maxSegs;omega
theorem mul_bound {s x : Int} (h1 : -4398046511104 <= s) (h2 : s <= 4398046511104) (h3 : 0 <= x) (h4 : x <= 64) : -281474976710656 <= s * x /\ s * x <= 281474976710656 := by
 rcases Int.lt_or_le s 0 with h | h
 ·have a : (-s) * x <= 4398046511104 * 64 := Int.mul_le_mul (by omega) h4 h3 (by omega)
  have b : 0 <= (-s) * x := Int.mul_nonneg (by omega) h3
  rw [Int.neg_mul] at a b;omega
 ·have a : s * x <= 4398046511104 * 64 := Int.mul_le_mul h2 h4 h3 (by omega)
  have b : 0 <= s * x := Int.mul_nonneg h h3
  omega
theorem strict_first {l : List Int} (h : Strict l) (hl : 0 < l.length) : l.getD 0 0 <= Sp.lastI l := by
 unfold Sp.lastI
 by_cases h0 : l.length - 1 = 0
 ·rw [h0]
  exact Int.le_refl _
 ·have := List.pairwise_iff_getElem.1 h 0 (l.length - 1) hl (by omega) (by omega)
  simp only [List.getD, List.getElem?_eq_getElem hl, List.getElem?_eq_getElem (show l.length - 1 < l.length by omega), Option.getD_some]
  omega
theorem lanesOk_getD {l : List Int} (h : Sp.lanesOk l) (i : Nat) : 0 <= l.getD i 0 /\ l.getD i 0 < 64 := by
 by_cases hi : i < l.length
 ·simp only [List.getD, List.getElem?_eq_getElem hi, Option.getD_some]
  exact h.2 _ (List.getElem_mem hi)
 ·rw [List.getD, List.getElem?_eq_none (by omega)]
  simp

theorem ok12 : FOk Tryd.prog 12 S12 := by
 have hC : CtxOK Tryd.prog C12 := okC (fns_cons ok19 (fns_cons ok26 (fns_cons ok27 fns_nil))) rfl rfl rfl rfl rfl rfl rfl
 refine FOk.intro hC (stpS_ok hC) Tryd.call12 Tryd.func12 (by kernel_rfl) (by kernel_rfl) L12 (vc12.mpr ?_)
 simp only [zz, zy]
 rintro ⟨⟨any, (it : Int), (lc : Int), (gr : Int), ⟨(lo : Int), (hi : Int), (st : Int), ⟨⟩⟩, ⟨⟩⟩, (n : Int), (set : Int), ⟨⟩⟩ hu hx
 obtain ⟨⟨u1, u2⟩, ⟨u3, u4⟩, ⟨u5, u6⟩, ⟨u7, u8⟩, u9, u10, u11⟩ := hu
 simp only [Sp.loOf, Sp.hiOf, Sp.stOf] at u5 u6 u7 u8 u9 u10 u11
 clear hx
 dsimp only at *
 have hL := lanes_ok n set
 have hS := lanes_strict n set
 generalize Sp.lanes n set = l at *
 have hll := hL.1
 have hs1 : -4398046511104 <= it + lc := by omega
 have hs2 : it + lc <= 4398046511104 := by omega
 have hg := lanesOk_getD hL
 refine ⟨fun h => ?_, fun ⟨h1, h2⟩ => ⟨inK_of (by omega) (by omega), fun h3 => ⟨⟨0, by omega, rfl, rfl⟩, fun c hc hdc => ⟨fun hc2 => ⟨⟨0, by omega, rfl, rfl⟩, fun i hii hdi => ⟨fun hi2 => ?_, fun hi2 => ?_⟩⟩, fun hc2 => ?_⟩⟩, fun h3 => ?_⟩⟩
 ·unfold Sp.static
  rw [if_pos]
  simpa using h
 ·have hi3 : i < l.length := by omega
  obtain ⟨g1, g2⟩ := hg i;obtain ⟨m1, m2⟩ := mul_bound hs1 hs2 g1 (by omega);refine ⟨⟨inN_of hi2, inK_of (by omega) (by omega), inK_of (by omega) (by omega), ?_, segsAt_strict _ _ _⟩, inK_mid (by omega) (by omega), i + 1, by omega, by omega, ?_, by omega⟩
  ·refine Nat.le_trans (segsAt_len _ _ _) ?_
   rw [List.length_take];omega
  ·exact (segsAt_snoc _ _ _ _ hi3).symm
 ·have : i = l.length := by omega
  subst this;rw [List.take_length];refine ⟨inK_mid (by omega) (by omega), c + 1, by omega, by omega, ?_, by omega⟩
  show max (_ : Int) _ = ((max (Sp.maxSegs _ l c) _ : Nat) : Int)
  omega
 ·have : c = 16 := by omega
  subst this;unfold Sp.static;rw [if_neg (by simp [h2]; intro h; exact h1 (by simp [h])), if_pos (show Sp.loOf (any, it, lc, gr, (lo, hi, st, ()), ()) = Sp.hiOf (any, it, lc, gr, (lo, hi, st, ()), ()) from h3)]
 ·have hn0 : 0 < l.length := by omega
  have e1 : ((l.length : Int) - 1).toNat = l.length - 1 := by omega
  have e2 : Int.toNat 0 = 0 := rfl
  rw [e1, e2];have hf := strict_first hS hn0;have a1 := hg 0;have a2 := hg (l.length - 1);have hlast : l.getD (l.length - 1) 0 = Sp.lastI l := rfl;rw [hlast] at a2 ⊢;have hst : Sp.static (any, it, lc, gr, (lo, hi, st, ()), ()) l = min (l.length : Int) ((Sp.absI (it + lc) * (Sp.lastI l - l.getD 0 0) + hi - lo - 1) / 16 + 2) := by
   unfold Sp.static;rw [if_neg (by simp [h2]; intro h; exact h1 (by simp [h])), if_neg (show ¬ Sp.loOf (any, it, lc, gr, (lo, hi, st, ()), ()) = Sp.hiOf (any, it, lc, gr, (lo, hi, st, ()), ()) from h3)]
   rfl
  rw [hst];have key : ∀ s : Int, 0 <= s -> s <= 4398046511104 -> s = Sp.absI (it + lc) ->
    (inK .i64 ((l.length : Int) - 1) /\ inN ((l.length : Int) - 1) l.length /\ inN 0 l.length /\ inK .i64 (Sp.lastI l - l.getD 0 0) /\ inK .i64 (s * (Sp.lastI l - l.getD 0 0)) /\ inK .i64 (s * (Sp.lastI l - l.getD 0 0) + hi) /\ inK .i64 (s * (Sp.lastI l - l.getD 0 0) + hi - lo)) /\
    (inK .i64 (s * (Sp.lastI l - l.getD 0 0) + hi - lo - 1) /\ (¬(16 : Int) = 0 /\ inK .i64 ((s * (Sp.lastI l - l.getD 0 0) + hi - lo - 1).tdiv 16)) /\ inK .i64 ((s * (Sp.lastI l - l.getD 0 0) + hi - lo - 1).tdiv 16 + 2)) /\
    Min.min (l.length : Int) ((s * (Sp.lastI l - l.getD 0 0) + hi - lo - 1).tdiv 16 + 2) = min (l.length : Int) ((Sp.absI (it + lc) * (Sp.lastI l - l.getD 0 0) + hi - lo - 1) / 16 + 2) := by
   intro s hs0 hs1 hse;obtain ⟨m1, m2⟩ := mul_bound (s := s) (x := Sp.lastI l - l.getD 0 0) (by omega) hs1 (by omega) (by omega);have m0 : 0 <= s * (Sp.lastI l - l.getD 0 0) := Int.mul_nonneg hs0 (by omega);rw [<- hse];generalize hP : s * (Sp.lastI l - l.getD 0 0) = P at *;have hlt : lo < hi := by omega
   have et : (P + hi - lo - 1).tdiv 16 = (P + hi - lo - 1) / 16 := Int.tdiv_eq_ediv_of_nonneg (by omega)
   rw [et];refine ⟨⟨inK_mid (by omega) (by omega), ⟨by omega, by omega⟩, ⟨by omega, by omega⟩, inK_of (by omega) (by omega), inK_of (by omega) (by omega), inK_of (by omega) (by omega), inK_of (by omega) (by omega)⟩, ⟨inK_of (by omega) (by omega), ⟨by decide, inK_of (by omega) (by omega)⟩, inK_of (by omega) (by omega)⟩, rfl⟩
  refine ⟨fun hneg => ⟨inK_of (by omega) (by omega), ?_⟩, fun hpos => ?_⟩
  ·exact key (0 - (it + lc)) (by omega) (by omega) (by unfold Sp.absI; rw [if_pos hneg]; omega)
  ·exact key (it + lc) (by omega) (by omega) (by unfold Sp.absI; rw [if_neg (by omega)])
end Go.User
namespace Go.User
open Go.Lf Go.Proofs
theorem pairs_snoc (e : List Sp.Ev) (l : List Sp.Arr) (i : Nat) (h : i < e.length) :
  Sp.pairs (e.take (i + 1)) l = Sp.pairs (e.take i) l ++ (if Sp.counts (e.getD i (0, 0, 0, 0, 0, 0, 0, 0, 0, ())) l then [((e.getD i (0, 0, 0, 0, 0, 0, 0, 0, 0, ())).2.2.2.2.2.2.1, (e.getD i (0, 0, 0, 0, 0, 0, 0, 0, 0, ())).2.2.2.2.2.2.2.1)] else []) := by
 unfold Sp.pairs
 rw [List.take_succ_eq_append_getElem h, List.filter_append, List.map_append]
 have : e.getD i (0, 0, 0, 0, 0, 0, 0, 0, 0, ()) = e[i] := by simp [List.getD, List.getElem?_eq_getElem h]
 rw [this]
 congr 1
 by_cases hc : Sp.counts e[i] l = true
 ·rw [if_pos hc, List.filter_cons, if_pos hc]; rfl
 ·rw [if_neg hc, List.filter_cons, if_neg hc]; rfl
theorem wordsAt_snoc (e : List Sp.Ev) (l : List Sp.Arr) (i : Nat) (a : Int) (h : i < e.length) :
  Sp.wordsAt (e.take (i + 1)) l a = Sp.wordsAt (e.take i) l a ++ (if (e.getD i (0, 0, 0, 0, 0, 0, 0, 0, 0, ())).2.2.2.2.2.2.1 = a /\ Sp.counts (e.getD i (0, 0, 0, 0, 0, 0, 0, 0, 0, ())) l = true then [(e.getD i (0, 0, 0, 0, 0, 0, 0, 0, 0, ())).2.2.2.2.2.2.2.1] else []) := by
 unfold Sp.wordsAt wordsOf
 rw [pairs_snoc e l i h, List.filter_append, List.map_append]
 congr 1
 generalize e.getD i (0, 0, 0, 0, 0, 0, 0, 0, 0, ()) = x
 by_cases hc : Sp.counts x l = true
 ·rw [if_pos hc]
  by_cases ha : x.2.2.2.2.2.2.1 = a
  ·rw [if_pos ⟨ha, hc⟩]; simp [ha]
  ·rw [if_neg (fun h => ha h.1)]; simp [ha]
 ·rw [if_neg hc, if_neg (fun h => hc h.2)]; rfl
theorem wordsAt_len (e : List Sp.Ev) (l : List Sp.Arr) (a : Int) : (Sp.wordsAt e l a).length <= e.length := by
 unfold Sp.wordsAt wordsOf Sp.pairs
 rw [List.length_map]
 refine Nat.le_trans (List.length_filter_le _ _) ?_
 rw [List.length_map]
 exact List.length_filter_le _ _
theorem sumTo_le {f : Nat -> Nat} {b : Nat} (h : ∀ a, f a <= b) : ∀ n, sumTo f n <= n * b
 | 0 => by simp [sumTo]
 | n + 1 => by
  have := sumTo_le h n
  have := h n
  unfold sumTo;rw [Nat.succ_mul];omega
theorem movesTo_le (e : List Sp.Ev) (l : List Sp.Arr) (n : Nat) : Sp.movesTo e l n <= n * e.length :=
 sumTo_le (fun a => Nat.le_trans (segs_len_le _) (wordsAt_len e l a)) n
theorem pairs_in {e : List Sp.Ev} {l : List Sp.Arr} : ∀ p, p ∈ Sp.pairs e l -> 0 <= p.1 /\ p.1 < (l.length : Int) := by
 intro p hp
 obtain ⟨x, hx, rfl⟩ := List.mem_map.1 hp
 have := (List.mem_filter.1 hx).2
 simp [Sp.counts] at this
 exact ⟨this.1.1.2, this.1.2⟩
theorem moves_sum (e : List Sp.Ev) (l : List Sp.Arr) : Sp.moves e l = (Sp.movesTo e l l.length : Nat) := by
 unfold Sp.moves Sp.movesTo
 rw [nmoves_sum (Sp.pairs e l) l.length pairs_in]
 rfl

theorem ok17 : FOk Tryd.prog 17 S17 := by
 have hC : CtxOK Tryd.prog C17 := okC (fns_cons ok30 (fns_cons ok26 (fns_cons ok27 fns_nil))) rfl rfl rfl rfl rfl rfl rfl
 refine FOk.intro hC (stpS_ok hC) Tryd.call17 Tryd.func17 (by kernel_rfl) (by kernel_rfl) L17 (vc17.mpr ?_)
 simp only [zz, zy]
 rintro ⟨(e : List Sp.Ev), (l : List Sp.Arr), ⟨⟩⟩ ⟨hle, hll⟩ hx
 clear hx
 dsimp only at *
 refine ⟨⟨0, Nat.zero_le _, rfl, rfl⟩, fun a ha hda => ⟨fun ha2 => ⟨⟨0, Nat.zero_le _, ?_, rfl⟩, fun i hi hdi => ⟨fun hi2 => ⟨⟨inN_of hi2, fun _ => inN_of hi2⟩, fun hb => ⟨⟨inN_of hi2, ?_, segs_strict _⟩, inK_mid (by omega) (by omega), i + 1, by omega, by omega, ?_, by omega⟩, fun hb => ⟨inK_mid (by omega) (by omega), i + 1, by omega, by omega, ?_, by omega⟩⟩, fun hi2 => ?_⟩⟩, fun ha2 => ?_⟩⟩
 ·simp [Sp.wordsAt, Sp.pairs, wordsOf, Sp.segs, segs]
 ·refine Nat.le_trans (segs_len_le _) (Nat.le_trans (wordsAt_len _ _ _) ?_)
  rw [List.length_take]; omega
 ·have h1 : i < e.length := by omega
  rw [wordsAt_snoc e l i a h1, if_pos]
  ·exact (segs_snoc _ _).symm
  ·exact hb
 ·have h1 : i < e.length := by omega
  rw [wordsAt_snoc e l i a h1, if_neg, List.append_nil];rintro ⟨hq, hc⟩;rw [show ((e.getD i (0, 0, 0, 0, 0, 0, 0, 0, 0, ())).2.2.2.2.2.2.1 == (a : Int)) = true from beq_iff_eq.2 hq] at hb;rw [hc] at hb;cases hb
 ·have : i = e.length := by omega
  subst this;rw [List.take_length];have b1 := movesTo_le e l a;have b2 : a * e.length <= 1000 * 1000 := Nat.mul_le_mul (by omega) (by omega);have b3 : (Sp.segs (Sp.wordsAt e l a)).length <= 1000 := Nat.le_trans (segs_len_le _) (Nat.le_trans (wordsAt_len _ _ _) (by omega));refine ⟨inK_mid (by omega) (by omega), inK_mid (by omega) (by omega), a + 1, by omega, by omega, ?_, by omega⟩
  show _ = ((Sp.movesTo e l a + (Sp.segs (Sp.wordsAt e l a)).length : Nat) : Int)
  push_cast
  rfl
 ·have : a = l.length := by omega
  subst this;exact (moves_sum e l).symm

theorem words_len (f : Sp.Form) (l : List Int) (c : Int) (pick : List Int) : (Sp.words f l c pick).length = l.length := by simp [Sp.words]
theorem words_snoc (f : Sp.Form) (l : List Int) (c : Int) (pick : List Int) (i : Nat) (h : i < l.length) :
  (Sp.words f l c pick).take i ++ [c + Sp.sOf f * l.getD i 0 + Sp.restAt f pick i] = (Sp.words f l c pick).take (i + 1) := by
 rw [List.take_succ_eq_append_getElem (by rw [words_len]; exact h)]
 simp [Sp.words]
theorem rest_bound {lo hi st p : Int} (h1 : -2199023255552 <= lo) (h2 : hi <= 2199023255552) (h3 : lo <= hi) (h4 : 0 < st) (hp : 0 <= p) :
  (hi - lo).tdiv st + 1 = (hi - lo) / st + 1 /\ 0 <= (hi - lo) / st /\ (hi - lo) / st <= hi - lo /\ 0 <= st * p.tmod ((hi - lo) / st + 1) /\ st * p.tmod ((hi - lo) / st + 1) <= hi - lo /\ 0 <= p.tmod ((hi - lo) / st + 1) := by
 have e1 : (hi - lo).tdiv st = (hi - lo) / st := Int.tdiv_eq_ediv_of_nonneg (by omega)
 have e2 : 0 <= (hi - lo) / st := Int.ediv_nonneg (by omega) (by omega)
 have e3 : (hi - lo) / st <= hi - lo := Int.ediv_le_self _ (by omega)
 have e4 : p.tmod ((hi - lo) / st + 1) = p % ((hi - lo) / st + 1) := Int.tmod_eq_emod_of_nonneg hp
 have e5 : 0 <= p % ((hi - lo) / st + 1) := Int.emod_nonneg _ (by omega)
 have e6 : p % ((hi - lo) / st + 1) < (hi - lo) / st + 1 := Int.emod_lt_of_pos _ (by omega)
 have e7 : st * (p % ((hi - lo) / st + 1)) <= st * ((hi - lo) / st) := Int.mul_le_mul_of_nonneg_left (by omega) (by omega)
 have e8 : st * ((hi - lo) / st) <= hi - lo := Int.mul_ediv_self_le (by omega)
 rw [e1, e4]
 exact ⟨rfl, e2, e3, Int.mul_nonneg (by omega) e5, by omega, e5⟩

theorem ok20 : FOk Tryd.prog 20 S20 := by
 refine FOk.intro (okA fns_nil) (stpS_ok (okA fns_nil)) Tryd.call20 Tryd.func20 (by kernel_rfl) (by kernel_rfl) L20 (vc20.mpr ?_)
 simp only [zz, zy]
 rintro ⟨⟨any, (it : Int), (lc : Int), (gr : Int), ⟨(lo : Int), (hi : Int), (st : Int), ⟨⟩⟩, ⟨⟩⟩, (l : List Int), (c : Int), (pick : List Int), ⟨⟩⟩ ⟨hu, hL, hc1, hc2⟩ hx
 have hpick : ∀ p ∈ pick, 0 <= p /\ p <= (65535 : Int) := hx.2.2.2.2
 obtain ⟨⟨u1, u2⟩, ⟨u3, u4⟩, ⟨u5, u6⟩, ⟨u7, u8⟩, u9, u10, u11⟩ := hu
 simp only [Sp.loOf, Sp.hiOf, Sp.stOf] at u5 u6 u7 u8 u9 u10 u11
 clear hx
 dsimp only at *
 have hll := hL.1
 have hs1 : -4398046511104 <= it + lc := by omega
 have hs2 : it + lc <= 4398046511104 := by omega
 have hg := lanesOk_getD hL
 have hw := words_snoc (any, it, lc, gr, (lo, hi, st, ()), ()) l c pick
 have hwl := words_len (any, it, lc, gr, (lo, hi, st, ()), ()) l c pick
 generalize hW : Sp.words (any, it, lc, gr, (lo, hi, st, ()), ()) l c pick = W at hw hwl ⊢
 refine ⟨⟨0, Nat.zero_le _, rfl, rfl⟩, fun i hii hdi => ⟨fun hi2 => ?_, fun hi2 => ?_⟩⟩
 ·have hi3 : i < l.length := by omega
  obtain ⟨g1, g2⟩ := hg i;obtain ⟨m1, m2⟩ := mul_bound hs1 hs2 g1 (by omega);have hr : Sp.restAt (any, it, lc, gr, (lo, hi, st, ()), ()) pick i = if 0 < st /\ 0 < pick.length then lo + st * ((pick.getD (i % pick.length) 0).tmod ((hi - lo).tdiv st + 1)) else lo := rfl;have hwi := hw i hi3;rw [show Sp.sOf (any, it, lc, gr, (lo, hi, st, ()), ()) = it + lc from rfl] at hwi;refine ⟨fun ⟨k1, k2⟩ => ?_, fun hk => ?_⟩
  ·have k2 : 0 < pick.length := by omega
   have hpi : i % pick.length < pick.length := Nat.mod_lt _ k2
   have hp : 0 <= pick.getD (i % pick.length) 0 := by
    rw [List.getD, List.getElem?_eq_getElem hpi];exact (hpick _ (List.getElem_mem hpi)).1
   obtain ⟨r1, r2, r3, r4, r5, r6⟩ := rest_bound (p := pick.getD (i % pick.length) 0) u5 u8 u9 k1 hp;have em : ((i : Int).tmod (pick.length : Int)) = ((i % pick.length : Nat) : Int) := by
    rw [Int.tmod_eq_emod_of_nonneg (by omega)]; rfl
   rw [em, Int.toNat_natCast];rw [if_pos ⟨k1, k2⟩, r1] at hr;rw [r1];have r7 : (hi - lo).tdiv st = (hi - lo) / st := by omega
   rw [r7];rw [hr] at hwi;refine ⟨⟨inK_of (by omega) (by omega), ⟨by omega, inK_of (by omega) (by omega)⟩, inK_of (by omega) (by omega)⟩, ⟨by omega, ⟨by omega, by omega⟩, by omega, inK_of (by omega) (by omega), inK_of (by omega) (by omega)⟩, ⟨⟨inK_of (by omega) (by omega), inN_of hi2, inK_of (by omega) (by omega), inK_of (by omega) (by omega), inK_of (by omega) (by omega)⟩, ?_⟩, inK_mid (by omega) (by omega), i + 1, by omega, by omega, hwi, by omega⟩
   rw [maxNew_eq, List.length_take, hwl]; omega
  ·rw [if_neg (by rintro ⟨k1, k2⟩; simp at hk; have := hk k1; simp [this] at k2)] at hr
   rw [hr] at hwi;refine ⟨⟨⟨inK_of (by omega) (by omega), inN_of hi2, inK_of (by omega) (by omega), inK_of (by omega) (by omega), inK_of (by omega) (by omega)⟩, ?_⟩, inK_mid (by omega) (by omega), i + 1, by omega, by omega, hwi, by omega⟩
   rw [maxNew_eq, List.length_take, hwl]; omega
 ·rw [List.take_of_length_le (by rw [hwl]; omega)]
end Go.User
namespace Go.User
open Go.Lf Go.Proofs
theorem wrapU {n : Nat} (h : n < 18446744073709551616) : IntKind.u64.wrap (n : Int) = n := inK_wrap (k := .u64) ⟨by show (0 : Int) <= _; omega, by show _ <= (18446744073709551615 : Int); omega⟩
theorem wrapI {n : Nat} (h : n < 9223372036854775808) : IntKind.i64.wrap (n : Int) = n := inK_wrap (k := .i64) ⟨by show (-9223372036854775808 : Int) <= _; omega, by show _ <= (9223372036854775807 : Int); omega⟩
theorem andU (x m : Nat) (hx : x < 18446744073709551616) (hm : m < 18446744073709551616) : (BitVec.ofInt 64 (x : Int) &&& BitVec.ofInt 64 (m : Int)).toNat = x &&& m := by
 rw [BitVec.toNat_and, BitVec.ofInt_natCast, BitVec.ofInt_natCast, BitVec.toNat_ofNat, BitVec.toNat_ofNat, Nat.mod_eq_of_lt hx, Nat.mod_eq_of_lt hm]
theorem shU (x k : Nat) (hk : k <= 64) : ((x : Int) / (2 : Int) ^ shiftN IntKind.u64 (k : Int)) = ((x / 2 ^ k : Nat) : Int) := by
 have : shiftN IntKind.u64 (k : Int) = k := by
  unfold shiftN;show min (k : Int).toNat 64 = k
  simp
  omega
 rw [this]
 push_cast
 rfl
def cA (m k z : Int) : Int := IntKind.u64.wrap (IntKind.u64.wrap (↑(BitVec.ofInt 64 (z / (2 : Int) ^ shiftN IntKind.u64 k) &&& BitVec.ofInt 64 m).toNat : Int) + IntKind.u64.wrap (↑(BitVec.ofInt 64 z &&& BitVec.ofInt 64 m).toNat : Int))
def cB (z : Int) : Int := IntKind.u64.wrap (↑(BitVec.ofInt 64 (IntKind.u64.wrap (z / (2 : Int) ^ shiftN IntKind.u64 (4 : Int) + z)) &&& BitVec.ofInt 64 (1085102592571150095 : Int)).toNat : Int)
def cC (k z : Int) : Int := IntKind.u64.wrap (z + z / (2 : Int) ^ shiftN IntKind.u64 k)
def cD (z : Int) : Int := IntKind.i64.wrap (↑(BitVec.ofInt 64 (IntKind.i64.wrap z) &&& BitVec.ofInt 64 (127 : Int)).toNat : Int)
theorem cA_eq (k n x : Nat) (hk : k <= 64) (hx : x < 18446744073709551616) (hm : 2 * fmask k n < 18446744073709551616) : cA (fmask k n : Nat) (k : Nat) x = (pairS k n x : Nat) := by
 unfold cA pairS
 have h1 : x / 2 ^ k &&& fmask k n <= fmask k n := Nat.and_le_right
 have h2 : x &&& fmask k n <= fmask k n := Nat.and_le_right
 have h3 : x / 2 ^ k < 18446744073709551616 := Nat.lt_of_le_of_lt (Nat.div_le_self _ _) hx
 rw [shU x k hk, andU _ _ h3 (by omega), andU _ _ hx (by omega), wrapU (by omega), wrapU (by omega)]
 rw [show ((x / 2 ^ k &&& fmask k n : Nat) : Int) + ((x &&& fmask k n : Nat) : Int) = (((x / 2 ^ k &&& fmask k n) + (x &&& fmask k n) : Nat) : Int) from by push_cast; rfl]
 rw [wrapU (by omega)]
theorem cC_eq (k x : Nat) (hk : k <= 64) (h : x + x / 2 ^ k < 18446744073709551616) : cC k x = ((x + x / 2 ^ k : Nat) : Int) := by
 unfold cC
 rw [shU x k hk, <- Int.natCast_add, wrapU h]
theorem ones_eq (x : Nat) (hx : x < 18446744073709551616) :
  cD (cC 32 (cC 16 (cC 8 (cB (cA 3689348814741910323 2 (cA 6148914691236517205 1 x)))))) = ((onesN 64 x).length : Int) := by
 obtain ⟨m1, m2, m3, s1, s2, s3, hf, hlast⟩ := count_ones x hx
 have l1 := sm_lt _ _ _ _ s1
 have l2 := sm_lt _ _ _ _ s2
 have l3 := sm_lt _ _ _ _ s3
 simp only [Nat.reduceMul, Nat.reducePow] at l1 l2 l3
 have e1 : cA 6148914691236517205 1 x = (pairS 1 32 x : Nat) := by
  have := cA_eq 1 32 x (by omega) hx (by rw [m1]; omega)
  rw [m1] at this;exact this
 rw [e1]
 have e2 : cA 3689348814741910323 2 (pairS 1 32 x : Nat) = (pairS 2 16 (pairS 1 32 x) : Nat) := by
  have := cA_eq 2 16 (pairS 1 32 x) (by omega) l1 (by rw [m2]; omega)
  rw [m2] at this;exact this
 rw [e2]
 generalize hy : pairS 2 16 (pairS 1 32 x) = y at *
 have hdig : y / 2 ^ 4 + y < 18446744073709551616 := by
  have h15 : y / 16 / 16 / 16 / 16 / 16 / 16 / 16 / 16 / 16 / 16 / 16 / 16 / 16 / 16 / 16 <= 4 := by
   simp only [Sm, Nat.reducePow] at s2;obtain ⟨_, _, _, _, _, _, _, _, _, _, _, _, _, _, _, hh, hz⟩ := s2;omega
  omega
 have e3 : cB y = (pairS 4 8 y : Nat) := by
  unfold cB;have := shU y 4 (by omega);rw [show ((4 : Nat) : Int) = 4 from rfl] at this;rw [this, <- Int.natCast_add, wrapU hdig];have := andU (y / 2 ^ 4 + y) 1085102592571150095 hdig (by omega);rw [show ((1085102592571150095 : Nat) : Int) = 1085102592571150095 from rfl] at this;rw [this, <- m3, hlast];exact wrapU l3
 rw [e3]
 generalize hz : pairS 4 8 y = z at *
 obtain ⟨b1, b2, b3, b4⟩ := sum8 z s3
 simp only [Nat.reducePow] at b1 b2 b3
 have e4 : cC 8 z = ((z + z / 256 : Nat) : Int) := cC_eq 8 z (by omega) b1
 rw [e4]
 have e5 : cC 16 ((z + z / 256 : Nat) : Int) = ((z + z / 256 + (z + z / 256) / 65536 : Nat) : Int) := cC_eq 16 _ (by omega) b2
 rw [e5]
 have e6 : cC 32 ((z + z / 256 + (z + z / 256) / 65536 : Nat) : Int) = ((z + z / 256 + (z + z / 256) / 65536 + (z + z / 256 + (z + z / 256) / 65536) / 4294967296 : Nat) : Int) := cC_eq 32 _ (by omega) (Nat.lt_trans b3 (by decide))
 rw [e6]
 rw [<- hf, <- b4]
 generalize z + z / 256 + (z + z / 256) / 65536 + (z + z / 256 + (z + z / 256) / 65536) / 4294967296 = t at *
 unfold cD
 rw [wrapI b3]
 have := andU t 127 (Nat.lt_trans b3 (by decide)) (by omega)
 rw [show ((127 : Nat) : Int) = 127 from rfl] at this
 rw [this, show (127 : Nat) = 2 ^ 7 - 1 from rfl, Nat.and_two_pow_sub_one_eq_mod]
 exact wrapI (by omega)
theorem ok22 : FOk Tryd.prog 22 S22 := by
 refine FOk.intro (okA fns_nil) (stpS_ok (okA fns_nil)) Tryd.call22 Tryd.func22 (by kernel_rfl) (by kernel_rfl) L22 (vc22.mpr ?_)
 intro q0 q1 q2 q3 q4 q5 q6 q7 q8 q9 q10 q11 x q12 q13 q14 q15 q16 _ hx
 obtain ⟨(n : Int), ⟨⟩⟩ := x
 have h0 : (0 : Int) <= n := hx.1.1
 have h1 : n <= (18446744073709551615 : Int) := hx.1.2
 obtain ⟨k, rfl⟩ : ∃ k : Nat, n = k := ⟨n.toNat, by omega⟩
 have key := ones_eq k (by omega)
 refine ⟨⟨⟨trivial, trivial⟩, trivial⟩, ⟨⟨trivial, by decide, trivial, trivial, trivial, trivial, trivial, trivial⟩, trivial⟩, ⟨⟨trivial, by decide, trivial, trivial, trivial, trivial, trivial, trivial⟩, trivial⟩, ⟨⟨trivial, by decide, trivial, trivial, trivial, trivial, trivial⟩, trivial⟩,
  ⟨⟨trivial, trivial, by decide, trivial, trivial, trivial⟩, trivial⟩, ⟨⟨trivial, trivial, by decide, trivial, trivial, trivial⟩, trivial⟩, ⟨⟨trivial, trivial, by decide, trivial, trivial, trivial⟩, trivial⟩, ⟨⟨trivial, trivial, trivial, trivial, trivial⟩, trivial⟩, ?_⟩
 show _ = ((onesN 64 ((k : Int).toNat)).length : Int)
 rw [Int.toNat_natCast]
 exact key
end Go.User
namespace Go.User
theorem segsAt_shift (s c q : Int) (l : List Int) : (Sp.segsAt s (c + 16 * q) l).length = (Sp.segsAt s c l).length := by
 have e : (l.map fun i => c + 16 * q + s * i) = (l.map fun i => c + s * i).map (· + 16 * q) := by
  rw [List.map_map];refine List.map_congr_left fun i _ => ?_
  show c + 16 * q + s * i = c + s * i + 16 * q
  omega
 unfold Sp.segsAt Sp.segs
 rw [e, segs_shift, List.length_map]
theorem le_maxSegs (s : Int) (l : List Int) : ∀ (k c : Nat), c < k -> (Sp.segsAt s c l).length <= Sp.maxSegs s l k
 | k + 1, c, h => by
  unfold Sp.maxSegs;by_cases hc : c = k
  ·subst hc; omega
  ·have := le_maxSegs s l k c (by omega)
   omega
theorem segsAt_le_max (s c : Int) (l : List Int) : (Sp.segsAt s c l).length <= Sp.maxSegs s l 16 := by
 obtain ⟨r, hr⟩ : ∃ r : Nat, (r : Int) = c % 16 := ⟨(c % 16).toNat, by omega⟩
 have h := segsAt_shift s (c % 16) (c / 16) l
 have e : c % 16 + 16 * (c / 16) = c := by omega
 rw [e, <- hr] at h
 rw [h]
 exact le_maxSegs s l 16 r (by omega)
theorem maxSegs_mono (s : Int) {l m : List Int} (h : ∀ a ∈ l, a ∈ m) : ∀ k, Sp.maxSegs s l k <= Sp.maxSegs s m k
 | 0 => Nat.le_refl _
 | k + 1 => by
  have h1 := maxSegs_mono s h k
  have h2 : (Sp.segsAt s k l).length <= (Sp.segsAt s k m).length := segs_mono fun a ha => by
   obtain ⟨i, hi, rfl⟩ := List.mem_map.1 ha;exact List.mem_map.2 ⟨i, h i hi, rfl⟩
  unfold Sp.maxSegs;omega
theorem maxSegs_le_of {s : Int} {l : List Int} {b : Nat} : ∀ k, (∀ c : Nat, c < k -> (Sp.segsAt s c l).length <= b) -> Sp.maxSegs s l k <= b
 | 0, _ => Nat.zero_le _
 | k + 1, h => by
  have h1 := maxSegs_le_of (s := s) (l := l) (b := b) k fun c hc => h c (by omega)
  have h2 := h k (by omega)
  unfold Sp.maxSegs;omega
theorem segs_span {l : List Int} {a b : Int} (hab : a <= b) (h : ∀ x ∈ l, a <= x /\ x <= b) : ((segs l).length : Int) <= b / 16 - a / 16 + 1 :=
 strict_len (segs_strict l) (fun y hy => by
  obtain ⟨x, hx, rfl⟩ := (mem_segs l y).1 hy;have := h x hx;omega) (by omega)
theorem strict_range {l : List Int} (hs : Strict l) : ∀ x ∈ l, l.getD 0 0 <= x /\ x <= Sp.lastI l := by
 intro x hx
 obtain ⟨i, hi, rfl⟩ := List.mem_iff_getElem.1 hx
 have h0 : 0 < l.length := by omega
 have h1 : l.length - 1 < l.length := by omega
 unfold Sp.lastI
 simp only [List.getD, List.getElem?_eq_getElem h0, List.getElem?_eq_getElem h1, Option.getD_some]
 constructor
 ·by_cases hi0 : i = 0
  ·subst hi0; exact Int.le_refl _
  ·have := List.pairwise_iff_getElem.1 hs 0 i h0 hi (by omega); omega
 ·by_cases hi1 : i = l.length - 1
  ·subst hi1; exact Int.le_refl _
  ·have := List.pairwise_iff_getElem.1 hs i (l.length - 1) hi h1 (by omega); omega
theorem mul_span {s x y a : Int} (ha : a = Sp.absI s) (h0 : 0 <= x) (h1 : x <= y) : (0 <= s -> 0 <= s * x /\ s * x <= a * y) /\ (s < 0 -> - (a * y) <= s * x /\ s * x <= 0) := by
 unfold Sp.absI at ha
 constructor
 ·intro h
  rw [if_neg (by omega)] at ha;subst ha;exact ⟨Int.mul_nonneg h h0, Int.mul_le_mul_of_nonneg_left h1 h⟩
 ·intro h
  rw [if_pos h] at ha;subst ha;have a1 : (-s) * x <= (-s) * y := Int.mul_le_mul_of_nonneg_left h1 (by omega);have a2 : 0 <= (-s) * x := Int.mul_nonneg (by omega) h0;rw [Int.neg_mul] at a1 a2;omega
theorem lanes_pos {l : List Int} : l.length ≠ 0 -> 0 < l.length := by omega
theorem rest_at_bound (f : Sp.Form) (pick : List Int) (i : Nat) (hu : Sp.usable f) (hp : ∀ p ∈ pick, 0 <= p) : Sp.loOf f <= Sp.restAt f pick i /\ Sp.restAt f pick i <= Sp.hiOf f := by
 obtain ⟨_, _, ⟨u5, u6⟩, ⟨u7, u8⟩, u9, _, _⟩ := hu
 unfold Sp.restAt
 split
 ·rename_i h
  have hi : i % pick.length < pick.length := Nat.mod_lt _ h.2
  have h0 : 0 <= pick.getD (i % pick.length) 0 := by
   rw [List.getD, List.getElem?_eq_getElem hi];exact hp _ (List.getElem_mem hi)
  obtain ⟨r1, r2, r3, r4, r5, r6⟩ := rest_bound (p := pick.getD (i % pick.length) 0) u5 u8 u9 h.1 h0;rw [r1];omega
 ·omega
theorem mem_words {f : Sp.Form} {l : List Int} {c : Int} {pick : List Int} {y : Int} (h : y ∈ Sp.words f l c pick) : ∃ i, i < l.length /\ y = c + Sp.sOf f * l.getD i 0 + Sp.restAt f pick i := by
 unfold Sp.words at h
 obtain ⟨i, hi, rfl⟩ := List.mem_map.1 h
 exact ⟨i, List.mem_range.1 hi, rfl⟩
theorem bound_ok (f : Sp.Form) (l : List Int) (c : Int) (pick : List Int) (hu : Sp.usable f) (hs : Strict l) (hp : ∀ p ∈ pick, 0 <= p) :
  ((Sp.segs (Sp.words f l c pick)).length : Int) <= Sp.static f l := by
 have hlen : (Sp.segs (Sp.words f l c pick)).length <= l.length := by
  have := segs_len_le (Sp.words f l c pick)
  rw [words_len] at this;exact this
 unfold Sp.static
 split
 ·omega
 ·rename_i hn
  have h0 : 0 < l.length := Nat.pos_of_ne_zero fun h => hn (.inl h)
  split
  ·rename_i he
   have e : Sp.segs (Sp.words f l c pick) = Sp.segsAt (Sp.sOf f) (c + Sp.loOf f) l := by
    unfold Sp.segsAt;refine segs_congr fun a => ?_
    constructor
    ·intro ha
     obtain ⟨i, hi, rfl⟩ := mem_words ha;have := rest_at_bound f pick i hu hp;refine List.mem_map.2 ⟨l[i], List.getElem_mem hi, ?_⟩;simp only [List.getD, List.getElem?_eq_getElem hi, Option.getD_some];omega
    ·intro ha
     obtain ⟨x, hx, rfl⟩ := List.mem_map.1 ha;obtain ⟨i, hi, rfl⟩ := List.mem_iff_getElem.1 hx;have := rest_at_bound f pick i hu hp;refine List.mem_map.2 ⟨i, List.mem_range.2 hi, ?_⟩;simp only [List.getD, List.getElem?_eq_getElem hi, Option.getD_some];omega
   rw [e];have := segsAt_le_max (Sp.sOf f) (c + Sp.loOf f) l;omega
  ·rename_i he
   have hlt : Sp.loOf f < Sp.hiOf f := by
    have := hu.2.2.2.2.1
    omega
   have hr := strict_range hs
   have hfl := strict_first hs h0
   obtain ⟨A, hA⟩ : ∃ A, A = Sp.absI (Sp.sOf f) := ⟨_, rfl⟩;have hw : Sp.wide f l = A * (Sp.lastI l - l.getD 0 0) + Sp.hiOf f - Sp.loOf f := by rw [hA]; rfl
   obtain ⟨P, hP⟩ : ∃ P, P = A * (Sp.lastI l - l.getD 0 0) := ⟨_, rfl⟩;rw [<- hP] at hw;have hA0 : 0 <= A := by rw [hA]; unfold Sp.absI; split <;> omega
   have hP0 : 0 <= P := by rw [hP]; exact Int.mul_nonneg hA0 (by omega)
   have hspan : ∃ a b, a <= b /\ b - a = Sp.wide f l /\ ∀ x ∈ Sp.words f l c pick, a <= x /\ x <= b := by
    obtain ⟨m1, m2⟩ : 0 <= 0 /\ 0 <= 0 := ⟨Nat.le_refl _, Nat.le_refl _⟩;have key : ∀ x ∈ Sp.words f l c pick, ∃ z r, x = c + Sp.sOf f * l.getD 0 0 + Sp.sOf f * z + r /\ 0 <= z /\ z <= Sp.lastI l - l.getD 0 0 /\ Sp.loOf f <= r /\ r <= Sp.hiOf f := by
     intro x hx;obtain ⟨i, hi, rfl⟩ := mem_words hx;have hb := rest_at_bound f pick i hu hp;have hm : l.getD i 0 ∈ l := by rw [List.getD, List.getElem?_eq_getElem hi]; exact List.getElem_mem hi
     have := hr _ hm
     refine ⟨l.getD i 0 - l.getD 0 0, Sp.restAt f pick i, ?_, by omega, by omega, hb.1, hb.2⟩
     rw [Int.mul_sub];omega
    by_cases hneg : Sp.sOf f < 0
    ·refine ⟨c + Sp.sOf f * l.getD 0 0 - P + Sp.loOf f, c + Sp.sOf f * l.getD 0 0 + Sp.hiOf f, by omega, by omega, fun x hx => ?_⟩
     obtain ⟨z, r, rfl, z0, z1, r0, r1⟩ := key x hx;have := (mul_span hA z0 z1).2 hneg;rw [<- hP] at this;omega
    ·refine ⟨c + Sp.sOf f * l.getD 0 0 + Sp.loOf f, c + Sp.sOf f * l.getD 0 0 + P + Sp.hiOf f, by omega, by omega, fun x hx => ?_⟩
     obtain ⟨z, r, rfl, z0, z1, r0, r1⟩ := key x hx;have := (mul_span hA z0 z1).1 (by omega);rw [<- hP] at this;omega
   obtain ⟨a, b, hab, hd, hx⟩ := hspan;have h1 : ((Sp.segs (Sp.words f l c pick)).length : Int) <= b / 16 - a / 16 + 1 := segs_span hab hx;omega
theorem static_le_len (f : Sp.Form) (l : List Int) : Sp.static f l <= l.length := by
 unfold Sp.static
 split
 ·omega
 ·split
  ·have := maxSegs_le (Sp.sOf f) l 16; omega
  ·omega
theorem static_mono (f : Sp.Form) {l m : List Int} (hu : Sp.usable f) (hl : Strict l) (hm : Strict m) (h : ∀ a ∈ l, a ∈ m) : Sp.static f l <= Sp.static f m := by
 have hlen : l.length <= m.length := nodup_len (strict_nodup hl) h
 by_cases hl0 : l.length = 0
 ·have : Sp.static f l = 0 := by unfold Sp.static; rw [if_pos (.inl hl0), hl0]; rfl
  rw [this];unfold Sp.static;split
  ·omega
  ·rename_i hm0
   split
   ·omega
   ·have h0 : 0 < m.length := Nat.pos_of_ne_zero fun h => hm0 (.inl h)
    have hfl := strict_first hm h0
    have hA0 : 0 <= Sp.absI (Sp.sOf f) := by unfold Sp.absI; split <;> omega
    have hP0 := Int.mul_nonneg hA0 (show 0 <= Sp.lastI m - m.getD 0 0 by omega)
    have := hu.2.2.2.2.1
    have hw : 0 <= Sp.wide f m := by unfold Sp.wide; omega
    omega
 ·have hl1 : 0 < l.length := by omega
  have hm1 : 0 < m.length := by omega
  unfold Sp.static;by_cases ha : f.1 = true
  ·rw [if_pos (.inr ha), if_pos (.inr ha)]; omega
  ·have n1 : ¬ (l.length = 0 ∨ f.1 = true) := fun h => h.elim hl0 ha
   have n2 : ¬ (m.length = 0 ∨ f.1 = true) := fun h => h.elim (by omega) ha
   rw [if_neg n1, if_neg n2];by_cases he : Sp.loOf f = Sp.hiOf f
   ·rw [if_pos he, if_pos he]
    have := maxSegs_mono (Sp.sOf f) h 16
    omega
   ·rw [if_neg he, if_neg he]
    have hA0 : 0 <= Sp.absI (Sp.sOf f) := by unfold Sp.absI; split <;> omega
    have r1 := (strict_range hm (l.getD 0 0) (h _ (by rw [List.getD, List.getElem?_eq_getElem hl1]; exact List.getElem_mem hl1))).1
    have hlast : Sp.lastI l ∈ l := by
     unfold Sp.lastI;rw [List.getD, List.getElem?_eq_getElem (show l.length - 1 < l.length by omega)]
     exact List.getElem_mem _
    have r2 := (strict_range hm _ (h _ hlast)).2
    have hfl := strict_first hl hl1
    have hle : Sp.absI (Sp.sOf f) * (Sp.lastI l - l.getD 0 0) <= Sp.absI (Sp.sOf f) * (Sp.lastI m - m.getD 0 0) := Int.mul_le_mul_of_nonneg_left (by omega) hA0
    have hw : Sp.wide f l <= Sp.wide f m := by unfold Sp.wide; omega
    omega
theorem lanes_sub {n a b : Int} (h : ∀ i : Nat, i < 64 -> Nat.testBit a.toNat i = true -> Nat.testBit b.toNat i = true) : ∀ x ∈ Sp.lanes n a, x ∈ Sp.lanes n b := by
 intro x hx
 obtain ⟨i, h1, h2, h3, rfl⟩ := mem_lanes.1 hx
 exact mem_lanes.2 ⟨i, h1, h2, h i h1 h3, rfl⟩
theorem lanes_less {n m a : Int} (h : n <= m) : ∀ x ∈ Sp.lanes n a, x ∈ Sp.lanes m a := by
 intro x hx
 obtain ⟨i, h1, h2, h3, rfl⟩ := mem_lanes.1 hx
 exact mem_lanes.2 ⟨i, h1, by omega, h3, rfl⟩
end Go.User
namespace Go.User
theorem words0 (s : Int) (l : List Int) (c : Int) (pick : List Int) : Sp.words (Sp.form0 s) l c pick = l.map fun i => c + s * i := by
 refine List.ext_getElem (by rw [words_len, List.length_map]) fun i h1 h2 => ?_
 have hi : i < l.length := by rw [words_len] at h1; exact h1
 have hr : Sp.restAt (Sp.form0 s) pick i = 0 := by
  unfold Sp.restAt;rw [if_neg (by rintro ⟨h, _⟩; exact absurd h (by show ¬ (0 : Int) < 0; omega))]
  rfl
 have hs : Sp.sOf (Sp.form0 s) = s := by show (0 : Int) + s = s; omega
 simp [Sp.words, hr, hs, List.getElem?_eq_getElem hi]
theorem segs_words0 (s : Int) (l : List Int) (c : Int) (pick : List Int) : Sp.segs (Sp.words (Sp.form0 s) l c pick) = Sp.segsAt s c l := by rw [words0]; rfl
theorem static0 (s : Int) (l : List Int) (h : l.length ≠ 0) : Sp.static (Sp.form0 s) l = (Sp.maxSegs s l 16 : Int) := by
 have hs : Sp.sOf (Sp.form0 s) = s := by show (0 : Int) + s = s; omega
 unfold Sp.static
 rw [if_neg (by rintro (h' | h'); exact h h'; cases h'), if_pos (show Sp.loOf (Sp.form0 s) = Sp.hiOf (Sp.form0 s) from rfl), hs]
theorem usable0 (s : Int) (h1 : -1099511627776 <= s) (h2 : s <= 1099511627776) : Sp.usable (Sp.form0 s) :=
 ⟨⟨by show (_ : Int) <= 0; omega, by show (0 : Int) <= _; omega⟩, ⟨by show _ <= s; omega, by show s <= _; omega⟩, ⟨by show (_ : Int) <= 0; omega, by show (0 : Int) <= _; omega⟩, ⟨by show (_ : Int) <= 0; omega, by show (0 : Int) <= _; omega⟩, Int.le_refl _, ⟨fun _ => rfl, fun _ => rfl⟩, Int.le_refl _⟩
theorem max_zero (l : List Int) (h : l.length ≠ 0) : Sp.maxSegs 0 l 16 = 1 := by
 refine Nat.le_antisymm (maxSegs_le_of 16 fun c _ => ?_) ?_
 ·have : ((Sp.segsAt 0 c l).length : Int) <= (c : Int) / 16 - (c : Int) / 16 + 1 := segs_span (Int.le_refl _) fun x hx => by
   obtain ⟨i, _, rfl⟩ := List.mem_map.1 hx;omega
  omega
 ·have h1 := le_maxSegs 0 l 16 0 (by omega)
  have : 0 < (Sp.segsAt 0 (0 : Nat) l).length := by
   obtain ⟨x, hx⟩ := List.exists_mem_of_length_pos (show 0 < l.length by omega)
   exact List.length_pos_of_mem ((mem_segs _ ((((0 : Nat) : Int) + 0 * x) / 16)).2 ⟨_, List.mem_map.2 ⟨x, hx, rfl⟩, rfl⟩)
  omega
theorem max_far (s : Int) (l : List Int) (hl : Strict l) (h : 16 <= s ∨ s <= -16) : Sp.maxSegs s l 16 = l.length := by
 refine Nat.le_antisymm (maxSegs_le s l 16) (Nat.le_trans ?_ (le_maxSegs s l 16 0 (by omega)))
 have e : l.length = (l.map fun i => (((0 : Nat) : Int) + s * i) / 16).length := by rw [List.length_map]
 rw [e]
 refine nodup_len ?_ fun y hy => ?_
 ·unfold List.Nodup
  rw [List.pairwise_map];refine hl.imp fun {a b} hab he => ?_
  have hd : (((0 : Nat) : Int) + s * b) - (((0 : Nat) : Int) + s * a) = s * (b - a) := by rw [Int.mul_sub]; omega
  rcases h with h | h
  ·have : 16 * 1 <= s * (b - a) := Int.mul_le_mul h (by omega) (by omega) (by omega)
   omega
  ·have : 16 * 1 <= (-s) * (b - a) := Int.mul_le_mul (by omega) (by omega) (by omega) (by omega)
   rw [Int.neg_mul] at this;omega
 ·obtain ⟨i, hi, rfl⟩ := List.mem_map.1 hy
  exact (mem_segs _ _).2 ⟨_, List.mem_map.2 ⟨i, hi, rfl⟩, rfl⟩
theorem segs_all {l : List Int} {a b : Int} (hab : a <= b) (h : ∀ x, x ∈ l ↔ a <= x /\ x <= b) : ((segs l).length : Int) = b / 16 - a / 16 + 1 := by
 have e : (List.range (b / 16 - a / 16 + 1).toNat).map (fun i : Nat => a / 16 + (i : Int)) = segs l := by
  refine segs_eq ?_ fun y => ?_
  ·unfold Strict
   rw [List.pairwise_map];exact List.pairwise_lt_range.imp fun h => by omega
  ·simp only [List.mem_map, List.mem_range]
   constructor
   ·rintro ⟨i, hi, rfl⟩
    by_cases hz : i = 0
    ·exact ⟨a, (h a).2 (by omega), by omega⟩
    ·exact ⟨16 * (a / 16 + i), (h _).2 (by omega), by omega⟩
   ·rintro ⟨x, hx, rfl⟩
    have := (h x).1 hx
    exact ⟨(x / 16 - a / 16).toNat, by omega, by omega⟩
 rw [<- e, List.length_map, List.length_range]
 omega
theorem mem_all (n : Nat) (hn : n <= 64) (x : Int) : x ∈ Sp.lanes (n : Int) 18446744073709551615 ↔ 0 <= x /\ x < n := by
 rw [mem_lanes]
 constructor
 ·rintro ⟨i, h1, h2, h3, rfl⟩
  omega
 ·rintro ⟨h1, h2⟩
  refine ⟨x.toNat, by omega, by omega, ?_, by omega⟩
  rw [show (18446744073709551615 : Int).toNat = 2 ^ 64 - 1 from rfl, Nat.testBit_two_pow_sub_one]
  simp
  omega
theorem all_len (n : Nat) (hn : n <= 64) (h : 0 < n) : (Sp.lanes (n : Int) 18446744073709551615).length ≠ 0 := by
 have := List.length_pos_of_mem ((mem_all n hn 0).2 (by omega))
 omega
theorem max_one (n : Nat) (hn : n <= 64) (h : 0 < n) : (Sp.maxSegs 1 (Sp.lanes (n : Int) 18446744073709551615) 16 : Int) = ((n : Int) + 30) / 16 := by
 have key : ∀ c : Int, ((Sp.segsAt 1 c (Sp.lanes (n : Int) 18446744073709551615)).length : Int) = (c + n - 1) / 16 - c / 16 + 1 := fun c =>
  segs_all (by omega) fun x => by
   rw [List.mem_map];constructor
   ·rintro ⟨i, hi, rfl⟩
    have := (mem_all n hn i).1 hi
    omega
   ·rintro ⟨h1, h2⟩
    exact ⟨x - c, (mem_all n hn _).2 (by omega), by omega⟩
 have h1 : Sp.maxSegs 1 (Sp.lanes (n : Int) 18446744073709551615) 16 <= (n + 30) / 16 := maxSegs_le_of 16 fun c hc => by have := key c; omega
 have h2 := le_maxSegs 1 (Sp.lanes (n : Int) 18446744073709551615) 16 15 (by omega)
 have h3 := key ((15 : Nat) : Int)
 omega
theorem max_minus (n : Nat) (hn : n <= 64) (h : 0 < n) : (Sp.maxSegs (-1) (Sp.lanes (n : Int) 18446744073709551615) 16 : Int) = ((n : Int) + 30) / 16 := by
 have key : ∀ c : Int, ((Sp.segsAt (-1) c (Sp.lanes (n : Int) 18446744073709551615)).length : Int) = c / 16 - (c - n + 1) / 16 + 1 := fun c =>
  segs_all (by omega) fun x => by
   rw [List.mem_map];constructor
   ·rintro ⟨i, hi, rfl⟩
    have := (mem_all n hn i).1 hi
    omega
   ·rintro ⟨h1, h2⟩
    exact ⟨c - x, (mem_all n hn _).2 (by omega), by omega⟩
 have h1 : Sp.maxSegs (-1) (Sp.lanes (n : Int) 18446744073709551615) 16 <= (n + 30) / 16 := maxSegs_le_of 16 fun c hc => by have := key c; omega
 have h2 := le_maxSegs (-1) (Sp.lanes (n : Int) 18446744073709551615) 16 0 (by omega)
 have h3 := key ((0 : Nat) : Int)
 omega
end Go.User
namespace Go.Proofs
open Go.Shelf
def Tryd.keysA_ren : Go.Shelf.Ren := ⟨fun | 7 => 29 | 10 => 35 | n => n, fun | 23 => 67 | 26 => 3 | 3 => 68 | 28 => 71 | 0 => 0 | 27 => 70 | 33 => 79 | 4 => 4 | n => n, fun | n => n⟩
theorem Tryd.keysA : Go.Proofs.SlLaysZI.n7 Tryd.prog Tryd.keysA_ren := {
 mixed := by kernel_rfl
 f7 := ⟨Tryd.f29.name, by decide, Tryd.func29.trans (congrArg some (by kernel_rfl))⟩
 f10 := ⟨Tryd.f35.name, by decide, Tryd.func35.trans (congrArg some (by kernel_rfl))⟩
 t0 := Tryd.underlying0
 a0 := Tryd.isAgg0
 z0 := Tryd.sizeOf0
 v0 := Tryd.zeroValue0
 t4 := Tryd.underlying4
 a4 := Tryd.isAgg4
 z4 := Tryd.sizeOf4
 v4 := Tryd.zeroValue4
 t23 := Tryd.underlying67
 a23 := Tryd.isAgg67
 z23 := Tryd.sizeOf67
 v23 := Tryd.zeroValue67
 t26 := Tryd.underlying3
 a26 := Tryd.isAgg3
 z26 := Tryd.sizeOf3
 v26 := Tryd.zeroValue3
 t27 := Tryd.underlying70
 a27 := Tryd.isAgg70
 z27 := Tryd.sizeOf70
 v27 := Tryd.zeroValue70
 t28 := Tryd.underlying71
 a28 := Tryd.isAgg71
 z28 := Tryd.sizeOf71
 v28 := Tryd.zeroValue71
 t33 := Tryd.underlying79
 a33 := Tryd.isAgg79
 z33 := Tryd.sizeOf79
 v33 := Tryd.zeroValue79 }
def Tryd.sortedA_ren : Go.Shelf.Ren := ⟨fun | 6 => 28 | 8 => 33 | 9 => 34 | 11 => 36 | 13 => 38 | 12 => 37 | 23 => 48 | 24 => 32 | 14 => 39 | 15 => 40 | 16 => 41 | 17 => 42 | 18 => 43 | 19 => 44 | 20 => 45 | 21 => 46 | 22 => 47 | 25 => 49 | 26 => 50 | 27 => 51 | 28 => 52 | 29 => 53 | 30 => 54 | 31 => 55 | n => n, fun | 26 => 3 | 28 => 71 | 24 => 22 | 0 => 0 | 3 => 3 | 37 => 60 | 48 => 93 | 50 => 38 | 4 => 4 | 40 => 85 | 39 => 84 | 45 => 90 | 5 => 5 | 9 => 9 | 51 => 94 | 55 => 98 | 57 => 100 | 58 => 101 | 33 => 79 | n => n, fun | n => n⟩
theorem Tryd.sortedA : Go.Proofs.SlLaysZI.n6 Tryd.prog Tryd.sortedA_ren := {
 mixed := by kernel_rfl
 f6 := ⟨Tryd.f28.name, by decide, Tryd.func28.trans (congrArg some (by kernel_rfl))⟩
 f8 := ⟨Tryd.f33.name, by decide, Tryd.func33.trans (congrArg some (by kernel_rfl))⟩
 f11 := ⟨Tryd.f36.name, by decide, Tryd.func36.trans (congrArg some (by kernel_rfl))⟩
 t0 := Tryd.underlying0
 a0 := Tryd.isAgg0
 z0 := Tryd.sizeOf0
 v0 := Tryd.zeroValue0
 t24 := Tryd.underlying22
 a24 := Tryd.isAgg22
 z24 := Tryd.sizeOf22
 v24 := Tryd.zeroValue22
 t26 := Tryd.underlying3
 a26 := Tryd.isAgg3
 z26 := Tryd.sizeOf3
 v26 := Tryd.zeroValue3
 t28 := Tryd.underlying71
 a28 := Tryd.isAgg71
 z28 := Tryd.sizeOf71
 v28 := Tryd.zeroValue71
 i26 := by kernel_rfl }
def Tryd.sortA_ren : Go.Shelf.Ren := ⟨fun | 5 => 34 | 8 => 38 | 7 => 37 | 19 => 48 | 20 => 32 | 10 => 39 | 11 => 40 | 12 => 41 | 13 => 42 | 14 => 43 | 15 => 44 | 16 => 45 | 17 => 46 | 18 => 47 | 30 => 49 | 31 => 50 | 32 => 51 | 33 => 52 | 34 => 53 | 35 => 54 | 40 => 55 | n => n, fun | 23 => 22 | 25 => 3 | 3 => 3 | 32 => 60 | 22 => 22 | 0 => 0 | 44 => 93 | 46 => 38 | 4 => 4 | 36 => 85 | 35 => 84 | 41 => 90 | 5 => 5 | 9 => 9 | 53 => 94 | 57 => 98 | 63 => 100 | 64 => 101 | n => n, fun | n => n⟩
theorem Tryd.sortA : Go.Proofs.SlLaysM.n5 Tryd.prog Tryd.sortA_ren := {
 mixed := by kernel_rfl
 f5 := ⟨Tryd.f34.name, by decide, Tryd.func34.trans (congrArg some (by kernel_rfl))⟩
 f7 := ⟨Tryd.f37.name, by decide, Tryd.func37.trans (congrArg some (by kernel_rfl))⟩
 f8 := Tryd.func38.trans (congrArg some (by kernel_rfl))
 f10 := ⟨Tryd.f39.name, by decide, Tryd.func39.trans (congrArg some (by kernel_rfl))⟩
 f11 := ⟨Tryd.f40.name, by decide, Tryd.func40.trans (congrArg some (by kernel_rfl))⟩
 f12 := ⟨Tryd.f41.name, by decide, Tryd.func41.trans (congrArg some (by kernel_rfl))⟩
 f13 := ⟨Tryd.f42.name, by decide, Tryd.func42.trans (congrArg some (by kernel_rfl))⟩
 f14 := ⟨Tryd.f43.name, by decide, Tryd.func43.trans (congrArg some (by kernel_rfl))⟩
 f15 := ⟨Tryd.f44.name, by decide, Tryd.func44.trans (congrArg some (by kernel_rfl))⟩
 f16 := ⟨Tryd.f45.name, by decide, Tryd.func45.trans (congrArg some (by kernel_rfl))⟩
 f17 := ⟨Tryd.f46.name, by decide, Tryd.func46.trans (congrArg some (by kernel_rfl))⟩
 f18 := ⟨Tryd.f47.name, by decide, Tryd.func47.trans (congrArg some (by kernel_rfl))⟩
 f19 := Tryd.func48.trans (congrArg some (by kernel_rfl))
 f20 := Tryd.func32.trans (congrArg some (by kernel_rfl))
 f30 := ⟨Tryd.f49.name, by decide, Tryd.func49.trans (congrArg some (by kernel_rfl))⟩
 f31 := Tryd.func50.trans (congrArg some (by kernel_rfl))
 f32 := Tryd.func51.trans (congrArg some (by kernel_rfl))
 f33 := ⟨Tryd.f52.name, by decide, Tryd.func52.trans (congrArg some (by kernel_rfl))⟩
 f34 := ⟨Tryd.f53.name, by decide, Tryd.func53.trans (congrArg some (by kernel_rfl))⟩
 f35 := ⟨Tryd.f54.name, by decide, Tryd.func54.trans (congrArg some (by kernel_rfl))⟩
 f40 := ⟨Tryd.f55.name, by decide, Tryd.func55.trans (congrArg some (by kernel_rfl))⟩
 t0 := Tryd.underlying0
 a0 := Tryd.isAgg0
 z0 := Tryd.sizeOf0
 v0 := Tryd.zeroValue0
 t3 := Tryd.underlying3
 a3 := Tryd.isAgg3
 z3 := Tryd.sizeOf3
 v3 := Tryd.zeroValue3
 t4 := Tryd.underlying4
 a4 := Tryd.isAgg4
 z4 := Tryd.sizeOf4
 v4 := Tryd.zeroValue4
 t5 := Tryd.underlying5
 a5 := Tryd.isAgg5
 z5 := Tryd.sizeOf5
 v5 := Tryd.zeroValue5
 t9 := Tryd.underlying9
 a9 := Tryd.isAgg9
 z9 := Tryd.sizeOf9
 v9 := Tryd.zeroValue9
 t22 := Tryd.underlying22
 a22 := Tryd.isAgg22
 z22 := Tryd.sizeOf22
 v22 := Tryd.zeroValue22
 t23 := Tryd.underlying22
 a23 := Tryd.isAgg22
 z23 := Tryd.sizeOf22
 v23 := Tryd.zeroValue22
 t25 := Tryd.underlying3
 a25 := Tryd.isAgg3
 z25 := Tryd.sizeOf3
 v25 := Tryd.zeroValue3
 t32 := Tryd.underlying60
 a32 := Tryd.isAgg60
 z32 := Tryd.sizeOf60
 v32 := Tryd.zeroValue60
 t35 := Tryd.underlying84
 a35 := Tryd.isAgg84
 z35 := Tryd.sizeOf84
 v35 := Tryd.zeroValue84
 t36 := Tryd.underlying85
 a36 := Tryd.isAgg85
 z36 := Tryd.sizeOf85
 v36 := Tryd.zeroValue85
 t41 := Tryd.underlying90
 a41 := Tryd.isAgg90
 z41 := Tryd.sizeOf90
 v41 := Tryd.zeroValue90
 t44 := Tryd.underlying93
 a44 := Tryd.isAgg93
 z44 := Tryd.sizeOf93
 v44 := Tryd.zeroValue93
 t46 := Tryd.underlying38
 a46 := Tryd.isAgg38
 z46 := Tryd.sizeOf38
 v46 := Tryd.zeroValue38
 t53 := Tryd.underlying94
 a53 := Tryd.isAgg94
 z53 := Tryd.sizeOf94
 v53 := Tryd.zeroValue94
 t57 := Tryd.underlying98
 a57 := Tryd.isAgg98
 z57 := Tryd.sizeOf98
 v57 := Tryd.zeroValue98
 t63 := Tryd.underlying100
 a63 := Tryd.isAgg100
 z63 := Tryd.sizeOf100
 v63 := Tryd.zeroValue100
 t64 := Tryd.underlying101
 a64 := Tryd.isAgg101
 z64 := Tryd.sizeOf101
 v64 := Tryd.zeroValue101 }
end Go.Proofs
namespace Go.Proofs
open Go.RowKit Go.Maps Go.Sort Go.Shelf


theorem Tryd.sortsA (m : Nat) : AnyZI.SortsIn Tryd.prog Tryd.sortedA_ren Fence.wide m :=
 ⟨fun blk off cap ss W hH hblk hsz => callsIn_wide.2 (AnyM.slices_Sort_int Tryd.sortA blk off cap ss W hH hblk hsz),
  fun p cap W => callsIn_wide.2 (AnyM.slices_Sort_int_none Tryd.sortA p cap W)⟩

def Tryd.kA (zs : List Int) (k : Nat) : List Lit := (zs.take k).map fun z => .int .i64 (z / 16)
def Tryd.D (zs : List Int) (k : Nat) : DataW Unit := setOf (.agg []) (Tryd.kA zs k)
theorem Tryd.D_succ (zs : List Int) (k : Nat) (hk : k < zs.length) : Tryd.D zs (k + 1) = (Tryd.D zs k).put (.int .i64 (zs[k] / 16)) (.agg []) := by
 unfold Tryd.D Tryd.kA
 rw [List.take_add_one, List.map_append]
 simp only [List.getElem?_eq_getElem hk, Option.toList_some, List.map_cons, List.map_nil]
 rw [setOf_snoc]
theorem Tryd.D_zero (zs : List Int) : Tryd.D zs 0 = .map [] := by simp [Tryd.D, Tryd.kA, setOf]

set_option maxHeartbeats 2000000 in
set_option maxRecDepth 100000 in
theorem Tryd.segs_any (b off cap : Nat) (zs : List Int) (w : World) (hn : zs.length <= 17592186044416) (hb : b < w.heap.size)
  (hc : ∀ (j : Nat) (h : j < zs.length), w.cell? ⟨b, off + j, none⟩ = some (.int .i64 zs[j])) (hz : ∀ z ∈ zs, -9223372036854775808 <= z /\ z <= 9223372036854775807) :
  Calls Tryd.prog 14 #[.slice (some ⟨b, off, none⟩) zs.length cap] w fun e w' => ∃ (v : Value) (ss : List Int), e = .returned v /\ ss.Perm (intKeys (Tryd.D zs zs.length)) /\
   w'.ownsRow w.heap.size 3 1 v ss.length ((ss.mergeSort (fun x y => decide (x <= y))).map encZ) /\ (v = .slice none 0 0 ↔ ss = []) /\ Below w.heap.size w w' := by
 refine (callsIn_wide (n := 6)).1 ?_
 have hmm := @run_makeMap Tryd.prog
 refine callsIn_of_wp Tryd.func14 rfl trivial ?_ rfl
 simp only [Tryd.ntmps14, List.size_toArray, List.length_cons, List.length_nil, Nat.reduceAdd, Nat.reduceSub, Array.replicate_succ, Array.replicate_zero, List.push_toArray, List.append_toArray, List.nil_append, List.cons_append]
 gi_wp2
 gi_loopw [9] (fun i wr => ∃ k : Nat, k <= zs.length /\ i = .int .i64 k /\ wr.ownsMap Tryd.prog 3 (unitElem (H := Unit)) w.heap.size k (Tryd.D zs k) /\ Below w.heap.size w wr)
  (fun i _ => zs.length - (intOf i).toNat)
 case atStart => exact ⟨0, Nat.zero_le _, rfl, by rw [Tryd.D_zero]; exact World.ownsMap_made _ _ _ _, (Below.refl _ _).alloc (Nat.le_refl _) _⟩
 case round =>
  obtain ⟨k, hk, rfl, hown, hnx⟩ := hrel;by_cases hkn : k < zs.length
  ·have hcx : wr.cell? ⟨b, off + k, none⟩ = some (.int .i64 zs[k]) := (hnx.cell (by exact hb)).trans (hc k hkn)
   have hzb := hz zs[k] (List.getElem_mem _)
   have hwf : (Lit.int .i64 (zs[k] / 16)).wf = true := WalkArith.wf_i64 (by omega)
   gi_wp2_with (first
    | (gi_at_mapUpdate; refine wpListIn_mapUpdate_own _ rfl _ _ _ 67 rfl 3 68 (Maps.int_keyed Tryd.underlying3) Tryd.underlying67 _ w.heap.size k _ rfl hown (by unfold maxLen; omega) _ _ _ rfl rfl (Maps.keyOf_int_mk Tryd.underlying3 hwf) _ [] (unitElem_mk (H := Unit)) ?_; intro w1 hown1 hgrow1)
    | gi_in)
   go_roundw
   case rel => exact ⟨k + 1, by omega, by go_num, (Tryd.D_succ zs k hkn).symm ▸ hown1, hnx.grown hgrow1 hnx.size (fun j hj => by cases hj; exact Nat.le_refl _)⟩
   case measure => simp [intOf]; omega
  ·obtain rfl : k = zs.length := by omega
   have hbl := hown.lt
   have hD : Maps.size (Tryd.D zs zs.length) <= zs.length := hown.size_le
   have hseq : SeqGives Fence.wide 2 Tryd.prog 35 #[.pointer (some ⟨wr.heap.size, 0, none⟩)] encZ (fun ss => ss.Perm (intKeys (Tryd.D zs zs.length))) (Maps.size (Tryd.D zs zs.length)) (wr.alloc (.cells #[.map (some w.heap.size)] 67)) :=
    AnyZI.keys_gives (ρ := Tryd.keysA_ren) { Tryd.keysA with } Fence.wide _ trivial rfl (by omega) wr.heap.size w.heap.size zs.length (Tryd.D zs zs.length) _ (by simp) (by simp) (by
     obtain ⟨es, clock, hb, Ft, hs, hD⟩ := hown;exact ⟨es, clock, (Below.heap_alloc _ _ w.heap.size hbl).trans hb, Ft, hs, hD⟩)
   have cK : ∀ mb W, CallsIn Fence.wide 5 Tryd.prog 29 #[.map mb] W fun e w' => e = .returned (.func (.func 35) #[] #[.pointer (some ⟨W.heap.size, 0, none⟩)]) /\ w' = W.alloc (.cells #[.map mb] 67) := fun mb W => AnyZI.keys_in Tryd.keysA Fence.wide 5 trivial rfl mb W
   have cS := AnyZI.sorted_in Tryd.sortedA Fence.wide 5 trivial trivial trivial trivial rfl (by omega) (Tryd.sortsA _) (enters_of Tryd.func34 (by kernel_rfl) rfl) 35 #[.pointer (some ⟨wr.heap.size, 0, none⟩)] trivial (enters_of Tryd.func35 (by kernel_rfl) rfl) _ _ (by unfold maxLen; omega) (by omega) _ hseq
   change CallsIn _ _ Tryd.prog 28 _ _ _ at cS
   have hfK : Fence.wide.fn 29 := trivial
   have hfS : Fence.wide.fn 28 := trivial
   gi_wp2_with (first
    | (gi_at_call 29; refine (cK _ _).mono ?_; rintro e w' ⟨rfl, rfl⟩)
    | (gi_at_call 28; refine cS.mono ?_; rintro e w' ⟨v, ss, rfl, hS, hrow, hnil, hbb⟩))
   go_ret
   exact ⟨v, ss, rfl, hS, ownsRow_base_a hrow (by have := hnx.size; simp; omega), hnil, (hnx.alloc hnx.size _).trans (hbb.mono (by have := hnx.size; simp; omega))⟩

set_option maxHeartbeats 2000000 in
set_option maxRecDepth 100000 in
theorem Tryd.segs_none (ao : Option Addr) (cap : Nat) (w : World) :
  Calls Tryd.prog 14 #[.slice ao 0 cap] w fun e w' => ∃ (v : Value) (ss : List Int), e = .returned v /\ ss.Perm (intKeys (Tryd.D [] 0)) /\
   w'.ownsRow w.heap.size 3 1 v ss.length ((ss.mergeSort (fun x y => decide (x <= y))).map encZ) /\ (v = .slice none 0 0 ↔ ss = []) /\ Below w.heap.size w w' := by
 refine (callsIn_wide (n := 6)).1 ?_
 have hmm := @run_makeMap Tryd.prog
 refine callsIn_of_wp Tryd.func14 rfl trivial ?_ rfl
 simp only [Tryd.ntmps14, List.size_toArray, List.length_cons, List.length_nil, Nat.reduceAdd, Nat.reduceSub, Array.replicate_succ, Array.replicate_zero, List.push_toArray, List.append_toArray, List.nil_append, List.cons_append]
 gi_wp2
 gi_loopw [9] (fun i wr => i = .int .i64 0 /\ wr.ownsMap Tryd.prog 3 (unitElem (H := Unit)) w.heap.size 0 (Tryd.D [] 0) /\ Below w.heap.size w wr) (fun _ _ => 0)
 case atStart => exact ⟨rfl, by rw [Tryd.D_zero]; exact World.ownsMap_made _ _ _ _, (Below.refl _ _).alloc (Nat.le_refl _) _⟩
 case round =>
  obtain ⟨rfl, hown, hnx⟩ := hrel;have hbl := hown.lt;have hD : Maps.size (Tryd.D [] 0) <= 0 := hown.size_le;have hseq : SeqGives Fence.wide 2 Tryd.prog 35 #[.pointer (some ⟨wr.heap.size, 0, none⟩)] encZ (fun ss => ss.Perm (intKeys (Tryd.D [] 0))) (Maps.size (Tryd.D [] 0)) (wr.alloc (.cells #[.map (some w.heap.size)] 67)) :=
   AnyZI.keys_gives (ρ := Tryd.keysA_ren) { Tryd.keysA with } Fence.wide _ trivial rfl (by omega) wr.heap.size w.heap.size 0 (Tryd.D [] 0) _ (by simp) (by simp) (by
    obtain ⟨es, clock, hb, Ft, hs, hD⟩ := hown;exact ⟨es, clock, (Below.heap_alloc _ _ w.heap.size hbl).trans hb, Ft, hs, hD⟩)
  have cK : ∀ mb W, CallsIn Fence.wide 5 Tryd.prog 29 #[.map mb] W fun e w' => e = .returned (.func (.func 35) #[] #[.pointer (some ⟨W.heap.size, 0, none⟩)]) /\ w' = W.alloc (.cells #[.map mb] 67) := fun mb W => AnyZI.keys_in Tryd.keysA Fence.wide 5 trivial rfl mb W
  have cS := AnyZI.sorted_in Tryd.sortedA Fence.wide 5 trivial trivial trivial trivial rfl (by omega) (Tryd.sortsA _) (enters_of Tryd.func34 (by kernel_rfl) rfl) 35 #[.pointer (some ⟨wr.heap.size, 0, none⟩)] trivial (enters_of Tryd.func35 (by kernel_rfl) rfl) _ _ (by unfold maxLen; omega) (by omega) _ hseq
  change CallsIn _ _ Tryd.prog 28 _ _ _ at cS
  have hfK : Fence.wide.fn 29 := trivial
  have hfS : Fence.wide.fn 28 := trivial
  gi_wp2_with (first
   | (gi_at_call 29; refine (cK _ _).mono ?_; rintro e w' ⟨rfl, rfl⟩)
   | (gi_at_call 28; refine cS.mono ?_; rintro e w' ⟨v, ss, rfl, hS, hrow, hnil, hbb⟩))
  go_ret
  exact ⟨v, ss, rfl, hS, ownsRow_base_a hrow (by have := hnx.size; simp; omega), hnil, (hnx.alloc hnx.size _).trans (hbb.mono (by have := hnx.size; simp; omega))⟩
end Go.Proofs
namespace Go.Proofs
open Go.RowKit Go.Maps Go.Sort Go.Shelf

theorem Tryd.keys_fold {H : Type} (u : DataW H) (Q : Lit -> Prop) : ∀ (xs : List Lit) (es : List (Lit × DataW H)), (∀ p ∈ es, Q p.1) -> (∀ x ∈ xs, Q x) ->
  ∃ es', xs.foldl (fun (m : DataW H) x => m.put x u) (DataW.map es) = DataW.map es' /\ ∀ p ∈ es', Q p.1
 | [], es, h, _ => ⟨es, rfl, h⟩
 | x :: xs, es, h, hx => by
  have e : ((.map es : DataW H).put x u) = .map (DataW.insert (x, u) (es.filter fun p => !p.1.sameKey x)) := rfl
  rw [List.foldl_cons, e];refine Tryd.keys_fold u Q xs _ (fun p hp => ?_) (fun y hy => hx y (by simp [hy]))
  rcases ChangeMaps.mem_insert_iff.1 hp with rfl | hp
  ·exact hx x (by simp)
  ·exact h p (List.mem_filter.1 hp).1

theorem Tryd.sort_segs {zs ss : List Int} (h : ss.Perm (intKeys (Tryd.D zs zs.length))) : ss.mergeSort (fun x y => decide (x <= y)) = Go.User.segs zs := by
 have hkey : ∀ x ∈ Tryd.kA zs zs.length, WideAt.IsKeyLit x := by
  intro x hx;obtain ⟨z, _, rfl⟩ := List.mem_map.1 hx
  trivial
 have hhas : ∀ x, has (Tryd.D zs zs.length) (.int .i64 x) = true ↔ x ∈ Go.User.segs zs := by
  intro x;rw [Go.User.mem_segs];unfold Tryd.D;rw [has_setOf _ _ _ hkey, List.any_eq_true];unfold Tryd.kA;rw [List.take_length];constructor
  ·rintro ⟨l, hl, he⟩
   obtain ⟨z, hz, rfl⟩ := List.mem_map.1 hl;have := WideAt.sameKey_eq he;injection this with _ this;exact ⟨z, hz, this.symm⟩
  ·rintro ⟨z, hz, rfl⟩
   exact ⟨_, List.mem_map.2 ⟨z, hz, rfl⟩, WideAt.sameKey_self trivial⟩
 obtain ⟨es, he, hne⟩ := tidy_setOf (H := Unit) (.agg []) (Tryd.kA zs zs.length) hkey
 have hD : Tryd.D zs zs.length = .map es := he
 have hks : ∀ p ∈ es, ∃ x, p.1 = .int .i64 x := by
  obtain ⟨es', he', hq⟩ := Tryd.keys_fold (.agg [] : DataW Unit) (fun l => ∃ x, l = .int .i64 x) (Tryd.kA zs zs.length) [] (by simp) (fun x hx => by
   obtain ⟨z, _, rfl⟩ := List.mem_map.1 hx;exact ⟨_, rfl⟩)
  have : DataW.map es = DataW.map es' := he.symm.trans he'
  injection this with this;rw [this];exact hq
 have hp : (Go.User.segs zs).Perm (intKeys (Tryd.D zs zs.length)) := by
  rw [hD];refine perm_intKeys hne hks (Go.User.strict_nodup (Go.User.segs_strict zs)) fun x => ?_
  rw [<- hD];exact (hhas x).symm
 have hperm : (ss.mergeSort (fun x y => decide (x <= y))).Perm (Go.User.segs zs) := (List.mergeSort_perm _ _).trans (h.trans hp.symm)
 have hsort := List.pairwise_mergeSort (le := fun x y : Int => decide (x <= y)) (by intro a b c; simp; omega) (by intro a b; simp; omega) ss
 refine Go.User.strict_ext ?_ (Go.User.segs_strict zs) fun x => hperm.mem_iff
 have hnd := hperm.nodup_iff.2 (Go.User.strict_nodup (Go.User.segs_strict zs))
 unfold Go.User.Strict
 exact (hsort.and hnd).imp fun {a b} hab => by
  have h1 := hab.1
  have h2 := hab.2
  simp at h1
  omega
end Go.Proofs
namespace Go.User
open Go.Lf Go.Proofs Go.RowKit

theorem row_post {w w' : World} {F : NSet} (hF : ∀ b, F b -> b < w.heap.size) {v : Value} {ns : List Int} (hn : ∀ z ∈ ns, -9223372036854775808 <= z /\ z <= 9223372036854775807) (hl : ns.length <= lim)
  (h : w'.ownsRow w.heap.size 3 1 v ns.length (ns.map (Value.int .i64))) (hb : Below w.heap.size w w') : Post F w false (.slice tI) (.own .shr) ns (.returned v) w' := by
 obtain ⟨h1, ⟨rfl, h2⟩ | ⟨g, cap, cur, rfl, hg, hcell, hc1, hc2, hc3, hc4⟩⟩ := h
 ·have : ns = [] := List.eq_nil_of_length_eq_zero h2
  subst this;exact ⟨_, F, none', rfl, hb, fun _ h => h, fun b h h' => absurd h h', fun b h => h.elim (fun h => Nat.lt_of_lt_of_le (hF b h) hb.size) (fun h => h.elim), fun b h => h.elim, OwnV.nil _ _ _ _ _⟩
 ·have hglt : g < w'.heap.size := (Array.getElem?_eq_some_iff.1 hcell).1
  refine ⟨_, F, fun b => b = g, rfl, hb, fun _ h => h, fun b h h' => absurd h h', ?_, ?_, ?_⟩
  ·rintro b (h | rfl)
   ·exact Nat.lt_of_lt_of_le (hF b h) hb.size
   ·exact hglt
  ·rintro b rfl
   exact ⟨hg, fun h => by have := hF _ h; omega⟩
  ·refine ⟨_, rfl, some ⟨g, 0, none⟩, cap, rfl, hc1, hl, .inr ⟨g, 0, cur, 3, fun _ => none', rfl, rfl, hcell, ?_, fun _ _ h => h.elim, fun _ h => h.elim, fun _ _ _ _ h => h.elim, fun i x h => ?_⟩⟩
   ·show 0 + cap * 1 <= cur.size; omega
   ·have hi : i < ns.length := (List.getElem?_eq_some_iff.1 h).1
    have hx := hn x (List.mem_of_getElem? h)
    have e : seg cur.toList (0 + i * 1) 1 = [.int .i64 x] := by
     have e1 : (cur.toList.take (ns.length * 1))[i]? = some (.int .i64 x) := by rw [hc4, List.getElem?_map, h]; rfl
     rw [List.getElem?_take_of_lt (by omega)] at e1;unfold seg;rw [Nat.zero_add, Nat.mul_one];obtain ⟨q1, q2⟩ := List.getElem?_eq_some_iff.1 e1;rw [List.drop_eq_getElem_cons q1, q2]
     rfl
    exact ⟨e, hx.1, hx.2⟩

theorem ok14 : FOk Tryd.prog 14 S14 := by
 refine ⟨Tryd.call14, fun w F vs xs _ hF ha hp => ?_⟩
 obtain ⟨v, r, rfl, ⟨cs, rfl, ao, cap, rfl, hc1, hc2, hm⟩, rfl⟩ := ha
 obtain ⟨(zs : List Int), ⟨⟩⟩ := xs
 have hp : zs.length <= 1000000 := hp
 have fin : ∀ (W : World) (v : Value) (ss : List Int), (∀ z ∈ zs, -9223372036854775808 <= z /\ z <= 9223372036854775807) -> ss.Perm (Go.intKeys (Tryd.D zs zs.length)) ->
   W.ownsRow w.heap.size 3 1 v ss.length ((ss.mergeSort (fun x y => decide (x <= y))).map encZ) -> Below w.heap.size w W -> Post F w false (.slice tI) (.own .shr) (segs zs) (.returned v) W := by
  intro W v ss hz hS hrow hb;have e := Tryd.sort_segs hS;have hl : ss.length = (segs zs).length := by rw [<- e, List.length_mergeSort]
  rw [e, hl] at hrow;refine row_post hF (fun z hz' => ?_) (by have := segs_len_le zs; rw [lim_eq]; omega) hrow hb
  obtain ⟨a, ha, rfl⟩ := (mem_segs _ _).1 hz';obtain ⟨q1, q2⟩ : (-9223372036854775808 : Int) <= a /\ a <= (9223372036854775807 : Int) := hz a ha;omega
 rcases hm with he | ⟨b, off, row, T, fr, rfl, hFb, hcell, hlen, hel⟩
 ·have he : zs = [] := he
  subst he;refine (Tryd.segs_none ao cap w).mono ?_;rintro e w' ⟨v, ss, rfl, hS, hrow, _, hb⟩;exact fin w' v ss (by simp) hS hrow hb
 ·have hz : ∀ z ∈ zs, -9223372036854775808 <= z /\ z <= 9223372036854775807 := by
   intro z hz;obtain ⟨i, hi⟩ := List.mem_iff_getElem?.1 hz;exact (hel i z hi).2
  refine (Tryd.segs_any b off cap zs w (by omega) (hF b hFb) (fun j hj => ?_) hz).mono ?_
  ·have h := (hel j zs[j] (List.getElem?_eq_getElem hj)).1
   have hsz : off + zs.length * 1 <= row.size := hlen
   have hj2 : off + j < row.size := by omega
   have h : seg row.toList (off + j * 1) 1 = [.int .i64 zs[j]] := h
   unfold seg at h;rw [Nat.mul_one, List.drop_eq_getElem_cons (by simpa using hj2)] at h;simp at h;simp [World.cell?, hcell, h, Array.getElem?_eq_getElem hj2]
  ·rintro e w' ⟨v, ss, rfl, hS, hrow, _, hb⟩
   exact fin w' v ss hz hS hrow hb
end Go.User
namespace Go.Proofs
open Go.RowKit Go.Maps Go.Sort Go.Shelf

theorem Tryd.len64 (x : Int) (w : World) (h0 : 0 <= x) (h1 : x <= 18446744073709551615) :
  Calls Tryd.prog 32 #[.int .u64 x] w fun e w' => e = .returned (.int .i64 (Lib.bitLen x.toNat)) /\ w' = w :=
 calls_of_every_depth fun D => AnySM.bits_Len64In { Tryd.sortA with } D x w h0 h1

set_option maxHeartbeats 1000000 in
theorem Tryd.lz64 (x : Nat) (w : World) (h1 : x < 18446744073709551616) :
  Calls Tryd.prog 25 #[.int .u64 x] w fun e w' => e = .returned (.int .i64 (64 - (Lib.bitLen x : Int))) /\ w' = w := by
 have hb : Lib.bitLen x <= 64 := Lib.bitLen_le x 64 (by omega) h1
 go_enter Tryd.func25, Tryd.ntmps25
 go_wp2_with (go_at_call 32; refine (Tryd.len64 _ _ (by omega) (by omega)).mono ?_; rintro e w' ⟨rfl, rfl⟩)
 go_ret
 refine ⟨?_, rfl⟩
 simp

set_option maxHeartbeats 1000000 in
theorem Tryd.tz64_core (x k idx : Nat) (w : World) (hx0 : ((x : Int) == 0) = false)
  (key : IntKind.u64.wrap (bits BinOp.and IntKind.u64 (x : Int) (IntKind.u64.wrap (-(x : Int))) * 285870213051353865) / 288230376151711744 = (idx : Int))
  (hi : idx < 64) (hk : k < 64) (hcell : w.cell? ⟨0, idx, none⟩ = some (.int .u8 k)) :
  Calls Tryd.prog 24 #[.int .u64 x] w fun e w' => e = .returned (.int .i64 k) /\ w' = w := by
 go_enter Tryd.func24, Tryd.ntmps24
 go_wp2_with (simp only [key])
 go_ret
 exact ⟨rfl, rfl⟩
theorem Tryd.tz64_zero (w : World) : Calls Tryd.prog 24 #[.int .u64 0] w fun e w' => e = .returned (.int .i64 64) /\ w' = w := by
 go_enter Tryd.func24, Tryd.ntmps24
 go_wp2
 go_ret
 exact ⟨rfl, rfl⟩
theorem Tryd.tz64 (x : Nat) (hx : x < 18446744073709551616) (w : World) (hT : TabAt 0 Lib.deBruijn64tab w) :
  Calls Tryd.prog 24 #[.int .u64 x] w fun e w' => e = .returned (.int .i64 (Lib.ctz 64 x)) /\ w' = w := by
 by_cases hx0 : x = 0
 ·subst hx0
  exact Tryd.tz64_zero w
 ·obtain ⟨hlow, hk⟩ := Lib.lowest_bit 64 x hx0 hx
  obtain ⟨hi, htab⟩ := Lib.deBruijn64_at _ hk;have hcell := hT _ hi;rw [htab] at hcell;exact Tryd.tz64_core x _ _ w (by simp; omega) (tz64_key x _ hx hx0 hlow) hi hk hcell
end Go.Proofs
namespace Go.User
open Go
def onesI (x : Nat) : List Int := (onesN 64 x).map Int.ofNat
theorem mem_onesI {x : Nat} {y : Int} : y ∈ onesI x ↔ ∃ i : Nat, i < 64 /\ x.testBit i = true /\ y = i := by
 unfold onesI onesN
 simp only [List.mem_map, List.mem_filter, List.mem_range]
 constructor
 ·rintro ⟨i, ⟨h1, h2⟩, rfl⟩
  exact ⟨i, h1, h2, rfl⟩
 ·rintro ⟨i, h1, h2, rfl⟩
  exact ⟨i, ⟨h1, h2⟩, rfl⟩
theorem onesI_strict (x : Nat) : Strict (onesI x) := by
 unfold onesI onesN Strict
 rw [List.pairwise_map]
 exact (List.Pairwise.filter _ List.pairwise_lt_range).imp fun h => Int.ofNat_lt.2 h
theorem onesI_len (x : Nat) : (onesI x).length = (onesN 64 x).length := by simp [onesI]
theorem bits_low (k m : Nat) : (∀ i, i < k -> (2 ^ k * (2 * m + 1)).testBit i = false) /\ (2 ^ k * (2 * m + 1)).testBit k = true /\
  ∀ i, (2 ^ k * (2 * m + 1) &&& (2 ^ k * (2 * m + 1) - 1)).testBit i = ((2 ^ k * (2 * m + 1)).testBit i && decide (i ≠ k)) := by
 have h1 : ∀ i, i < k -> (2 ^ k * (2 * m + 1)).testBit i = false := fun i hi => by
  rw [Nat.testBit_two_pow_mul]
  simp; omega
 have h2 : (2 ^ k * (2 * m + 1)).testBit k = true := by
  rw [Nat.testBit_two_pow_mul]
  simp
 refine ⟨h1, h2, fun i => ?_⟩
 have e : 2 ^ k * (2 * m + 1) - 1 = 2 ^ k * (2 * m) + (2 ^ k - 1) := by
  have := Nat.two_pow_pos k
  rw [Nat.mul_add];omega
 rw [Nat.testBit_and, e]
 have hlt : 2 ^ k - 1 < 2 ^ k := by have := Nat.two_pow_pos k; omega
 rw [Nat.testBit_two_pow_mul_add _ hlt]
 by_cases hi : i < k
 ·rw [h1 i hi]; simp
 ·rw [if_neg hi]
  by_cases hk : i = k
  ·subst hk
   simp
  ·rw [Nat.testBit_two_pow_mul]
   have h3 : k <= i := by omega
   have h4 : i - k ≠ 0 := by omega
   obtain ⟨j, hj⟩ : ∃ j, i - k = j + 1 := ⟨i - k - 1, by omega⟩
   rw [hj, Nat.testBit_succ, Nat.testBit_succ];have a1 : (2 * m + 1) / 2 = m := by omega
   have a2 : 2 * m / 2 = m := by omega
   rw [a1, a2];simp [h3, hk]
theorem onesI_cons (x : Nat) (hx : x < 2 ^ 64) (h0 : x ≠ 0) : onesI x = (Lib.ctz 64 x : Int) :: onesI (x &&& (x - 1)) /\ Lib.ctz 64 x < 64 /\ x &&& (x - 1) < x := by
 obtain ⟨m, hm, hk⟩ := Lib.ctzFrom_spec 64 x (by omega) hx
 have hc : Lib.ctz 64 x = Lib.ctzFrom 64 x := by unfold Lib.ctz; rw [if_neg h0]
 rw [hc]
 generalize Lib.ctzFrom 64 x = k at *
 obtain ⟨b1, b2, b3⟩ := bits_low k m
 rw [<- hm] at b1 b2 b3
 have hle : x &&& (x - 1) <= x - 1 := Nat.and_le_right
 refine ⟨?_, hk, by omega⟩
 refine strict_ext (onesI_strict x) ?_ fun y => ?_
 ·refine List.pairwise_cons.2 ⟨fun y hy => ?_, onesI_strict _⟩
  obtain ⟨i, h1, h2, rfl⟩ := mem_onesI.1 hy;rw [b3] at h2;simp at h2;by_cases hik : i < k
  ·rw [b1 i hik] at h2; simp at h2
  ·omega
 ·rw [List.mem_cons, mem_onesI, mem_onesI]
  constructor
  ·rintro ⟨i, h1, h2, rfl⟩
   by_cases hik : i = k
   ·left; omega
   ·right
    exact ⟨i, h1, by rw [b3, h2]; simp [hik], rfl⟩
  ·rintro (rfl | ⟨i, h1, h2, rfl⟩)
   ·exact ⟨k, hk, b2, rfl⟩
   ·rw [b3] at h2
    simp at h2
    exact ⟨i, h1, h2.1, rfl⟩
theorem onesI_zero : onesI 0 = [] := by
 unfold onesI onesN
 rw [List.map_eq_nil_iff, List.filter_eq_nil_iff]
 simp
theorem onesI_nil {x : Nat} (hx : x < 2 ^ 64) (h : onesI x = []) : x = 0 := by
 by_cases h0 : x = 0
 ·exact h0
 ·rw [(onesI_cons x hx h0).1] at h; cases h
theorem onesI_lanes (a L : Nat) (hL : L <= 64) : onesI (a % 2 ^ L) = Sp.lanes (L : Int) (a : Int) := by
 refine strict_ext (onesI_strict _) (lanes_strict _ _) fun y => ?_
 rw [mem_onesI, mem_lanes]
 constructor
 ·rintro ⟨i, h1, h2, rfl⟩
  rw [Nat.testBit_mod_two_pow] at h2;simp at h2;exact ⟨i, h1, by omega, by simpa using h2.2, rfl⟩
 ·rintro ⟨i, h1, h2, h3, rfl⟩
  refine ⟨i, h1, ?_, rfl⟩
  rw [Nat.testBit_mod_two_pow]
  simp
  exact ⟨by omega, by simpa using h3⟩
theorem bitLen_top (x : Nat) (hx : x < 2 ^ 64) (h0 : x ≠ 0) : 1 <= Lib.bitLen x /\ Lib.bitLen x <= 64 /\ x.testBit (Lib.bitLen x - 1) = true /\ ∀ i, Lib.bitLen x <= i -> x.testBit i = false := by
 have key : ∀ (f x : Nat), x < 2 ^ f -> x ≠ 0 -> 1 <= Lib.bitLenAux f x /\ Lib.bitLenAux f x <= f /\ x.testBit (Lib.bitLenAux f x - 1) = true /\ ∀ i, Lib.bitLenAux f x <= i -> x.testBit i = false := by
  intro f
  induction f with
  | zero => intro x hx h0; simp at hx; omega
  | succ f ih =>
   intro x hx h0;unfold Lib.bitLenAux;rw [if_neg h0];by_cases h1 : x / 2 = 0
   ·have : x = 1 := by omega
    subst this;have e : Lib.bitLenAux f (1 / 2) = 0 := by
     cases f with
     | zero => rfl
     | succ f => unfold Lib.bitLenAux; rw [if_pos (by decide)]
    rw [e];refine ⟨by omega, by omega, by decide, fun i hi => ?_⟩
    obtain ⟨j, rfl⟩ : ∃ j, i = j + 1 := ⟨i - 1, by omega⟩
    rw [Nat.testBit_succ]
    simp
   ·obtain ⟨q1, q2, q3, q4⟩ := ih (x / 2) (by rw [Nat.pow_succ] at hx; omega) h1
    refine ⟨by omega, by omega, ?_, fun i hi => ?_⟩
    ·obtain ⟨j, hj⟩ : ∃ j, Lib.bitLenAux f (x / 2) = j + 1 := ⟨Lib.bitLenAux f (x / 2) - 1, by omega⟩
     rw [hj] at q3 ⊢;rw [show 1 + (j + 1) - 1 = j + 1 by omega, Nat.testBit_succ]
     exact q3
    ·obtain ⟨j, rfl⟩ : ∃ j, i = j + 1 := ⟨i - 1, by omega⟩
     rw [Nat.testBit_succ];exact q4 j (by omega)
 exact key 64 x hx h0
theorem lastI_of {l : List Int} {m : Int} (hs : Strict l) (hm : m ∈ l) (h : ∀ y ∈ l, y <= m) : Sp.lastI l = m := by
 obtain ⟨i, hi, rfl⟩ := List.mem_iff_getElem.1 hm
 unfold Sp.lastI
 have hl : l.length - 1 < l.length := by omega
 rw [List.getD, List.getElem?_eq_getElem hl, Option.getD_some]
 have h1 := h _ (List.getElem_mem hl)
 by_cases he : i = l.length - 1
 ·subst he; rfl
 ·have := List.pairwise_iff_getElem.1 hs i (l.length - 1) hi hl (by omega)
  omega
theorem onesI_last (x : Nat) (hx : x < 2 ^ 64) (h0 : x ≠ 0) : Sp.lastI (onesI x) = (Lib.bitLen x : Int) - 1 := by
 obtain ⟨h1, h2, h3, h4⟩ := bitLen_top x hx h0
 refine lastI_of (onesI_strict x) (mem_onesI.2 ⟨Lib.bitLen x - 1, by omega, h3, by omega⟩) fun y hy => ?_
 obtain ⟨i, _, hi, rfl⟩ := mem_onesI.1 hy
 by_cases hb : Lib.bitLen x <= i
 ·rw [h4 i hb] at hi; cases hi
 ·omega
end Go.User
namespace Go
open Go.RowKit
variable {F : Fence} {n : Nat} {P : Program}

def AbX {β : Type} (G : World -> World -> Prop) (J : β -> World -> Prop) : Prop := ∀ s A B, J s A -> G A B -> J s B

def SeqX {α : Type} (F : Fence) (n : Nat) (P : Program) (g : Nat) (lb : Array Value) (encs : α -> Array Value) (G K : World -> World -> Prop) (X : List α -> α -> Prop) (S Sp : List α -> Prop) (w : World) : Prop :=
 ∀ (l : Nat) (J Jx : List α -> World -> Prop) (W : World), Below w.heap.size w W -> AbX G J -> AbX G Jx ->
  (∀ pre x W1, J pre W1 -> X pre x -> YieldAt F (n - 1) P l (encs x) W1 fun e W' => (e = .returned (.bool true) /\ J (pre ++ [x]) W' /\ K W1 W') ∨ (e = .returned (.bool false) /\ Jx (pre ++ [x]) W')) ->
  J [] W ->
  CallsIn F n P g (#[.func (.yield l) #[] #[]] ++ lb) W fun e W' => (∃ v, e = .returned v) /\ ((∃ xs, S xs /\ J xs W') ∨ (∃ pre, Sp pre /\ Jx pre W'))

def ownX {α : Type} (B : Nat) (K : World -> World -> Prop) (I : List α -> World -> Prop) (Ix : Code -> List α -> World -> Prop) (xs : List α) (W : World) : Exit -> Act -> World -> Prop
 | .normal, _, W' => KeepsFrom B W W' /\ K W W' /\ I xs W'
 | .ret, _, W' => KeepsFrom B W W' /\ Ix .ret xs W'
 | .exit id, _, W' => KeepsFrom B W W' /\ Ix (.exit id) xs W'
 | .goto t, _, W' => KeepsFrom B W W' /\ Ix (.goto t) xs W'
 | _, _, _ => False

theorem wpIn_rangeX {α : Type} {g : Operand} {ps : Array Tmp} {assign body : Code} {Q : Exit -> Act -> World -> Prop} {a : Act} {w : World}
  (hro : F.round = none) (h1 : 1 <= n) {gf : Nat} {lb : Array Value} (hg : a.eval g = .func (.func gf) #[] lb) (hFg : F.fn gf) (eg : ∀ args w, (callFunc gf args).run P w = .ok (.enter gf args) w)
  {encs : α -> Array Value} {G K : World -> World -> Prop} {X : List α -> α -> Prop} {S Sp : List α -> Prop} (hseq : SeqX F (n - 1) P gf lb encs G K X S Sp w)
  (hG : ∀ {A B : World}, G A B -> KeepsFrom w.heap.size A B) (hKt : ∀ {A B C : World}, K A B -> K B C -> K A C)
  (hKb : ∀ (W : World) (l : Nat) (o o' : Obj), w.heap.size <= l -> W.heap[l]? = some o -> o.isCells = false -> o.isWalk = false -> K W (W.putObj l o')) (hps : ∀ x, (encs x).size = ps.size)
  (I : List α -> World -> Prop) (Ix : Code -> List α -> World -> Prop) (hI : OwnFrom w.heap.size I) (hIx : ∀ c, OwnFrom w.heap.size (Ix c)) (hIG : AbX G I) (hIxG : ∀ c, AbX G (Ix c)) (h0 : I [] w) (a₁ : α -> Act)
  (hassign : ∀ (l : Nat) (x : α) (W : World) (k : Act -> World -> Prop), k (a₁ x) W ->
   assign.wpIn (F.inRound l) (n - 1 - 1) P (Exit.then k (fun _ _ _ => False)) { tmps := (ps.zip (encs x)).foldl (fun t (p, v) => t.setIfInBounds p v) a.tmps, defers := [] } W)
  (hbody : ∀ (l : Nat) (pre : List α) (x : α) (W : World), I pre W -> X pre x -> body.wpIn (F.inRound l) (n - 1 - 1) P (ownX w.heap.size K I Ix (pre ++ [x]) W) (a₁ x) W)
  (hdone : ∀ (D : Nat) (xs : List α) (W : World), w.heap.size <= D -> S xs -> I xs W -> W.heap[D]? = some (.deferred (some [])) -> Q .normal { a with defers := { target := .collected D, args := #[] } :: a.defers } W)
  (hstop : ∀ (D : Nat) (c : Code) (pre : List α) (W : World), w.heap.size <= D -> Sp pre -> Ix c pre W -> W.heap[D]? = some (.deferred (some [])) -> c.wpIn F n P Q { a with defers := { target := .collected D, args := #[] } :: a.defers } W) :
  (Code.rangeFunc g ps assign body).wpIn F n P Q a w := by
 refine wpIn_rangeFunc fun fn hfn => ?_
 rw [hro]
 let rec0 : LoopState -> Option Code -> Loop := fun st pe => { state := st, pending := pe, fn, tmps := a.tmps, params := ps, assign, body, defers := w.heap.size }
 obtain ⟨b, hb⟩ : ∃ b, b = w.heap.size := ⟨_, rfl⟩
 let Ready : World -> Prop := fun W => W.heap[b + 1]? = some (.loop (rec0 .ready none)) /\ W.heap[b]? = some (.deferred (some []))
 let Left : Code -> World -> Prop := fun c W => W.heap[b + 1]? = some (.loop (rec0 .done (some c))) /\ W.heap[b]? = some (.deferred (some []))
 obtain ⟨W1, hW1⟩ : ∃ W1, W1 = (w.alloc (.deferred (some []))).alloc (.loop (rec0 .ready none)) := ⟨_, rfl⟩
 have hready : Ready W1 := by
  subst hW1 hb;refine ⟨?_, (Below.heap_alloc _ _ _ (by simp)).trans (World.alloc_heap_new w _)⟩;have := World.alloc_heap_new (w.alloc (.deferred (some []))) (.loop (rec0 .ready none))
  rwa [World.size_alloc] at this
 have hI1 : I [] W1 := by rw [hW1]; exact hI.alloc _ (hI.alloc _ h0)
 have hbel : Below w.heap.size w W1 := by rw [hW1]; exact ((Below.refl _ w).alloc (Nat.le_refl _) _).alloc (by simp) _
 refine ⟨b + 1, [{ target := .collected b, args := #[] }], W1, { target := .fn (.func gf) lb, args := #[.func (.yield (b + 1)) #[] #[]] }, W1, gf,
  #[.func (.yield (b + 1)) #[] #[]] ++ lb, W1, ?_, ?_, ?_, ?_, fun _ => h1, ?_⟩
 ·rw [hW1, hb]; exact run_enterLoop_outer _ _ _ _ _
 ·simp only [resolve, hg]
  simp [go_sem]
 ·intro f' hf'; simp [Target.leads] at hf'; subst hf'; exact hFg
 ·simp [invoke, go_sem, eg]
 have hbB : w.heap.size <= b := by omega
 have ready_G : ∀ {A B : World}, G A B -> Ready A -> Ready B := fun hg h => ⟨(hG hg).same _ _ (by omega) h.1 rfl, (hG hg).same _ _ hbB h.2 rfl⟩
 have left_G : ∀ {A B : World} {c : Code}, G A B -> Left c A -> Left c B := fun hg h => ⟨(hG hg).same _ _ (by omega) h.1 rfl, (hG hg).same _ _ hbB h.2 rfl⟩
 refine (hseq (b + 1) (fun pre W => I pre W /\ Ready W) (fun pre W => ∃ c, Ix c pre W /\ Left c W) W1 hbel
  (fun s A B h hg => ⟨hIG s A B h.1 hg, ready_G hg h.2⟩) (fun s A B h hg => ?_) ?_ ⟨hI1, hready⟩).mono ?_
 ·obtain ⟨c, h1, h2⟩ := h
  exact ⟨c, hIxG c s A B h1 hg, left_G hg h2⟩
 ·
  rintro pre x W ⟨hi, hr, hd⟩ hx
  have hlt : b + 1 < W.heap.size := (Array.getElem?_eq_some_iff.1 hr).1
  refine ⟨fn, _, assign, body, run_yield hr (hps x), roundIn_of_wpIn hfn (hassign _ x W _ ⟨_, run_beginRound hr rfl, ?_⟩)⟩
  obtain ⟨W2, hW2⟩ : ∃ W2, W2 = W.putObj (b + 1) (.loop { rec0 .ready none with state := .busy }) := ⟨_, rfl⟩;have hr2 : W2.heap[b + 1]? = some (.loop { rec0 .ready none with state := .busy }) := by rw [hW2]; exact World.putObj_heap_same hlt
  have hd2 : W2.heap[b]? = some (.deferred (some [])) := by rw [hW2]; exact (World.putObj_heap_other (by omega)).trans hd
  have hK2 : K W W2 := by rw [hW2]; exact hKb _ _ _ _ (by omega) hr rfl rfl
  have hi2 : I pre W2 := by rw [hW2]; exact hI.putObj _ hi (by omega) hr rfl
  have hbd := hbody (b + 1) pre x W2 hi2 hx
  rw [<- hW2];refine wpIn_mono hbd ?_;have ended : ∀ (jump : Option Code) (W3 : World), KeepsFrom w.heap.size W2 W3 -> ∃ st, (Instr.endRound (b + 1) jump).run P W3 = .ok (.bool jump.isNone) (W3.putObj (b + 1) (.loop (rec0 st jump))) /\ (st = if jump.isNone then .ready else .done) /\
    W3.heap[b + 1]? = some (.loop { rec0 .ready none with state := .busy }) /\ (W3.putObj (b + 1) (.loop (rec0 st jump))).heap[b + 1]? = some (.loop (rec0 st jump)) /\ (W3.putObj (b + 1) (.loop (rec0 st jump))).heap[b]? = some (.deferred (some [])) := by
   intro jump W3 hk;have hr3 := hk.same _ _ (by omega) hr2 rfl;exact ⟨_, run_endRound (P := P) jump hr3, rfl, hr3, World.putObj_heap_same (Array.getElem?_eq_some_iff.1 hr3).1, (World.putObj_heap_other (by omega)).trans (hk.same _ _ hbB hd2 rfl)⟩
  have off : ∀ (c : Code) (W3 : World), KeepsFrom w.heap.size W2 W3 -> Ix c (pre ++ [x]) W3 -> ∃ v w', (Instr.endRound (b + 1) (some c)).run P W3 = .ok v w' /\
    ((Ending.returned v = .returned (.bool true) /\ (I (pre ++ [x]) w' /\ Ready w') /\ K W w') ∨ (Ending.returned v = .returned (.bool false) /\ ∃ c, Ix c (pre ++ [x]) w' /\ Left c w')) := by
   intro c W3 hk hix;obtain ⟨st, e1, e2, e3, e4, e5⟩ := ended (some c) W3 hk;subst e2;exact ⟨_, _, e1, .inr ⟨rfl, c, (hIx c).putObj _ hix (by omega) e3 rfl, e4, e5⟩⟩
  intro e a3 W3 hp;cases e with
  | normal =>
   obtain ⟨hk, hkp, hi3⟩ := hp;obtain ⟨st, e1, e2, e3, e4, e5⟩ := ended none W3 hk;subst e2;exact ⟨_, _, e1, .inl ⟨rfl, ⟨hI.putObj _ hi3 (by omega) e3 rfl, e4, e5⟩, hKt (hKt hK2 hkp) (hKb _ _ _ _ (by omega) e3 rfl rfl)⟩⟩
  | ret => exact off _ W3 hp.1 hp.2
  | exit id => exact off _ W3 hp.1 hp.2
  | goto t => exact off _ W3 hp.1 hp.2
  | panic ch => exact hp.elim
  | outgrown => exact hp.elim
 ·
  rintro e W2 ⟨⟨v, rfl⟩, ⟨xs, hS, hi, hr, hd⟩ | ⟨pre, hSp, c, hi, hr, hd⟩⟩
  ·exact ⟨none, _, run_endLoop (P := P) hr (by simp [rec0]), hb ▸ hdone b xs _ hbB hS (hI.putObj _ hi (by omega) hr rfl) ((World.putObj_heap_other (by omega)).trans hd)⟩
  ·exact ⟨some c, _, run_endLoop (P := P) hr (by simp [rec0]), hstop b c pre _ hbB hSp ((hIx c).putObj _ hi (by omega) hr rfl) ((World.putObj_heap_other (by omega)).trans hd)⟩

def Marks (B : Nat) (W : World) : List Deferred -> Prop
 | [] => True
 | d :: ds => (∃ D, B <= D /\ d = { target := .collected D, args := #[] } /\ W.heap[D]? = some (.deferred (some [])) /\ ∀ d' ∈ ds, d' ≠ d) /\ Marks B W ds

theorem Marks.keep {B : Nat} {W W' : World} (hk : ∀ (D : Nat) o, B <= D -> W.heap[D]? = some o -> o.isCells = false -> W'.heap[D]? = some o) : ∀ {ds : List Deferred}, Marks B W ds -> Marks B W' ds
 | [], _ => trivial
 | _ :: _, ⟨⟨D, h1, h2, h3, h4⟩, h⟩ => ⟨⟨D, h1, h2, hk D _ h1 h3 rfl, h4⟩, Marks.keep hk h⟩
theorem Marks.putObj {B D : Nat} {o : Obj} {W : World} : ∀ {ds : List Deferred}, Marks B W ds -> (∀ d ∈ ds, d ≠ { target := .collected D, args := #[] }) -> Marks B (W.putObj D o) ds
 | [], _, _ => trivial
 | d :: ds, ⟨⟨E, h1, h2, h3, h4⟩, h⟩, hn => ⟨⟨E, h1, h2, (World.putObj_heap_other (fun e => hn d (by simp) (by rw [h2]; subst e; rfl))).trans h3, h4⟩, Marks.putObj h (fun d hd => hn d (by simp [hd]))⟩
theorem Marks.lt {B : Nat} {W : World} : ∀ {ds : List Deferred}, Marks B W ds -> ∀ D, W.heap.size <= D -> ∀ d ∈ ds, d ≠ { target := .collected D, args := #[] }
 | [], _, _, _, _, h => by cases h
 | d :: ds, ⟨⟨E, h1, h2, h3, h4⟩, h⟩, D, hD, d', hd' => by
  rcases List.mem_cons.1 hd' with rfl | hd'
  ·rw [h2]
   intro e;simp at e;subst e;have := (Array.getElem?_eq_some_iff.1 h3).1;omega
  ·exact h.lt D hD d' hd'

theorem leaves_marks {fn : Func} {tmps : Array Value} {R : Ending -> World -> Prop} {B : Nat} : ∀ (ds : List Deferred) (W : World), Marks B W ds ->
  (∀ W', Below B W W' -> LeavesIn F n P fn tmps R [] .returning W') -> LeavesInM F n P fn tmps R ds .returning W
 | [], W, _, h => h W (Below.refl _ _)
 | d :: ds, W, ⟨⟨D, h1, h2, h3, h4⟩, hm⟩, h => by
  refine ⟨by simp, .inl ⟨D, _, by rw [h2], run_takeDeferred h3, ?_⟩⟩
  have hD := (Array.getElem?_eq_some_iff.1 h3).1
  have hb : Below B W (W.putObj D (.deferred none)) := (Below.refl B W).grown (grownBy_putObj' W D _) (by omega) (fun k e => by cases e; omega)
  exact leaves_marks ds _ (hm.putObj (fun d' hd' => by rw [<- h2]; exact h4 d' hd')) fun W' hW' => h W' (hb.trans hW')
end Go
namespace Go.Proofs
open Go.RowKit Go.Maps Go.Sort Go.Shelf Go.User

def Tryd.onG (Bn : Nat) (A B : World) : Prop := ∃ v, B = A.setCell ⟨Bn, 0, none⟩ v
def Tryd.onK (Bn : Nat) (A B : World) : Prop := B.heap[Bn]? = A.heap[Bn]? /\ B.heap[0]? = A.heap[0]?
def Tryd.cellN (W : World) (b : Nat) : Nat := match W.cell? ⟨b, 0, none⟩ with
 | some (.int _ x) => x.toNat
 | _ => 0
theorem Tryd.tab_heap {A B : World} (h : B.heap[0]? = A.heap[0]?) (hT : TabAt 0 Lib.deBruijn64tab A) : TabAt 0 Lib.deBruijn64tab B := fun j hj => by
 have := hT j hj
 unfold World.cell? at this ⊢
 simp only at this ⊢
 rw [h]
 exact this
theorem Tryd.and_pred (x : Nat) (hx : x < 18446744073709551616) (h0 : x ≠ 0) : bits BinOp.and IntKind.u64 (x : Int) ((x : Int) - 1) = ((x &&& (x - 1) : Nat) : Int) := by
 have e : ((x : Int) - 1) = ((x - 1 : Nat) : Int) := by omega
 rw [e, bits_and_u64_nat x _ hx (by omega)]

set_option maxRecDepth 100000 in
set_option maxHeartbeats 2000000 in
theorem Tryd.ones1_in (n : Nat) (hn : 1 <= n) (l Bn x0 : Nat) (hBn : Bn ≠ 0) (hx0 : x0 < 18446744073709551616) (J Jx : List Int -> World -> Prop) (hJ : AbX (Tryd.onG Bn) J)
  (hY : ∀ pre x W1, J pre W1 -> pre ++ [x] <+: onesI x0 -> YieldAt Fence.wide (n - 1) Tryd.prog l #[.int .i64 x] W1 fun e W' =>
   (e = .returned (.bool true) /\ J (pre ++ [x]) W' /\ Tryd.onK Bn W1 W') ∨ (e = .returned (.bool false) /\ Jx (pre ++ [x]) W'))
  (W : World) (hB : Boxed W Bn 38 (.int .u64 x0)) (hT : TabAt 0 Lib.deBruijn64tab W) (h0 : J [] W) :
  CallsIn Fence.wide n Tryd.prog 31 #[.func (.yield l) #[] #[], .pointer (some ⟨Bn, 0, none⟩)] W fun e W' => (∃ v, e = .returned v) /\
   ((∃ xs, xs = onesI x0 /\ J xs W') ∨ (∃ pre, pre <+: onesI x0 /\ Jx pre W')) := by
 refine callsIn_of_wp Tryd.func31 rfl trivial ?_ rfl
 simp only [Tryd.ntmps31, List.size_toArray, List.length_cons, List.length_nil, Nat.reduceAdd, Nat.reduceSub, Array.replicate_succ, Array.replicate_zero, List.push_toArray, List.append_toArray, List.nil_append, List.cons_append]
 gi_wp2
 gi_loopw [3] (fun _ wr => ∃ (pre : List Int) (x : Nat), onesI x0 = pre ++ onesI x /\ x < 18446744073709551616 /\ Boxed wr Bn 38 (.int .u64 x) /\ TabAt 0 Lib.deBruijn64tab wr /\ J pre wr)
  (fun _ wr => Tryd.cellN wr Bn)
 case atStart =>
  exact ⟨[], x0, rfl, hx0, hB, hT, h0⟩
 case round =>
  obtain ⟨pre, x, hp, hx, hb, hTr, hJs⟩ := hrel;have hc := hb.cell;have hfz := hb.frozen;by_cases h0 : x = 0
  ·subst h0
   gi_wp2
   go_end0
   exact ⟨⟨_, rfl⟩, .inl ⟨pre, by rw [hp, onesI_zero, List.append_nil], hJs⟩⟩
  ·obtain ⟨e1, e2, e3⟩ := onesI_cons x hx h0
   have hne : ((x : Int) == 0) = false := by simp; omega
   have hne' : (x : Int) ≠ 0 := by omega
   obtain ⟨fn, tmps, assign, body, hy, hR⟩ := hY pre (Lib.ctz 64 x : Int) wr hJs ⟨onesI (x &&& (x - 1)), by rw [hp, e1]; simp⟩
   have hf24 : Fence.wide.fn 24 := trivial
   have hand := Tryd.and_pred x hx h0
   gi_wp2_with (gi_at_call 24; refine (callsIn_wide.2 (Tryd.tz64 x hx wr hTr)).mono ?_; rintro e w' ⟨rfl, rfl⟩)
   refine hR.mono ?_
   rintro e W3 (⟨rfl, hJ3, hk3, hk4⟩ | ⟨rfl, hJx3⟩)
   ·have hb3 : Boxed W3 Bn 38 (.int .u64 x) := by unfold Boxed; rw [hk3]; exact hb
    have hT3 := Tryd.tab_heap hk4 hTr
    have hc3 := hb3.cell
    have hf3 := hb3.frozen
    gi_wp2
    go_roundw
    case rel =>
     refine ⟨pre ++ [(Lib.ctz 64 x : Int)], x &&& (x - 1), by rw [hp, e1]; simp, by omega, hb3.set _, ?_, hJ _ _ _ hJ3 ⟨_, rfl⟩⟩
     exact Tryd.tab_heap (Below.heap_setCell _ _ _ 0 (by simpa using hBn.symm)) hT3
    case measure =>
     have q1 : ∀ A : World, A.cell? ⟨Bn, 0, none⟩ = some (.int .u64 x) -> Tryd.cellN A Bn = x := by intro A hA; unfold Tryd.cellN; rw [hA]; simp
     have q2 := (hb3.set (.int .u64 ((x &&& (x - 1) : Nat) : Int))).cell
     have q3 : Tryd.cellN (W3.setCell ⟨Bn, 0, none⟩ (.int .u64 ((x &&& (x - 1) : Nat) : Int))) Bn = x &&& (x - 1) := by unfold Tryd.cellN; rw [q2]; simp
     rw [q3, q1 _ hc];exact e3
   ·gi_wp2
    refine bodyPost_ret (results_none rfl _ _ _) rfl ?_
    exact ⟨⟨_, rfl⟩, .inr ⟨pre ++ [(Lib.ctz 64 x : Int)], ⟨onesI (x &&& (x - 1)), by rw [hp, e1]; simp⟩, hJx3⟩⟩
theorem Tryd.ones_seq (n Bn z : Nat) (hn : 1 <= n) (hBn : Bn ≠ 0) (hz : z < 18446744073709551616) (w : World) (h0 : 0 < w.heap.size) (hB : Boxed w Bn 38 (.int .u64 z)) (hT : TabAt 0 Lib.deBruijn64tab w) :
  SeqX Fence.wide n Tryd.prog 31 #[.pointer (some ⟨Bn, 0, none⟩)] (fun x : Int => #[.int .i64 x]) (Tryd.onG Bn) (Tryd.onK Bn) (fun pre x => pre ++ [x] <+: onesI z) (fun xs => xs = onesI z) (fun pre => pre <+: onesI z) w :=
 fun l J Jx W hW hJ _ hY hJ0 => Tryd.ones1_in n hn l Bn z hBn hz J Jx hJ hY W (by unfold Boxed; rw [hW.block Bn hB.lt]; exact hB) (Tryd.tab_heap (hW.block 0 h0) hT) hJ0
end Go.Proofs
namespace Go.Proofs
open Go.RowKit Go.Maps Go.Sort Go.Shelf Go.User
set_option maxHeartbeats 1000000 in
theorem Tryd.ones64 (x : Nat) (hx : x < 18446744073709551616) (w : World) : Calls Tryd.prog 22 #[.int .u64 x] w fun e w' => e = .returned (.int .i64 ((onesN 64 x).length : Int)) /\ w' = w := by
 go_enter Tryd.func22, Tryd.ntmps22
 go_wp2
 go_ret
 refine ⟨?_, rfl⟩
 have hA : ∀ z : Int, IntKind.u64.wrap (bits BinOp.and IntKind.u64 (z / 2) 6148914691236517205 + bits BinOp.and IntKind.u64 z 6148914691236517205) = cA 6148914691236517205 1 z := fun z => rfl
 have hA2 : ∀ z : Int, IntKind.u64.wrap (bits BinOp.and IntKind.u64 (z / 4) 3689348814741910323 + bits BinOp.and IntKind.u64 z 3689348814741910323) = cA 3689348814741910323 2 z := fun z => rfl
 have hB : ∀ z : Int, bits BinOp.and IntKind.u64 (IntKind.u64.wrap (z / 16 + z)) 1085102592571150095 = cB z := fun z => rfl
 have hC1 : ∀ z : Int, IntKind.u64.wrap (z + z / 256) = cC 8 z := fun z => rfl
 have hC2 : ∀ z : Int, IntKind.u64.wrap (z + z / 65536) = cC 16 z := fun z => rfl
 have hC3 : ∀ z : Int, IntKind.u64.wrap (z + z / 4294967296) = cC 32 z := fun z => rfl
 have hD : ∀ z : Int, bits BinOp.and IntKind.i64 (wrap64 z) 127 = cD z := fun z => by
  have : wrap64 z = IntKind.i64.wrap z := by
   simp [wrap64, IntKind.wrap, IntKind.signed, IntKind.bits]
   split <;> omega
  rw [this]
  rfl
 simp only [hA, hA2, hB, hC1, hC2, hC3, hD]
 rw [<- ones_eq x hx]
 rfl
end Go.Proofs
namespace Go.Proofs
open Go.RowKit Go.Maps Go.Sort Go.Shelf Go.User
theorem Tryd.segs_owned (v : Value) (base : Nat) (zs : List Int) (W : World) (hn : zs.length <= 1000000) (hz : ∀ z ∈ zs, -9223372036854775808 <= z /\ z <= 9223372036854775807)
  (h : W.ownsRow base 3 1 v zs.length (zs.map (Value.int .i64))) :
  Calls Tryd.prog 14 #[v] W fun e w' => ∃ ao cap, e = .returned (.slice ao (segs zs).length cap) /\ Below W.heap.size W w' := by
 have fin : ∀ (w' : World) (v : Value) (ss : List Int), ss.Perm (Go.intKeys (Tryd.D zs zs.length)) ->
   w'.ownsRow W.heap.size 3 1 v ss.length ((ss.mergeSort (fun x y => decide (x <= y))).map encZ) -> ∃ ao cap, v = .slice ao (segs zs).length cap := by
  intro w' v ss hS hrow;have e := Tryd.sort_segs hS;have hl : ss.length = (segs zs).length := by rw [<- e, List.length_mergeSort]
  rw [hl] at hrow;rcases hrow.2 with ⟨rfl, h0⟩ | ⟨g, cap, cur, rfl, _⟩
  ·exact ⟨none, 0, by rw [h0]⟩
  ·exact ⟨_, _, rfl⟩
 rcases h.2 with ⟨rfl, h0⟩ | ⟨g, cap, cur, rfl, hg, hcell, hc1, hc2, hc3, hc4⟩
 ·have : zs = [] := List.eq_nil_of_length_eq_zero h0
  subst this;refine (Tryd.segs_none none 0 W).mono ?_;rintro e w' ⟨v, ss, rfl, hS, hrow, _, hb⟩;obtain ⟨ao, cap, rfl⟩ := fin w' v ss hS hrow;exact ⟨ao, cap, rfl, hb⟩
 ·refine (Tryd.segs_any g 0 cap zs W (by omega) (Array.getElem?_eq_some_iff.1 hcell).1 (fun j hj => ?_) hz).mono ?_
  ·have e1 : (cur.toList.take (zs.length * 1))[j]? = some (.int .i64 zs[j]) := by rw [hc4, List.getElem?_map, List.getElem?_eq_getElem hj]; rfl
   rw [List.getElem?_take_of_lt (by omega)] at e1;simp [World.cell?, hcell]
   simpa using e1
  ·rintro e w' ⟨v, ss, rfl, hS, hrow, _, hb⟩
   obtain ⟨ao, cap, rfl⟩ := fin w' v ss hS hrow;exact ⟨ao, cap, rfl, hb⟩
theorem Tryd.info3 : (Tryd.prog.info? 3).map (fun i => (i.zero, i.size, i.bytes)) = some (some (.int .i64 0), 1, 8) := by kernel_rfl
end Go.Proofs
namespace Go.Proofs
attribute [local go_sem] Oper.semAt_some
open Go.RowKit Go.Maps Go.Sort Go.Shelf Go.User
theorem Tryd.ones_in (n : Nat) (z : Int) (W : World) : CallsIn Fence.wide n Tryd.prog 23 #[.int .u64 z] W fun e w' => e = .returned (.func (.func 31) #[] #[.pointer (some ⟨W.heap.size, 0, none⟩)]) /\ w' = W.alloc (.cells #[.int .u64 z] 38) := by
 refine callsIn_of_wp Tryd.func23 rfl trivial ?_ rfl
 simp only [Tryd.ntmps23, List.size_toArray, List.length_cons, List.length_nil, Nat.reduceAdd, Nat.reduceSub, Array.replicate_succ, Array.replicate_zero, List.push_toArray, List.append_toArray, List.nil_append, List.cons_append]
 gi_wp2
 go_ret
 exact ⟨rfl, rfl⟩
theorem Tryd.someBox_own (B : Nat) (t : TypeId) : Own (fun (_ : List Int) W => ∃ y, Boxed W B t y) := by
 rintro s X Y row ⟨y, h⟩ hg hrow
 exact ⟨y, boxed_own B t (fun _ : Unit => y) () X Y row h hg hrow⟩
theorem Tryd.pre_facts {pre : List Int} {x : Int} {z : Nat} (h : pre ++ [x] <+: onesI z) : 0 <= x /\ x < 64 /\ pre.length + 1 <= 64 := by
 obtain ⟨r, hr⟩ := h
 have hx : x ∈ onesI z := by rw [<- hr]; simp
 obtain ⟨i, h1, _, rfl⟩ := mem_onesI.1 hx
 have hl : (onesI z).length <= 64 := by rw [onesI_len]; exact Nat.le_trans (List.length_filter_le _ _) (by simp)
 rw [<- hr] at hl
 simp at hl
 omega
def Tryd.wds (s : Int) (c : Nat) (pre : List Int) : List Int := pre.map fun i => (c : Int) + s * i
theorem Tryd.set_low (set : Nat) (n : Int) (hx : set < 18446744073709551616) :
  IntKind.u64.wrap ((set : Int) * 2 ^ (64 - min (max n 0) 64).toNat) / 2 ^ (64 - min (max n 0) 64).toNat = ((set % 2 ^ (min (max n 0) 64).toNat : Nat) : Int) := by
 obtain ⟨L, hL⟩ : ∃ L : Nat, L = (min (max n 0) 64).toNat := ⟨_, rfl⟩
 have hL64 : L <= 64 := by omega
 have e1 : (64 - min (max n 0) 64).toNat = 64 - L := by omega
 rw [e1, <- hL, IntKind.wrap_u64]
 obtain ⟨p, hp⟩ : ∃ p : Nat, p = 2 ^ (64 - L) := ⟨_, rfl⟩
 have hp2 : (2 : Int) ^ (64 - L) = (p : Int) := by rw [hp]; push_cast; rfl
 have hp0 : 0 < p := by rw [hp]; exact Nat.two_pow_pos _
 have e3 : 2 ^ L * p = 18446744073709551616 := by rw [hp, <- Nat.pow_add, show L + (64 - L) = 64 by omega]
 rw [hp2]
 have e4 : set * p % 18446744073709551616 / p = set % 2 ^ L := by rw [<- e3, Nat.mul_mod_mul_right, Nat.mul_div_cancel _ hp0]
 rw [<- e4]
 rw [<- Int.natCast_mul]
 rfl
set_option maxHeartbeats 2000000 in
set_option maxRecDepth 100000 in
set_option pp.maxSteps 1000000 in
set_option pp.deepTerms true in
theorem Tryd.static_loop (R : Nat) (it lc gr lo hi st n : Int) (set : Nat) (hx : set < 18446744073709551616) (w : World) (hT : TabAt 0 Lib.deBruijn64tab w) (h0 : 0 < w.heap.size) (hst : st = 0)
  (hnz : (onesN 64 (set % 2 ^ (min (max n 0) 64).toNat)).length ≠ 0) (hs1 : -4398046511104 <= it + lc) (hs2 : it + lc <= 4398046511104) (hR : R = Sp.maxSegs (it + lc) (onesI (set % 2 ^ (min (max n 0) 64).toNat)) 16) (hs : wrap64 (it + lc) = it + lc) :
  Calls Tryd.prog 11 #[.agg #[.bool false, .int .i64 it, .int .i64 lc, .int .i64 gr, .int .i64 lo, .int .i64 hi, .int .i64 st], .int .i64 n, .int .u64 set] w fun e w' => e = .returned (.int .i64 (R : Int)) /\ Below w.heap.size w w' := by
 refine (callsIn_wide (n := 6)).1 ?_
 refine callsIn_of_wp_marks Tryd.func11 rfl trivial ?_ rfl
 simp only [Tryd.ntmps11, List.size_toArray, List.length_cons, List.length_nil, Nat.reduceAdd, Nat.reduceSub, Array.replicate_succ, Array.replicate_zero, List.push_toArray, List.append_toArray, List.nil_append, List.cons_append]
 have hf22 : Fence.wide.fn 22 := trivial
 have hlow := Tryd.set_low set n hx
 obtain ⟨x, hxx⟩ : ∃ x, x = set % 2 ^ (min (max n 0) 64).toNat := ⟨_, rfl⟩
 rw [<- hxx] at hlow hnz
 have hx2 : x < 18446744073709551616 := by rw [hxx]; exact Nat.lt_of_le_of_lt (Nat.mod_le _ _) hx
 obtain ⟨N, hN⟩ : ∃ N, N = (onesN 64 x).length := ⟨_, rfl⟩
 rw [<- hN] at hnz
 have c22 : ∀ W, CallsIn Fence.wide 5 Tryd.prog 22 #[.int .u64 (IntKind.u64.wrap ((set : Int) * 2 ^ (64 - min (max n 0) 64).toNat) / 2 ^ (64 - min (max n 0) 64).toNat)] W fun e w' => e = .returned (.int .i64 (N : Int)) /\ w' = W := by
  intro W;rw [hlow, hN];exact callsIn_wide.2 (Tryd.ones64 x hx2 W)
 subst hst
 have hN0 : ((N : Int) == 0) = false := by simp; omega
 have hE : ∃ z : Nat, z = x /\ z < 18446744073709551616 /\ (onesN 64 z).length ≠ 0 /\ R = Sp.maxSegs (it + lc) (onesI z) 16 /\ IntKind.u64.wrap ((set : Int) * 2 ^ (64 - min (max n 0) 64).toNat) / 2 ^ (64 - min (max n 0) 64).toNat = (z : Int) := ⟨x, rfl, hx2, hN ▸ hnz, hxx ▸ hR, hlow⟩
 clear hlow hxx hN hx hx2 hnz hR
 gi_wp2
 refine (c22 _).mono ?_
 rintro e w' ⟨rfl, rfl⟩
 dsimp only
 clear c22
 obtain ⟨z, rfl, hzlt, hzn, hR, hE⟩ := hE
 simp only [hE]
 clear hE
 gi_wp2
 have hcalls23 := @Tryd.ones_in
 have hf23 : Fence.wide.fn 23 := trivial
 have hf14 : Fence.wide.fn 14 := trivial
 refine wpIn_loop (fun a wr => ∃ (c most : Nat) (ds : List Deferred) (u11 u12 u13 u46 u47 u48 u49 u50 u51 u52 u53 u54 u55 u56 u57 u58 u59 u60 u61 u62 u63 u64 : Value), a = { tmps := #[Value.agg #[Value.bool false, Value.int IntKind.i64 it, Value.int IntKind.i64 lc, Value.int IntKind.i64 gr, Value.int IntKind.i64 lo, Value.int IntKind.i64 hi, Value.int IntKind.i64 0], Value.int IntKind.i64 (min (max n 0) 64), Value.int IntKind.u64 (set : Int), Value.pointer (some { block := w.heap.size, off := 0 }), undef, undef, Value.int IntKind.i64 0, Value.int IntKind.u64 (z : Int), Value.int IntKind.i64 (N : Int), Value.pointer (some { block := w.heap.size + 1, off := 0 }), Value.int IntKind.i64 (most : Int), u11, u12, u13, undef, undef, undef, Value.int IntKind.i64 n, Value.int IntKind.i64 (max n 0), Value.int IntKind.i64 (min (max n 0) 64), Value.int IntKind.u64 (set : Int), Value.int IntKind.i64 (min (max n 0) 64), Value.int IntKind.i64 (64 - min (max n 0) 64), Value.int IntKind.u64 (IntKind.u64.wrap ((set : Int) * 2 ^ (64 - min (max n 0) 64).toNat)), Value.int IntKind.i64 (min (max n 0) 64), Value.int IntKind.i64 (64 - min (max n 0) 64), Value.int IntKind.u64 (z : Int), Value.int IntKind.u64 (z : Int), Value.int IntKind.i64 (N : Int), Value.int IntKind.i64 (N : Int), Value.bool false, Value.bool false, Value.pointer (some { block := w.heap.size, off := 0 }), Value.bool false, Value.bool false, undef, Value.pointer (some { block := w.heap.size, off := 1 }), Value.int IntKind.i64 it, Value.pointer (some { block := w.heap.size, off := 2 }), Value.int IntKind.i64 lc, Value.int IntKind.i64 (it + lc), Value.pointer (some { block := w.heap.size, off := 4 }), Value.pointer (some { block := w.heap.size, off := 6 }), Value.int IntKind.i64 0, Value.bool true, Value.int IntKind.i64 (c : Int), u46, u47, u48, u49, u50, u51, u52, u53, u54, u55, u56, u57, u58, u59, u60, u61, u62, u63, u64, undef, undef, undef, undef, undef, undef, undef, undef, undef, undef, undef, undef, undef, undef, undef, undef, undef, undef, undef, undef, undef, undef, undef, undef, undef, undef, undef, undef], defers := ds } /\
   c <= 16 /\ most = Sp.maxSegs (it + lc) (onesI z) c /\ Boxed wr (w.heap.size + 1) 2 (.int .i64 (it + lc)) /\ TabAt 0 Lib.deBruijn64tab wr /\ Below w.heap.size w wr /\ Marks (w.heap.size + 2) wr ds)
  (fun a _ => 16 - (intOf (a.tmps.getD 45 undef)).toNat) ?start ?round
 case start =>
  refine ⟨0, 0, [], undef, undef, undef, undef, undef, undef, undef, undef, undef, undef, undef, undef, undef, undef, undef, undef, undef, undef, undef, undef, undef, undef, rfl, by omega, rfl, ?_, ?_, ?_, trivial⟩
  ·have := Boxed.new (w.alloc (.cells #[.bool false, .int .i64 it, .int .i64 lc, .int .i64 gr, .int .i64 lo, .int .i64 hi, .int .i64 0] 35)) 2 (.int .i64 (it + lc))
   rw [World.size_alloc] at this;exact this
  ·exact Tryd.tab_heap ((((Below.refl w.heap.size w).alloc (Nat.le_refl _) _).alloc (by simp) _).block 0 h0) hT
  ·exact ((Below.refl _ w).alloc (Nat.le_refl _) _).alloc (by simp) _
 case round =>
  rintro _ wr ⟨c, most, ds, u11, u12, u13, u46, u47, u48, u49, u50, u51, u52, u53, u54, u55, u56, u57, u58, u59, u60, u61, u62, u63, u64, rfl, hc16, hmost, hbx, hTr, hbl, hmk⟩
  have hsz := hbl.size
  by_cases hc : c < 16
  ·have hc' : ((c : Int) < 16) := by omega
   gi_wp2_with (gi_at_call 23; refine (hcalls23 _ _ _).mono ?_; clear hcalls23; rintro e w' ⟨rfl, rfl⟩)
   have hc64 : c <= 64 := by omega
   obtain ⟨i0, hii, hz0, hz1, hz2⟩ := info_parts Tryd.info3;obtain ⟨L0, hL0⟩ : ∃ L0, L0 = wr.heap.size := ⟨_, rfl⟩;have bC := Boxed.new wr 2 (.int .i64 (c : Int));have bL := Boxed.new (wr.alloc (.cells #[.int .i64 (c : Int)] 2)) 22 (.slice none 0 0);have bS := Boxed.new ((wr.alloc (.cells #[.int .i64 (c : Int)] 2)).alloc (.cells #[.slice none 0 0] 22)) 38 (.int .u64 (z : Int));rw [World.size_alloc] at bL;rw [World.size_alloc, World.size_alloc] at bS;obtain ⟨W0, hW0⟩ : ∃ W0, W0 = ((wr.alloc (.cells #[.int .i64 (c : Int)] 2)).alloc (.cells #[.slice none 0 0] 22)).alloc (.cells #[.int .u64 (z : Int)] 38) := ⟨_, rfl⟩;have hsz0 : W0.heap.size = wr.heap.size + 3 := by rw [hW0]; simp
   have hB0 : Below wr.heap.size wr W0 := by rw [hW0]; exact (((Below.refl _ wr).alloc (Nat.le_refl _) _).alloc (by simp) _).alloc (by simp; omega) _
   have hT0 : TabAt 0 Lib.deBruijn64tab W0 := Tryd.tab_heap (hB0.block 0 (by omega)) hTr
   have bC0 : Boxed W0 wr.heap.size 2 (.int .i64 (c : Int)) := by rw [hW0]; exact (bC.alloc _).alloc _
   have bL0 : Boxed W0 (wr.heap.size + 1) 22 (.slice none 0 0) := by rw [hW0]; exact bL.alloc _
   have bS0 : Boxed W0 (wr.heap.size + 1 + 1) 38 (.int .u64 (z : Int)) := by rw [hW0]; exact bS
   rw [<- hW0];clear hW0 bC bL bS;have hseq := Tryd.ones_seq 5 (wr.heap.size + 1 + 1) z (by omega) (by omega) hzlt W0 (by omega) bS0 hT0;refine wpIn_rangeX (F := Fence.wide) rfl (by omega) (gf := 31) (lb := #[.pointer (some ⟨wr.heap.size + 1 + 1, 0, none⟩)]) rfl trivial (enters_of Tryd.func31 (by kernel_rfl) rfl) hseq ?hG ?hKt ?hKb (fun _ => rfl)
    (fun pre W => (∃ v, Boxed W (wr.heap.size + 1) 22 v /\ W.ownsRow wr.heap.size 3 1 v (Tryd.wds (it + lc) c pre).length ((Tryd.wds (it + lc) c pre).map (Value.int .i64)) /\ True) /\ (Boxed W wr.heap.size 2 (.int .i64 (c : Int)) /\ (∃ y, Boxed W (wr.heap.size + 1 + 1) 38 y) /\ Below wr.heap.size wr W))
    (fun _ _ _ => False) ?hI ?hIx ?hIG ?hIxG ?h0
    (fun x => { tmps := #[Value.agg #[Value.bool false, Value.int IntKind.i64 it, Value.int IntKind.i64 lc, Value.int IntKind.i64 gr, Value.int IntKind.i64 lo, Value.int IntKind.i64 hi, Value.int IntKind.i64 0], Value.int IntKind.i64 (min (max n 0) 64), Value.int IntKind.u64 (set : Int), Value.pointer (some { block := w.heap.size, off := 0 }), undef, undef, Value.int IntKind.i64 0, Value.int IntKind.u64 (z : Int), Value.int IntKind.i64 (N : Int), Value.pointer (some { block := w.heap.size + 1, off := 0 }), Value.int IntKind.i64 (Sp.maxSegs (it + lc) (onesI z) c : Int), Value.pointer (some { block := wr.heap.size, off := 0 }), Value.pointer (some { block := wr.heap.size + 1, off := 0 }), Value.int IntKind.i64 x, undef, undef, undef, Value.int IntKind.i64 n, Value.int IntKind.i64 (max n 0), Value.int IntKind.i64 (min (max n 0) 64), Value.int IntKind.u64 (set : Int), Value.int IntKind.i64 (min (max n 0) 64), Value.int IntKind.i64 (64 - min (max n 0) 64), Value.int IntKind.u64 (IntKind.u64.wrap ((set : Int) * 2 ^ (64 - min (max n 0) 64).toNat)), Value.int IntKind.i64 (min (max n 0) 64), Value.int IntKind.i64 (64 - min (max n 0) 64), Value.int IntKind.u64 (z : Int), Value.int IntKind.u64 (z : Int), Value.int IntKind.i64 (N : Int), Value.int IntKind.i64 (N : Int), Value.bool false, Value.bool false, Value.pointer (some { block := w.heap.size, off := 0 }), Value.bool false, Value.bool false, undef, Value.pointer (some { block := w.heap.size, off := 1 }), Value.int IntKind.i64 it, Value.pointer (some { block := w.heap.size, off := 2 }), Value.int IntKind.i64 lc, Value.int IntKind.i64 (it + lc), Value.pointer (some { block := w.heap.size, off := 4 }), Value.pointer (some { block := w.heap.size, off := 6 }), Value.int IntKind.i64 0, Value.bool true, Value.int IntKind.i64 (c : Int), Value.bool true, Value.int IntKind.i64 (c : Int), Value.int IntKind.u64 (z : Int), Value.func (Fn.func 31) #[] #[Value.pointer (some { block := wr.heap.size + 1 + 1, off := 0 })], Value.int IntKind.i64 x, u51, u52, u53, u54, u55, u56, u57, u58, u59, u60, u61, u62, u63, u64, undef, undef, undef, undef, undef, undef, undef, undef, undef, undef, undef, undef, undef, undef, undef, undef, undef, undef, undef, undef, undef, undef, undef, undef, undef, undef, undef, undef], defers := [] }) ?assign ?body ?done ?stop
   case hG => rintro A B ⟨v, rfl⟩; exact (KeepsOthers.setCell _ _ _).from _
   case hKt => rintro A B C ⟨h1, h2⟩ ⟨h3, h4⟩; exact ⟨h3.trans h1, h4.trans h2⟩
   case hKb => intro W l o o' hl _ _ _; exact ⟨World.putObj_heap_other (by omega), World.putObj_heap_other (by omega)⟩
   case hI => exact OwnFrom.and (Own.from (holdsRow_own wr.heap.size (wr.heap.size + 1) 22 3 1 (fun pre => (Tryd.wds (it + lc) c pre).length) (fun pre => (Tryd.wds (it + lc) c pre).map (Value.int .i64)) (fun _ _ => True)) _) (OwnFrom.and (Own.from (boxed_own _ _ _) _) (OwnFrom.and (Own.from (Tryd.someBox_own _ _) _) (ownFrom_below (by omega) (by omega))))
   case hIx => exact fun _ _ _ _ _ hs _ _ => hs
   case hIG =>
    rintro pre A B ⟨⟨v, hv, hrow, -⟩, hcb, ⟨y, hob⟩, hBl⟩ ⟨u, rfl⟩
    have hg := grownBy_setCell' A (wr.heap.size + 1 + 1) u
    exact ⟨⟨v, hv.kept hg (by simp), hrow.kept hg (.inr (hob.not_row (by decide) hrow).symm), trivial⟩, hcb.kept hg (by simp; omega), ⟨u, hob.set u⟩, hBl.setCell (p := ⟨wr.heap.size + 1 + 1, 0, none⟩) (by simp; omega) u⟩
   case hIxG => exact fun _ _ _ _ h _ => h
   case h0 => exact ⟨⟨_, bL0, World.ownsRow_nil _ _ _ _, trivial⟩, bC0, ⟨_, bS0⟩, hB0⟩
   case assign =>
    intro l x W k hk
    gi_wp2
    exact hk
   case body =>
    rintro l pre x W ⟨⟨v, hv, hrow, -⟩, hcb, ⟨y, hob⟩, hB⟩ hX
    have hlc := hv.cell
    have hcc := hcb.cell
    have hsb : Boxed W (w.heap.size + 1) 2 (.int .i64 (it + lc)) := by unfold Boxed; rw [hB.block _ hbx.lt]; exact hbx
    have hsc := hsb.cell
    obtain ⟨hx0, hx1, hpl⟩ := Tryd.pre_facts hX;obtain ⟨m1, m2⟩ := mul_bound hs1 hs2 hx0 (by omega);have hw1 : wrap64 ((it + lc) * x) = (it + lc) * x := by unfold wrap64; omega
    have hw2 : wrap64 ((c : Int) + (it + lc) * x) = (c : Int) + (it + lc) * x := by unfold wrap64; omega
    have hwl : (Tryd.wds (it + lc) c pre).length = pre.length := by simp [Tryd.wds]
    have hwx : (Tryd.wds (it + lc) c (pre ++ [x])) = Tryd.wds (it + lc) c pre ++ [(c : Int) + (it + lc) * x] := by simp [Tryd.wds]
    gi_wp2_with (gi_at_builtin; refine wpListIn_append_own _ rfl _ _ 22 rfl wr.heap.size 3 i0 (.int .i64 0) 1 8 Tryd.underlying22 hii hz0 hz1 hz2 rfl (by decide) _ _ _ rfl (hrow.alloc _) ⟨W.heap.size, 0, none⟩ 1 1 [.int .i64 ((c : Int) + (it + lc) * x)] rfl rfl (cell_one_new _ _ _) (by simp [Value.oneCell']) (by unfold maxLen; omega) (by omega) (by have := hB.size; simp; omega) ?_; intro v' w1 hown' hgrow _; obtain ⟨g', cap', rfl⟩ := ownsRow_succ hown'; obtain ⟨hv1, hv2, hr2, hk2, hb2⟩ := hv.appended (by decide) hrow hB.size (by omega) hown' hgrow; have hc1 := hv1.cell; have hf1 := hv1.frozen)
    have other : ∀ (B : Nat) (t : TypeId) (u : Value), Boxed W B t u -> t ≠ 3 -> B ≠ wr.heap.size + 1 -> Boxed (w1.setCell ⟨wr.heap.size + 1, 0, none⟩ (.slice (some ⟨g', 0, none⟩) ((Tryd.wds (it + lc) c pre).length + 1) cap')) B t u :=
     fun B t u h ht hne => ((h.alloc _).kept hgrow (h.not_row ht hrow)).other hne _
    have oS := other _ _ _ hob (by decide) (by omega)
    have oC := other _ _ _ hcb (by decide) (by omega)
    rw [hwl] at hk2 hv2 hb2 hr2 oS oC;refine ⟨hk2.from _, ⟨oS.trans hob.symm, hb2.block 0 (by omega)⟩, ⟨_, hv2, ?_, trivial⟩, oC, ⟨_, oS⟩, hB.trans hb2⟩;rw [hwx]
    simpa [hwl] using hr2
   case done =>
    rintro D xs W hD rfl ⟨⟨v, hv, hrow, -⟩, hcb, hob, hB⟩ hK
    have hwl : (Tryd.wds (it + lc) c (onesI z)).length = (onesN 64 z).length := by simp [Tryd.wds, onesI_len]
    have h64 : (onesN 64 z).length <= 64 := Nat.le_trans (List.length_filter_le _ _) (by simp)
    have c14 := Tryd.segs_owned v wr.heap.size (Tryd.wds (it + lc) c (onesI z)) W (by omega) (fun y hy => by
     obtain ⟨x, hx, rfl⟩ := List.mem_map.1 hy;obtain ⟨i, h1, _, rfl⟩ := mem_onesI.1 hx;obtain ⟨m1, m2⟩ := mul_bound (x := (i : Int)) hs1 hs2 (by omega) (by omega);omega) hrow
    have hsg : segs (Tryd.wds (it + lc) c (onesI z)) = Sp.segsAt (it + lc) c (onesI z) := rfl
    rw [hsg] at c14;obtain ⟨k, hk⟩ : ∃ k, (onesN 64 z).length = k + 1 := ⟨(onesN 64 z).length - 1, by omega⟩
    rw [hwl, hk] at hrow;obtain ⟨g, cap, rfl⟩ := ownsRow_succ hrow;have hlc := hv.cell;clear hwl hk hsg
    gi_wp2_with (gi_at_call 14; refine (callsIn_wide.2 c14).mono ?_; rintro e w' ⟨ao, cap', rfl, hbw⟩)
    have hmx : max (Sp.maxSegs (it + lc) (onesI z) c : Int) ((Sp.segsAt (it + lc) (c : Int) (onesI z)).length : Int) = (Sp.maxSegs (it + lc) (onesI z) (c + 1) : Nat) := by
     show _ = ((max (Sp.maxSegs (it + lc) (onesI z) c) (Sp.segsAt (it + lc) (c : Int) (onesI z)).length : Nat) : Int)
     omega
    have hc1 : (c : Int) + 1 = ((c + 1 : Nat) : Int) := by omega
    rw [hmx, hc1];have hWs := hB.size;have hblk : ∀ j, j < wr.heap.size -> w'.heap[j]? = wr.heap[j]? := fun j hj => (hbw.block j (by omega)).trans (hB.block j hj)
    refine ⟨⟨c + 1, Sp.maxSegs (it + lc) (onesI z) (c + 1), { target := .collected D, args := #[] } :: ds, _, _, _, _, _, _, _, _, _, _, _, _, _, _, _, _, _, _, _, _, _, _, rfl, by omega, rfl, ?_, ?_, ?_, ?_, ?_⟩, ?_⟩
    ·unfold Boxed; rw [hblk _ hbx.lt]; exact hbx
    ·exact Tryd.tab_heap (hblk 0 (by omega)) hTr
    ·exact hbl.trans ((hB.mono hsz).trans (hbw.mono (by omega)))
    ·have hDlt := (Array.getElem?_eq_some_iff.1 hK).1
     exact ⟨D, by omega, rfl, (hbw.block D hDlt).trans hK, fun d' hd' => hmk.lt D (by omega) d' hd'⟩
    ·exact hmk.keep fun E o _ hE _ => (hblk E (Array.getElem?_eq_some_iff.1 hE).1).trans hE
    ·simp [intOf]
     omega
   case stop => rintro D cc pre W _ _ h _; exact h.elim
  ·obtain rfl : c = 16 := by omega
   gi_wp2
   refine leaves_marks ds _ hmk fun W' hW' => ?_
   exact ⟨_, results_tmp rfl _ _ _, by rw [hR]; rfl, hbl.trans (hW'.mono (by omega))⟩
end Go.Proofs
namespace Go.Proofs
open Go.RowKit Go.Maps Go.Sort Go.Shelf Go.User
set_option maxHeartbeats 2000000 in
set_option maxRecDepth 100000 in
theorem Tryd.static_few (any : Bool) (it lc gr lo hi st n : Int) (set : Nat) (hx : set < 18446744073709551616) (w : World)
  (hnz : any = true ∨ (onesN 64 (set % 2 ^ (min (max n 0) 64).toNat)).length = 0) :
  Calls Tryd.prog 11 #[.agg #[.bool any, .int .i64 it, .int .i64 lc, .int .i64 gr, .int .i64 lo, .int .i64 hi, .int .i64 st], .int .i64 n, .int .u64 set] w fun e w' => e = .returned (.int .i64 ((onesN 64 (set % 2 ^ (min (max n 0) 64).toNat)).length : Int)) /\ Below w.heap.size w w' := by
 refine (callsIn_wide (n := 6)).1 ?_
 refine callsIn_of_wp_marks Tryd.func11 rfl trivial ?_ rfl
 simp only [Tryd.ntmps11, List.size_toArray, List.length_cons, List.length_nil, Nat.reduceAdd, Nat.reduceSub, Array.replicate_succ, Array.replicate_zero, List.push_toArray, List.append_toArray, List.nil_append, List.cons_append]
 have hf22 : Fence.wide.fn 22 := trivial
 have hlow := Tryd.set_low set n hx
 obtain ⟨x, hxx⟩ : ∃ x, x = set % 2 ^ (min (max n 0) 64).toNat := ⟨_, rfl⟩
 rw [<- hxx] at hlow hnz ⊢
 have hx2 : x < 18446744073709551616 := by rw [hxx]; exact Nat.lt_of_le_of_lt (Nat.mod_le _ _) hx
 obtain ⟨N, hN⟩ : ∃ N, N = (onesN 64 x).length := ⟨_, rfl⟩
 rw [<- hN] at hnz ⊢
 have c22 : ∀ W, CallsIn Fence.wide 5 Tryd.prog 22 #[.int .u64 (IntKind.u64.wrap ((set : Int) * 2 ^ (64 - min (max n 0) 64).toNat) / 2 ^ (64 - min (max n 0) 64).toNat)] W fun e w' => e = .returned (.int .i64 (N : Int)) /\ w' = W := by
  intro W;rw [hlow, hN];exact callsIn_wide.2 (Tryd.ones64 x hx2 W)
 clear hlow hxx hN hx hx2
 have bw := (Below.refl w.heap.size w).alloc (Nat.le_refl _) (.cells #[.bool any, .int .i64 it, .int .i64 lc, .int .i64 gr, .int .i64 lo, .int .i64 hi, .int .i64 st] 35)
 by_cases hN : N = 0
 ·subst hN
  clear hnz
  gi_wp2
  refine (c22 _).mono ?_
  rintro e w' ⟨rfl, rfl⟩
  dsimp only
  clear c22
  gi_wp2
  exact ⟨_, results_tmp rfl _ _ _, rfl, bw⟩
 ·have ha : any = true := by rcases hnz with h | h; exact h; exact absurd h hN
  subst ha;have hN0 : ((N : Int) == 0) = false := by simp; omega
  clear hnz hN
  gi_wp2
  refine (c22 _).mono ?_
  rintro e w' ⟨rfl, rfl⟩
  dsimp only
  clear c22
  gi_wp2
  exact ⟨_, results_tmp rfl _ _ _, rfl, bw⟩
end Go.Proofs
