/- Static: the walk, where the rest has more than one element. Static computes the bound. Moves: keys of its map. Moves: the walk. Moves computes the number of transactions. Segments: the laws: examples, MatchesReference, Bounds, Fewer, Sharp. The law CoalesceFewer. -/
import Derived.Test.YtghhmompjooecaaDoorLfj
import Derived.WideKeyArr
set_option linter.unusedVariables false
set_option linter.unusedSimpArgs false
namespace Go.Proofs
open Go.RowKit Go.Maps Go.Sort Go.Shelf Go.User
set_option maxHeartbeats 2000000 in
set_option maxRecDepth 100000 in
theorem Tryd.static_wide (R it lc gr lo hi st n : Int) (set : Nat) (hx : set < 18446744073709551616) (w : World) (hT : TabAt 0 Lib.deBruijn64tab w) (h0 : 0 < w.heap.size) (hst : st ≠ 0)
  (hnz : (onesN 64 (set % 2 ^ (min (max n 0) 64).toNat)).length ≠ 0) (hs : wrap64 (it + lc) = it + lc) (hs1 : -4398046511104 <= it + lc) (hs2 : it + lc <= 4398046511104) (hl : -2199023255552 <= lo /\ lo <= 2199023255552 /\ -2199023255552 <= hi /\ hi <= 2199023255552 /\ lo < hi)
  (hR : let x := set % 2 ^ (min (max n 0) 64).toNat; (Lib.ctz 64 x : Int) + 1 <= Lib.bitLen x /\ (Lib.bitLen x : Int) <= 64 /\ R = min ((onesN 64 x).length : Int) ((Sp.absI (it + lc) * ((Lib.bitLen x : Int) - 1 - Lib.ctz 64 x) + hi - lo - 1) / 16 + 2)) :
  Calls Tryd.prog 11 #[.agg #[.bool false, .int .i64 it, .int .i64 lc, .int .i64 gr, .int .i64 lo, .int .i64 hi, .int .i64 st], .int .i64 n, .int .u64 set] w fun e w' => e = .returned (.int .i64 R) /\ Below w.heap.size w w' := by
 refine (callsIn_wide (n := 6)).1 ?_
 refine callsIn_of_wp_marks Tryd.func11 rfl trivial ?_ rfl
 simp only [Tryd.ntmps11, List.size_toArray, List.length_cons, List.length_nil, Nat.reduceAdd, Nat.reduceSub, Array.replicate_succ, Array.replicate_zero, List.push_toArray, List.append_toArray, List.nil_append, List.cons_append]
 have hf22 : Fence.wide.fn 22 := trivial
 have hf24 : Fence.wide.fn 24 := trivial
 have hf25 : Fence.wide.fn 25 := trivial
 have hlow := Tryd.set_low set n hx
 obtain ⟨x, hxx⟩ : ∃ x, x = set % 2 ^ (min (max n 0) 64).toNat := ⟨_, rfl⟩
 have hR0 : (Lib.ctz 64 (set % 2 ^ (min (max n 0) 64).toNat) : Int) + 1 <= Lib.bitLen (set % 2 ^ (min (max n 0) 64).toNat) /\ (Lib.bitLen (set % 2 ^ (min (max n 0) 64).toNat) : Int) <= 64 /\ R = min ((onesN 64 (set % 2 ^ (min (max n 0) 64).toNat)).length : Int) ((Sp.absI (it + lc) * ((Lib.bitLen (set % 2 ^ (min (max n 0) 64).toNat) : Int) - 1 - Lib.ctz 64 (set % 2 ^ (min (max n 0) 64).toNat)) + hi - lo - 1) / 16 + 2) := hR
 clear hR
 rw [<- hxx] at hlow hnz hR0
 have hx2 : x < 18446744073709551616 := by rw [hxx]; exact Nat.lt_of_le_of_lt (Nat.mod_le _ _) hx
 obtain ⟨N, hN⟩ : ∃ N, N = (onesN 64 x).length := ⟨_, rfl⟩
 rw [<- hN] at hnz hR0
 have c22 : ∀ W, CallsIn Fence.wide 5 Tryd.prog 22 #[.int .u64 (IntKind.u64.wrap ((set : Int) * 2 ^ (64 - min (max n 0) 64).toNat) / 2 ^ (64 - min (max n 0) 64).toNat)] W fun e w' => e = .returned (.int .i64 (N : Int)) /\ w' = W := by
  intro W;rw [hlow, hN];exact callsIn_wide.2 (Tryd.ones64 x hx2 W)
 have hN0 : ((N : Int) == 0) = false := by simp; omega
 have hst0 : (st == 0) = false := by simp; omega
 have hE : ∃ z : Nat, z = x /\ (∀ W, TabAt 0 Lib.deBruijn64tab W -> CallsIn Fence.wide 5 Tryd.prog 24 #[.int .u64 (z : Int)] W fun e w' => e = .returned (.int .i64 (Lib.ctz 64 z)) /\ w' = W) /\
   (∀ W, CallsIn Fence.wide 5 Tryd.prog 25 #[.int .u64 (z : Int)] W fun e w' => e = .returned (.int .i64 (64 - (Lib.bitLen z : Int))) /\ w' = W) /\
   ((∀ m : Nat, m = 0 -> (Lib.ctz 64 z : Int) + 1 <= Lib.bitLen z) /\ (Lib.bitLen z : Int) <= 64 /\ (-2199023255552 <= lo /\ lo <= 2199023255552) /\ (-2199023255552 <= hi /\ hi <= 2199023255552) /\ lo < hi /\ R = min (N : Int) ((Sp.absI (it + lc) * ((Lib.bitLen z : Int) - 1 - Lib.ctz 64 z) + hi - lo - 1) / 16 + 2)) /\
   IntKind.u64.wrap ((set : Int) * 2 ^ (64 - min (max n 0) 64).toNat) / 2 ^ (64 - min (max n 0) 64).toNat = (z : Int) :=
  ⟨x, rfl, fun W hW => callsIn_wide.2 (Tryd.tz64 x hx2 W hW), fun W => callsIn_wide.2 (Tryd.lz64 x W hx2), ⟨fun _ _ => hR0.1, hR0.2.1, ⟨hl.1, hl.2.1⟩, ⟨hl.2.2.1, hl.2.2.2.1⟩, hl.2.2.2.2, hR0.2.2⟩, hlow⟩
 clear hlow hxx hN hx hx2 hnz hst hR0 hl
 gi_wp2
 refine (c22 _).mono ?_
 rintro e w' ⟨rfl, rfl⟩
 dsimp only
 clear c22
 obtain ⟨z, rfl, c24, c25, hR, hE⟩ := hE
 simp only [hE]
 clear hE
 have hTab : ∀ W, Below w.heap.size w W -> TabAt 0 Lib.deBruijn64tab W := fun W h => Tryd.tab_heap (h.block 0 h0) hT
 have bw := ((Below.refl w.heap.size w).alloc (Nat.le_refl _) (.cells #[.bool false, .int .i64 it, .int .i64 lc, .int .i64 gr, .int .i64 lo, .int .i64 hi, .int .i64 st] 35)).alloc (by simp) (.cells #[.int .i64 (it + lc)] 2)
 have hT2 := hTab _ bw
 have d24 := c24 _ hT2
 have d25 := c25 (((w.alloc (.cells #[.bool false, .int .i64 it, .int .i64 lc, .int .i64 gr, .int .i64 lo, .int .i64 hi, .int .i64 st] 35))).alloc (.cells #[.int .i64 (it + lc)] 2))
 clear c24 c25 hT2 hTab hT
 gi_wp2_with (first | (gi_at_call 24; refine d24.mono ?_; clear d24; rintro e w' ⟨rfl, rfl⟩) | (gi_at_call 25; refine d25.mono ?_; clear d25; rintro e w' ⟨rfl, rfl⟩))
 have hfin : min (N : Int) (wrap64 (wrap64 ((wrap64 (wrap64 (wrap64 (wrap64 (max (it + lc) (-(it + lc)) * wrap64 (63 - (64 - (Lib.bitLen z : Int)) - (Lib.ctz 64 z : Int))) + hi) - lo) - 1)).tdiv 16) + 2)) = R := by
  obtain ⟨b1, b2, b3, b4, b5, hR⟩ := hR;have b1 := b1 0 rfl;have hp : 0 <= (Lib.ctz 64 z : Int) := by omega
  rw [hR];generalize (Lib.bitLen z : Int) = q at *;generalize (Lib.ctz 64 z : Int) = p at *;have e3 : wrap64 (63 - (64 - q) - p) = q - 1 - p := by unfold wrap64; omega
  have e4 : max (it + lc) (-(it + lc)) = Sp.absI (it + lc) := by unfold Sp.absI; split <;> omega
  rw [e3, e4];have hA : 0 <= Sp.absI (it + lc) /\ Sp.absI (it + lc) <= 4398046511104 := by unfold Sp.absI; split <;> omega
  obtain ⟨m1, m2⟩ := mul_bound (s := Sp.absI (it + lc)) (x := q - 1 - p) (by omega) (by omega) (by omega) (by omega);have m0 : 0 <= Sp.absI (it + lc) * (q - 1 - p) := Int.mul_nonneg (by omega) (by omega);generalize Sp.absI (it + lc) * (q - 1 - p) = P at *;have e5 : wrap64 P = P := by unfold wrap64; omega
  have e6 : wrap64 (P + hi) = P + hi := by unfold wrap64; omega
  have e7 : wrap64 (P + hi - lo) = P + hi - lo := by unfold wrap64; omega
  have e8 : wrap64 (P + hi - lo - 1) = P + hi - lo - 1 := by unfold wrap64; omega
  have e9 : (P + hi - lo - 1).tdiv 16 = (P + hi - lo - 1) / 16 := Int.tdiv_eq_ediv_of_nonneg (by omega)
  first
   | rw [e5, e6, e7, e8, e9]
   | skip
  have e10 : wrap64 ((P + hi - lo - 1) / 16) = (P + hi - lo - 1) / 16 := by unfold wrap64; omega
  have e11 : wrap64 ((P + hi - lo - 1) / 16 + 2) = (P + hi - lo - 1) / 16 + 2 := by unfold wrap64; omega
  rw [e10, e11]
 exact ⟨_, results_tmp rfl _ _ _, by rw [<- hfin]; rfl, bw⟩
end Go.Proofs
namespace Go.User
open Go.Lf Go.Proofs Go.RowKit
theorem onesI_set (n : Int) (set : Nat) : onesI (set % 2 ^ (min (max n 0) 64).toNat) = Sp.lanes n (set : Int) := by
 rw [onesI_lanes set _ (by omega)]
 by_cases h : n <= 0
 ·rw [lanes_zero _ n h, lanes_zero _ _ (by omega)]
 ·by_cases h2 : 64 <= n
  ·rw [lanes_full _ n h2, lanes_full _ _ (by omega)]
  ·rw [show (((min (max n 0) 64).toNat : Nat) : Int) = n by omega]
theorem tab_of {F : NSet} {w : World} (h : GlbOK 1 F w) : TabAt 0 Lib.deBruijn64tab w := by
 obtain ⟨_, row, T, fr, h1, h2⟩ := h 0 _ rfl
 intro j hj
 have e : (Lib.deBruijn64tab.map (fun k : Nat => Value.int .u8 (k : Int)))[j]? = some (.int .u8 (Lib.deBruijn64tab.getD j 0 : Nat)) := by
  rw [List.getElem?_map, List.getElem?_eq_getElem hj, List.getD, List.getElem?_eq_getElem hj]; rfl
 have := h2 j _ e
 simp [World.cell?, h1, this]
theorem own_int {F S : NSet} {w : World} {m : Md} {k : IntKind} {b : Ty} {cs : List Value} {x : (Ty.prod (.int k) b).den} (h : Go.Lf.Own F w (.prod (.int k) b) m S cs x) : ∃ c2 S2 m2, cs = .int k x.1 :: c2 /\ Go.Lf.Own F w b m2 S2 c2 x.2 := by
 obtain ⟨c1, c2, S1, S2, rfl, _, _, _, h1, h2⟩ := h
 have e : c1 = [.int k x.1] := h1.1
 exact ⟨c2, S2, _, by rw [e]; rfl, h2⟩
theorem own_bool {F S : NSet} {w : World} {m : Md} {b : Ty} {cs : List Value} {x : (Ty.prod .bool b).den} (h : Go.Lf.Own F w (.prod .bool b) m S cs x) : ∃ c2 S2 m2, cs = .bool x.1 :: c2 /\ Go.Lf.Own F w b m2 S2 c2 x.2 := by
 obtain ⟨c1, c2, S1, S2, rfl, _, _, _, h1, h2⟩ := h
 have e : c1 = [.bool x.1] := h1
 exact ⟨c2, S2, _, by rw [e]; rfl, h2⟩
theorem val_agg {F : NSet} {w : World} {v : Value} {x : Sp.Form} (h : OwnV F w tForm .shr none' v x) :
  v = .agg #[.bool x.1, .int .i64 x.2.1, .int .i64 x.2.2.1, .int .i64 x.2.2.2.1, .int .i64 (Sp.loOf x), .int .i64 (Sp.hiOf x), .int .i64 (Sp.stOf x)] := by
 obtain ⟨cs, rfl, h1⟩ := h
 obtain ⟨c1, _, _, e1, h2⟩ := own_bool h1
 obtain ⟨c2, _, _, e2, h3⟩ := own_int h2
 obtain ⟨c3, _, _, e3, h4⟩ := own_int h3
 obtain ⟨c4, _, _, e4, h5⟩ := own_int h4
 obtain ⟨d1, d2, _, _, e5, _, _, _, h6, hu⟩ := h5
 obtain ⟨c5, _, _, e6, h7⟩ := own_int h6
 obtain ⟨c6, _, _, e7, h8⟩ := own_int h7
 obtain ⟨c7, _, _, e8, h9⟩ := own_int h8
 have e9 : c7 = [] := h9
 have e10 : d2 = [] := hu
 rw [e1, e2, e3, e4, e5, e6, e7, e8, e9, e10]
 rfl
theorem int_post {F : NSet} {w w' : World} {z : Int} (hF : ∀ b, F b -> b < w.heap.size) (h1 : -9223372036854775808 <= z) (h2 : z <= 9223372036854775807) (hb : Below w.heap.size w w') : Post F w false tI .shr z (.returned (.int .i64 z)) w' :=
 ⟨_, F, none', rfl, hb, fun _ h => h, fun b h h' => absurd h h', fun b h => h.elim (fun h => Nat.lt_of_lt_of_le (hF b h) hb.size) (fun h => h.elim), fun b h => h.elim, _, rfl, rfl, h1, h2⟩
theorem static_le (f : Sp.Form) (l : List Int) (hu : Sp.usable f) (hl : l.length <= 64) (hs : Strict l) (hok : Sp.lanesOk l) : 0 <= Sp.static f l /\ Sp.static f l <= 64 := by
 unfold Sp.static
 split
 ·omega
 ·split
  ·have := maxSegs_le (Sp.sOf f) l 16
   omega
  ·rename_i h1 h2
   have h0 : 0 < l.length := by
    rcases Nat.eq_zero_or_pos l.length with h | h
    ·exact absurd (.inl h) h1
    ·exact h
   have hf := strict_first hs h0
   have hA : 0 <= Sp.absI (Sp.sOf f) := by unfold Sp.absI; split <;> omega
   have := Int.mul_nonneg hA (show 0 <= Sp.lastI l - l.getD 0 0 by omega)
   have hlt : Sp.loOf f <= Sp.hiOf f := hu.2.2.2.2.1
   have : 0 <= Sp.wide f l - 1 := by unfold Sp.wide; omega
   have := Int.ediv_nonneg this (show (0 : Int) <= 16 by omega)
   omega
theorem ok11 : FOk Tryd.prog 11 S11 := by
 refine ⟨Tryd.call11, fun w F vs xs hg hF ha hp => ?_⟩
 obtain ⟨v0, r0, rfl, h0, v1, r1, rfl, h1, v2, r2, rfl, h2, rfl⟩ := ha
 obtain ⟨f, (n : Int), (s : Int), ⟨⟩⟩ := xs
 have hT := tab_of hg
 have hw0 : 0 < w.heap.size := hF 0 (hg 0 _ rfl).1
 have hu : Sp.usable f := hp
 have e0 := val_agg h0
 obtain ⟨e1, -, -⟩ := OwnV.int_eq h1
 obtain ⟨e2, s0, s1⟩ := OwnV.int_eq h2
 subst e0 e1 e2
 have s0 : (0 : Int) <= s := s0
 have s1 : s <= (18446744073709551615 : Int) := s1
 obtain ⟨set, rfl⟩ : ∃ set : Nat, s = set := ⟨s.toNat, by omega⟩
 have hx : set < 18446744073709551616 := by omega
 have hL := onesI_set n set
 have hlen : (Sp.lanes n (set : Int)).length = (onesN 64 (set % 2 ^ (min (max n 0) 64).toNat)).length := by rw [<- hL, onesI_len]
 obtain ⟨b0, b1⟩ := static_le f (Sp.lanes n set) hu (lanes_len n set) (lanes_strict n set) (lanes_ok n set)
 obtain ⟨⟨u1, u2⟩, ⟨u3, u4⟩, ⟨u5, u6⟩, ⟨u7, u8⟩, u9, u10, u11⟩ := id hu
 have hws : wrap64 (f.2.1 + f.2.2.1) = f.2.1 + f.2.2.1 := by unfold wrap64; omega
 have fin : ∀ z, z = Sp.static f (Sp.lanes n set) -> Calls Tryd.prog 11 #[.agg #[.bool f.1, .int .i64 f.2.1, .int .i64 f.2.2.1, .int .i64 f.2.2.2.1, .int .i64 (Sp.loOf f), .int .i64 (Sp.hiOf f), .int .i64 (Sp.stOf f)], .int .i64 n, .int .u64 set] w (fun e w' => e = .returned (.int .i64 z) /\ Below w.heap.size w w') ->
   Calls Tryd.prog 11 #[.agg #[.bool f.1, .int .i64 f.2.1, .int .i64 f.2.2.1, .int .i64 f.2.2.2.1, .int .i64 (Sp.loOf f), .int .i64 (Sp.hiOf f), .int .i64 (Sp.stOf f)], .int .i64 n, .int .u64 set] w (Post F w false tI .shr (Sp.static f (Sp.lanes n set))) := by
  rintro z rfl h
  refine h.mono ?_
  rintro e w' ⟨rfl, hb⟩
  exact int_post hF (by omega) (by omega) hb
 by_cases hc : f.1 = true ∨ (onesN 64 (set % 2 ^ (min (max n 0) 64).toNat)).length = 0
 ·refine fin _ ?_ (Tryd.static_few f.1 f.2.1 f.2.2.1 f.2.2.2.1 (Sp.loOf f) (Sp.hiOf f) (Sp.stOf f) n set hx w hc)
  unfold Sp.static;rw [if_pos (by rw [hlen]; exact hc.symm), hlen]
 ·have hany : f.1 = false := by
   cases h : f.1
   ·rfl
   ·exact absurd (.inl h) hc
  have hnz : (onesN 64 (set % 2 ^ (min (max n 0) 64).toNat)).length ≠ 0 := fun h => hc (.inr h)
  have hn0 : ¬ ((Sp.lanes n (set : Int)).length = 0 ∨ f.1 = true) := by rw [hlen, hany]; simp; exact fun h => hnz (by simp [h])
  by_cases hst : Sp.stOf f = 0
  ·refine fin (Sp.maxSegs (Sp.sOf f) (Sp.lanes n set) 16 : Nat) ?_ ?_
   ·unfold Sp.static
    rw [if_neg hn0, if_pos (u10.1 hst)]
   ·rw [hany, hst]
    exact Tryd.static_loop _ f.2.1 f.2.2.1 f.2.2.2.1 (Sp.loOf f) (Sp.hiOf f) 0 n set hx w hT hw0 rfl hnz (by omega) (by omega) (by rw [hL]; rfl) hws
  ·have hlt : Sp.loOf f < Sp.hiOf f := by
    rcases Int.lt_or_eq_of_le u9 with h | h
    ·exact h
    ·exact absurd (u10.2 h) hst
   have hx2 : set % 2 ^ (min (max n 0) 64).toNat < 2 ^ 64 := Nat.lt_of_le_of_lt (Nat.mod_le _ _) hx
   have hne : set % 2 ^ (min (max n 0) 64).toNat ≠ 0 := fun h => by rw [h] at hnz; exact hnz (by rw [<- onesI_len, onesI_zero]; rfl)
   have hlast := onesI_last _ hx2 hne
   obtain ⟨hcons, hc64, -⟩ := onesI_cons _ hx2 hne;obtain ⟨t1, t2, -, -⟩ := bitLen_top _ hx2 hne;have hfirst : (onesI (set % 2 ^ (min (max n 0) 64).toNat)).getD 0 0 = (Lib.ctz 64 (set % 2 ^ (min (max n 0) 64).toNat) : Int) := by rw [hcons]; rfl
   have hfl := strict_first (onesI_strict (set % 2 ^ (min (max n 0) 64).toNat)) (by rw [onesI_len]; omega)
   rw [hfirst, hlast] at hfl;refine fin (Sp.static f (Sp.lanes n set)) rfl ?_;rw [hany];refine Tryd.static_wide _ f.2.1 f.2.2.1 f.2.2.2.1 (Sp.loOf f) (Sp.hiOf f) (Sp.stOf f) n set hx w hT hw0 hst hnz hws (by omega) (by omega) ⟨by omega, by omega, by omega, by omega, hlt⟩ ⟨by omega, by omega, ?_⟩
   unfold Sp.static;rw [if_neg hn0, if_neg (by omega), hlen];unfold Sp.wide;rw [<- hL, hlast, hfirst]
   rfl
end Go.User
namespace Go.Proofs
open Go.RowKit Go.Maps Go.Sort Go.Shelf Go.WideMaps

theorem Tryd.arrKey : ArrKey Tryd.prog 74 3 2 := ⟨by kernel_rfl, by kernel_rfl, by kernel_rfl, by kernel_rfl⟩
theorem Tryd.keyed : Keyed Tryd.prog 74 := Keyed.of_law Tryd.arrKey.law
def Tryd.kl (p : Int × Int) : Lit := .string (keyBytes [.int .i64 p.1, .int .i64 p.2])
theorem Tryd.kl_of {p : Int × Int} (h1 : (Lit.int .i64 p.1).wf = true) (h2 : (Lit.int .i64 p.2).wf = true) : keyOf Tryd.prog 74 (.agg #[.int .i64 p.1, .int .i64 p.2]) = some (Tryd.kl p) := by
 have hu : Tryd.prog.underlying 74 = some (.array 2 3) := Tryd.arrKey.hu
 have hk : Tryd.prog.keyType 74 = true := by kernel_rfl
 have hu3 : Tryd.prog.underlying 3 = some (.int .i64) := Tryd.underlying3
 obtain ⟨m, hm⟩ : ∃ m, Tryd.prog.types.size = m + 1 := ⟨Tryd.prog.types.size - 1, by kernel_rfl⟩
 have hc : Tryd.prog.cellsOf 74 = 2 := by kernel_rfl
 have hc3 : Tryd.prog.cellsOf 3 = 1 := by kernel_rfl
 unfold keyOf
 rw [hu]
 have hf : Value.formed Tryd.prog 74 (.agg #[.int .i64 p.1, .int .i64 p.2]) = true := by
  simp [Value.formed, hu, hc]
 simp only [hk, hf, Bool.and_self, if_true, Value.cells]
 rw [hm]
 simp [Program.keyLits, hu, hc, hc3, hu3, h1, h2, List.range_succ, Tryd.kl]
theorem Tryd.kl_key (p : Int × Int) : WideAt.IsKeyLit (Tryd.kl p) := trivial
theorem Tryd.kl_inj {p q : Int × Int} (hp : (Lit.int .i64 p.1).wf = true /\ (Lit.int .i64 p.2).wf = true) (hq : (Lit.int .i64 q.1).wf = true /\ (Lit.int .i64 q.2).wf = true) (h : Tryd.kl p = Tryd.kl q) : p = q := by
 have h1 := Tryd.kl_of hp.1 hp.2
 have h2 := Tryd.kl_of hq.1 hq.2
 rw [<- h] at h2
 have := Tryd.arrKey.law.inj h1 h2
 simp at this
 exact Prod.ext this.1 this.2
theorem Tryd.addKeys : ∀ (xs acc : List Lit), (∀ x ∈ xs, WideAt.IsKeyLit x) -> (∀ x ∈ acc, WideAt.IsKeyLit x) -> acc.Nodup -> (xs.foldl addKey acc).Nodup /\ ∀ y, y ∈ xs.foldl addKey acc ↔ y ∈ acc ∨ y ∈ xs
 | [], acc, _, _, h => ⟨h, by simp⟩
 | x :: xs, acc, hx, ha, h => by
  have hxk := hx x (by simp)
  have hin : (acc.any fun y => y.sameKey x) = true ↔ x ∈ acc := by
   rw [List.any_eq_true];constructor
   ·rintro ⟨y, hy, he⟩
    have := WideAt.sameKey_eq he
    exact this ▸ hy
   ·intro hy
    exact ⟨x, hy, WideAt.sameKey_self hxk⟩
  by_cases hm : x ∈ acc
  ·have e : addKey acc x = acc := by unfold addKey; rw [if_pos (hin.2 hm)]
   obtain ⟨q1, q2⟩ := Tryd.addKeys xs acc (fun y hy => hx y (by simp [hy])) ha h
   rw [List.foldl_cons, e];refine ⟨q1, fun y => ?_⟩
   rw [q2, List.mem_cons];constructor
   ·rintro (h | h) <;> simp [h]
   ·rintro (h | rfl | h)
    ·exact .inl h
    ·exact .inl hm
    ·exact .inr h
  ·have e : addKey acc x = acc ++ [x] := by unfold addKey; rw [if_neg (fun h => hm (hin.1 h))]
   have hnd : (acc ++ [x]).Nodup := List.nodup_append.2 ⟨h, by simp, by rintro a ha b hb rfl; simp at hb; exact hm (hb ▸ ha)⟩
   obtain ⟨q1, q2⟩ := Tryd.addKeys xs (acc ++ [x]) (fun y hy => hx y (by simp [hy])) (fun y hy => by rcases List.mem_append.1 hy with h | h; exact ha y h; simp at h; exact h ▸ hxk) hnd
   rw [List.foldl_cons, e];refine ⟨q1, fun y => ?_⟩
   rw [q2];simp only [List.mem_append, List.mem_cons, List.not_mem_nil, or_false, or_assoc]

def Tryd.mD (es : List Sp.Ev) (l : List Sp.Arr) (k : Nat) : DataW Unit := setOf (.agg []) (((Sp.pairs (es.take k) l).map Go.User.segp).map Tryd.kl)
theorem Tryd.mD_zero (es : List Sp.Ev) (l : List Sp.Arr) : Tryd.mD es l 0 = .map [] := by simp [Tryd.mD, Sp.pairs, setOf]
theorem Tryd.mD_hit (es : List Sp.Ev) (l : List Sp.Arr) (k : Nat) (hk : k < es.length) (h : Sp.counts es[k] l = true) :
  Tryd.mD es l (k + 1) = (Tryd.mD es l k).put (Tryd.kl (es[k].2.2.2.2.2.2.1, es[k].2.2.2.2.2.2.2.1 / 16)) (.agg []) := by
 unfold Tryd.mD
 rw [Go.User.pairs_snoc es l k hk]
 have e : es.getD k (0, 0, 0, 0, 0, 0, 0, 0, 0, ()) = es[k] := by simp [List.getD, List.getElem?_eq_getElem hk]
 rw [e, if_pos h, List.map_append, List.map_append, List.map_cons, List.map_cons, List.map_nil, List.map_nil, setOf_snoc]
 rfl
theorem Tryd.mD_miss (es : List Sp.Ev) (l : List Sp.Arr) (k : Nat) (hk : k < es.length) (h : ¬ Sp.counts es[k] l = true) : Tryd.mD es l (k + 1) = Tryd.mD es l k := by
 unfold Tryd.mD
 rw [Go.User.pairs_snoc es l k hk]
 have e : es.getD k (0, 0, 0, 0, 0, 0, 0, 0, 0, ()) = es[k] := by simp [List.getD, List.getElem?_eq_getElem hk]
 rw [e, if_neg h, List.append_nil]
theorem Tryd.mD_size (es : List Sp.Ev) (l : List Sp.Arr) (hw : ∀ p ∈ Sp.pairs es l, (Lit.int .i64 p.1).wf = true /\ (Lit.int .i64 (p.2 / 16)).wf = true) : Maps.size (Tryd.mD es l es.length) = Go.User.nmoves (Sp.pairs es l) := by
 unfold Tryd.mD
 rw [List.take_length, size_setOf]
 ·obtain ⟨q1, q2⟩ := Tryd.addKeys (((Sp.pairs es l).map Go.User.segp).map Tryd.kl) [] (fun x hx => by obtain ⟨p, _, rfl⟩ := List.mem_map.1 hx; exact Tryd.kl_key p) (by simp) (by simp)
  have e : Go.User.nmoves (Sp.pairs es l) = ((Go.User.dd ((Sp.pairs es l).map Go.User.segp)).map Tryd.kl).length := by simp [Go.User.nmoves]
  rw [e]
  letI : DecidableEq Lit := fun a b => Classical.propDecidable _
  refine Go.User.same_len q1 ?_ fun y => ?_
  ·unfold List.Nodup
   rw [List.pairwise_map];refine (Go.User.nodup_dd _).imp_of_mem fun {a b} ha hb hne hk => hne ?_
   have wf : ∀ c, c ∈ Go.User.dd ((Sp.pairs es l).map Go.User.segp) -> (Lit.int .i64 c.1).wf = true /\ (Lit.int .i64 c.2).wf = true := by
    intro c hc;rw [Go.User.mem_dd] at hc;obtain ⟨p, hp, rfl⟩ := List.mem_map.1 hc;exact hw p hp
   exact Tryd.kl_inj (wf a ha) (wf b hb) hk
  ·rw [q2, List.mem_map, List.mem_map]
   simp only [Go.User.mem_dd, List.not_mem_nil, false_or]
 ·intro x hx
  obtain ⟨p, _, rfl⟩ := List.mem_map.1 hx;exact Tryd.kl_key p
end Go.Proofs
namespace Go.Proofs
open Go.RowKit Go.Maps Go.Sort Go.Shelf Go.WideMaps

def Tryd.evCells (x : Sp.Ev) : List Value := [.int .i64 x.1, .int .i64 x.2.1, .int .i64 x.2.2.1, .int .i64 x.2.2.2.1, .int .i64 x.2.2.2.2.1, .int .i64 x.2.2.2.2.2.1, .int .i64 x.2.2.2.2.2.2.1, .int .i64 x.2.2.2.2.2.2.2.1, .int .i32 x.2.2.2.2.2.2.2.2.1]

set_option maxHeartbeats 2000000 in
set_option maxRecDepth 100000 in
theorem Tryd.moves_in (ao1 ao2 : Option Addr) (cap1 cap2 : Nat) (es : List Sp.Ev) (l : List Sp.Arr) (w : World) (hn : es.length <= 1000) (hm : l.length <= 1000)
  (he : ∀ (j : Nat) (h : j < es.length), ∃ b off, ao1 = some ⟨b, off, none⟩ /\ b < w.heap.size /\ ∀ i v, (Tryd.evCells es[j])[i]? = some v -> w.cell? ⟨b, off + j * 9 + i, none⟩ = some v)
  (hl : ∀ (j : Nat) (h : j < l.length), ∃ b off, ao2 = some ⟨b, off, none⟩ /\ b < w.heap.size /\ w.cell? ⟨b, off + j * 4 + 1, none⟩ = some (.int .i64 l[j].2.1))
  (hw : ∀ p ∈ Sp.pairs es l, (Lit.int .i64 p.1).wf = true /\ (Lit.int .i64 (p.2 / 16)).wf = true) :
  Calls Tryd.prog 16 #[.slice ao1 es.length cap1, .slice ao2 l.length cap2] w fun e w' => e = .returned (.int .i64 (Sp.moves es l)) /\ Below w.heap.size w w' := by
 refine (callsIn_wide (n := 6)).1 ?_
 have hmm := @run_makeMap Tryd.prog
 refine callsIn_of_wp Tryd.func16 rfl trivial ?_ rfl
 simp only [Tryd.ntmps16, List.size_toArray, List.length_cons, List.length_nil, Nat.reduceAdd, Nat.reduceSub, Array.replicate_succ, Array.replicate_zero, List.push_toArray, List.append_toArray, List.nil_append, List.cons_append]
 gi_wp2
 gi_loopw [12] (fun i wr => ∃ k : Nat, k <= es.length /\ i = .int .i64 k /\ wr.ownsMap Tryd.prog 74 (unitElem (H := Unit)) w.heap.size k (Tryd.mD es l k) /\ Below w.heap.size w wr)
  (fun i _ => es.length - (intOf i).toNat)
 case atStart => exact ⟨0, Nat.zero_le _, rfl, by rw [Tryd.mD_zero]; exact World.ownsMap_made _ _ _ _, (Below.refl _ _).alloc (Nat.le_refl _) _⟩
 case round =>
  obtain ⟨k, hk, rfl, hown, hnx⟩ := hrel;by_cases hkn : k < es.length
  ·obtain ⟨b, off, rfl, hb, hc⟩ := he k hkn
   have hcw : ∀ i v, (Tryd.evCells es[k])[i]? = some v -> wr.cell? ⟨b, off + k * 9 + i, none⟩ = some v := fun i v hi => (hnx.cell (by exact hb)).trans (hc i v hi)
   obtain ⟨x, hx⟩ : ∃ x, x = es[k] := ⟨_, rfl⟩;have hmiss := Tryd.mD_miss es l k hkn;have hhit := Tryd.mD_hit es l k hkn;rw [<- hx] at hcw hmiss hhit;have hwx : Sp.counts x l = true -> (Lit.int .i64 x.2.2.2.2.2.2.1).wf = true /\ (Lit.int .i64 (x.2.2.2.2.2.2.2.1 / 16)).wf = true := fun h =>
    hw (x.2.2.2.2.2.2.1, x.2.2.2.2.2.2.2.1) (List.mem_map.2 ⟨x, List.mem_filter.2 ⟨hx ▸ List.getElem_mem hkn, h⟩, rfl⟩)
   clear hx;obtain ⟨kd, f1, f2, f3, f4, f5, ar, ix, f8, ⟨⟩⟩ := x;have c0 : wr.cell? ⟨b, off + k * 9, none⟩ = some (.int .i64 kd) := hcw 0 _ rfl;have c1 := hcw 1 _ rfl;have c2 := hcw 2 _ rfl;have c3 := hcw 3 _ rfl;have c4 := hcw 4 _ rfl;have c5 := hcw 5 _ rfl;have c6 := hcw 6 _ rfl;have c7 := hcw 7 _ rfl;have c8 := hcw 8 _ rfl;clear hcw hc hw he
   dsimp only at hmiss hhit hwx c1 c2 c3 c4 c5 c6 c7 c8
   have hend : ∀ (o : Obj), ¬ Sp.counts (kd, f1, f2, f3, f4, f5, ar, ix, f8, ()) l = true -> (∃ k_1, k_1 <= es.length /\ Value.int IntKind.i64 ((k : Int) + 1) = Value.int IntKind.i64 (k_1 : Int) /\ (wr.alloc o).ownsMap Tryd.prog 74 (unitElem (H := Unit)) w.heap.size k_1 (Tryd.mD es l k_1) /\ Below w.heap.size w (wr.alloc o)) /\
     es.length - (intOf (Value.int IntKind.i64 ((k : Int) + 1))).toNat < es.length - (intOf (Value.int IntKind.i64 (k : Int))).toNat := by
    intro o hno;refine ⟨⟨k + 1, by omega, by simp, ?_, hnx.alloc hnx.size _⟩, by simp [intOf]; omega⟩
    rw [hmiss hno];exact (hown.alloc _).mono (by omega)
   by_cases hacc : (kd = 1 ∨ kd = 2) ∨ kd = 3
   ·by_cases h0 : 0 <= ar
    ·by_cases h1 : ar < (l.length : Int)
     ·obtain ⟨m, rfl⟩ : ∃ m : Nat, ar = m := ⟨ar.toNat, by omega⟩
      obtain ⟨b2, off2, rfl, hb2, hs⟩ := hl m (by omega);have hsp : wr.cell? ⟨b2, off2 + m * 4 + 1, none⟩ = some (.int .i64 l[m].2.1) := (hnx.cell (by exact hb2)).trans hs;have hgd : l.getD m ([], 0, 0, 0, ()) = l[m] := by simp [List.getD, List.getElem?_eq_getElem (show m < l.length by omega)]
      obtain ⟨sp, hspe⟩ : ∃ sp, sp = l[m].2.1 := ⟨_, rfl⟩;rw [<- hspe] at hsp;have hcnt : Sp.counts (kd, f1, f2, f3, f4, f5, (m : Int), ix, f8, ()) l = decide (sp = 1) := by
       have e1 : decide (1 <= kd) = true := decide_eq_true (by omega)
       have e2 : decide (kd <= 3) = true := decide_eq_true (by omega)
       have e3 : decide (0 <= (m : Int)) = true := decide_eq_true (by omega)
       have e4 : decide ((m : Int) < (l.length : Int)) = true := decide_eq_true h1
       show (decide (1 <= kd) && decide (kd <= 3) && decide (0 <= (m : Int)) && decide ((m : Int) < (l.length : Int)) && decide ((l.getD (m : Int).toNat Sp.arr0).2.1 = 1)) = _
       rw [e1, e2, e3, e4, Int.toNat_natCast, show Sp.arr0 = ([], 0, 0, 0, ()) from rfl, hgd, <- hspe]
       rfl
      have hsp2 : ∀ q : Int, (wr.alloc (.cells #[.int .i64 q, .int .i64 f1, .int .i64 f2, .int .i64 f3, .int .i64 f4, .int .i64 f5, .int .i64 (m : Int), .int .i64 ix, .int .i32 f8] 47)).cell? ⟨b2, off2 + m * 4 + 1, none⟩ = some (.int .i64 sp) := fun q => (((Below.refl wr.heap.size wr).alloc (Nat.le_refl _) _).cell (p := ⟨b2, off2 + m * 4 + 1, none⟩) (by have := hnx.size; show b2 < _; omega)).trans hsp
      have s1 := hsp2 1
      have s2 := hsp2 2
      have s3 := hsp2 3
      clear hs hgd hspe hl hsp2;by_cases h2 : sp = 1
      ·subst h2
       have hcnt : Sp.counts (kd, f1, f2, f3, f4, f5, (m : Int), ix, f8, ()) l = true := hcnt
       obtain ⟨w1, w2⟩ := hwx hcnt;have hh := hhit hcnt;clear hend hmiss hhit hwx hcnt;rcases hacc with (rfl | rfl) | rfl
       ·gi_wp2_with (gi_at_mapUpdate; refine wpListIn_mapUpdate_own _ rfl _ _ _ 73 rfl 74 68 Tryd.keyed Tryd.underlying73 _ w.heap.size k _ rfl (hown.alloc _) (by unfold maxLen; omega) _ _ _ rfl rfl (Tryd.kl_of (p := ((m : Int), ix / 16)) w1 w2) _ [] (unitElem_mk (H := Unit)) ?_; intro wq hown1 hgrow1)
        refine ⟨⟨k + 1, by omega, by simp, hh.symm ▸ hown1, ?_⟩, by simp [intOf]; omega⟩
        exact (hnx.alloc hnx.size _).grown hgrow1 (by have := hnx.size; simp; omega) (fun j hj => by cases hj; exact Nat.le_refl _)
       ·gi_wp2_with (gi_at_mapUpdate; refine wpListIn_mapUpdate_own _ rfl _ _ _ 73 rfl 74 68 Tryd.keyed Tryd.underlying73 _ w.heap.size k _ rfl (hown.alloc _) (by unfold maxLen; omega) _ _ _ rfl rfl (Tryd.kl_of (p := ((m : Int), ix / 16)) w1 w2) _ [] (unitElem_mk (H := Unit)) ?_; intro wq hown1 hgrow1)
        refine ⟨⟨k + 1, by omega, by simp, hh.symm ▸ hown1, ?_⟩, by simp [intOf]; omega⟩
        exact (hnx.alloc hnx.size _).grown hgrow1 (by have := hnx.size; simp; omega) (fun j hj => by cases hj; exact Nat.le_refl _)
       ·gi_wp2_with (gi_at_mapUpdate; refine wpListIn_mapUpdate_own _ rfl _ _ _ 73 rfl 74 68 Tryd.keyed Tryd.underlying73 _ w.heap.size k _ rfl (hown.alloc _) (by unfold maxLen; omega) _ _ _ rfl rfl (Tryd.kl_of (p := ((m : Int), ix / 16)) w1 w2) _ [] (unitElem_mk (H := Unit)) ?_; intro wq hown1 hgrow1)
        refine ⟨⟨k + 1, by omega, by simp, hh.symm ▸ hown1, ?_⟩, by simp [intOf]; omega⟩
        exact (hnx.alloc hnx.size _).grown hgrow1 (by have := hnx.size; simp; omega) (fun j hj => by cases hj; exact Nat.le_refl _)
      ·have n2 : (sp == 1) = false := by simp [h2]
       have hno : ¬ Sp.counts (kd, f1, f2, f3, f4, f5, (m : Int), ix, f8, ()) l = true := by rw [hcnt]; simp [h2]
       clear hmiss hhit hwx hcnt;rcases hacc with (rfl | rfl) | rfl
       ·gi_wp2; exact hend _ hno
       ·gi_wp2; exact hend _ hno
       ·gi_wp2; exact hend _ hno
     ·have hno : ¬ Sp.counts (kd, f1, f2, f3, f4, f5, ar, ix, f8, ()) l = true := by simp [Sp.counts]; omega
      clear hmiss hhit hwx hl;rcases hacc with (rfl | rfl) | rfl
      ·gi_wp2; exact hend _ hno
      ·gi_wp2; exact hend _ hno
      ·gi_wp2; exact hend _ hno
    ·have hno : ¬ Sp.counts (kd, f1, f2, f3, f4, f5, ar, ix, f8, ()) l = true := by simp [Sp.counts]; omega
     clear hmiss hhit hwx hl;rcases hacc with (rfl | rfl) | rfl
     ·gi_wp2; exact hend _ hno
     ·gi_wp2; exact hend _ hno
     ·gi_wp2; exact hend _ hno
   ·have n1 : (kd == 1) = false := by simp; omega
    have n2 : (kd == 2) = false := by simp; omega
    have n3 : (kd == 3) = false := by simp; omega
    have hno : ¬ Sp.counts (kd, f1, f2, f3, f4, f5, ar, ix, f8, ()) l = true := by simp [Sp.counts]; omega
    clear hmiss hhit hwx hl
    gi_wp2
    exact hend _ hno
  ·obtain rfl : k = es.length := by omega
   have hsz := Tryd.mD_size es l hw
   have hlen := hown.len Tryd.underlying73 3
   rw [hsz] at hlen;clear he hl hw hsz
   gi_wp2
   go_ret
   exact ⟨rfl, hnx⟩
end Go.Proofs
namespace Go.User
open Go.Lf Go.Proofs Go.RowKit
theorem ev_cells {F : NSet} {w : World} {m : Md} {S : NSet} {cs : List Value} {x : Sp.Ev} (h : Go.Lf.Own F w tEv m S cs x) : cs = Tryd.evCells x := by
 obtain ⟨c1, _, _, e1, h1⟩ := own_int h
 obtain ⟨c2, _, _, e2, h2⟩ := own_int h1
 obtain ⟨c3, _, _, e3, h3⟩ := own_int h2
 obtain ⟨c4, _, _, e4, h4⟩ := own_int h3
 obtain ⟨c5, _, _, e5, h5⟩ := own_int h4
 obtain ⟨c6, _, _, e6, h6⟩ := own_int h5
 obtain ⟨c7, _, _, e7, h7⟩ := own_int h6
 obtain ⟨c8, _, _, e8, h8⟩ := own_int h7
 obtain ⟨c9, _, _, e9, h9⟩ := own_int h8
 have e10 : c9 = [] := h9
 rw [e1, e2, e3, e4, e5, e6, e7, e8, e9, e10]
 rfl
theorem arr_cells {F : NSet} {w : World} {m : Md} {S : NSet} {cs : List Value} {x : Sp.Arr} (h : Go.Lf.Own F w tArr m S cs x) : ∃ v, cs = [v, .int .i64 x.2.1, .int .i64 x.2.2.1, .int .i64 x.2.2.2.1] := by
 obtain ⟨c1, d1, S1, S2, e1, _, _, _, h1, h2⟩ := h
 obtain ⟨c2, _, _, e2, h3⟩ := own_int h2
 obtain ⟨c3, _, _, e3, h4⟩ := own_int h3
 obtain ⟨c4, _, _, e4, h5⟩ := own_int h4
 have e5 : c4 = [] := h5
 have e6 : c1 = [.string ⟨x.1.toArray⟩] := h1.1
 exact ⟨_, by rw [e1, e2, e3, e4, e5, e6]; rfl⟩
theorem row_cells {F : NSet} {w : World} {τ : Ty} {v : Value} {xs : List τ.den} (hF : ∀ b, F b -> b < w.heap.size) (h : OwnV F w (.slice τ) .shr none' v xs) : ∃ ao cap, v = .slice ao xs.length cap /\
  ∀ (j : Nat) (hj : j < xs.length), ∃ b off cs m S, ao = some ⟨b, off, none⟩ /\ b < w.heap.size /\ Go.Lf.Own F w τ m S cs xs[j] /\ cs.length = τ.size /\ ∀ i u, cs[i]? = some u -> w.cell? ⟨b, off + j * τ.size + i, none⟩ = some u := by
 obtain ⟨cs, rfl, ao, cap, rfl, hc1, hc2, hm⟩ := h
 refine ⟨ao, cap, rfl, fun j hj => ?_⟩
 rcases hm with he | ⟨b, off, row, T, fr, rfl, hFb, hcell, hlen, hel⟩
 ·have : xs = [] := he
  subst this;simp at hj
 ·have h := hel j xs[j] (List.getElem?_eq_getElem hj)
  refine ⟨b, off, _, _, _, rfl, hF b hFb, h, h.len, fun i u hi => ?_⟩
  unfold seg at hi;have hlt := (List.getElem?_eq_some_iff.1 hi).1;rw [List.length_take] at hlt;rw [List.getElem?_take_of_lt (by omega), List.getElem?_drop] at hi;simp only [World.cell?, hcell]
  simpa using hi
theorem ok16 : FOk Tryd.prog 16 S16 := by
 refine ⟨Tryd.call16, fun w F vs xs hg hF ha hp => ?_⟩
 obtain ⟨v0, r0, rfl, h0, v1, r1, rfl, h1, rfl⟩ := ha
 obtain ⟨(es : List Sp.Ev), (l : List Sp.Arr), ⟨⟩⟩ := xs
 obtain ⟨hn, hm⟩ : es.length <= 1000 /\ l.length <= 1000 := hp
 have f0 : dFact (.slice tEv) es := by obtain ⟨cs, rfl, h⟩ := h0; exact h.fact
 obtain ⟨ao1, cap1, rfl, c1⟩ := row_cells hF h0
 obtain ⟨ao2, cap2, rfl, c2⟩ := row_cells hF h1
 have hle : Sp.moves es l <= 1000000 := by
  rw [moves_sum];have b1 := movesTo_le es l l.length;have b2 : l.length * es.length <= 1000 * 1000 := Nat.mul_le_mul hm hn;omega
 have h0' : 0 <= Sp.moves es l := by unfold Sp.moves; omega
 refine (Tryd.moves_in ao1 ao2 cap1 cap2 es l w hn hm (fun j hj => ?_) (fun j hj => ?_) (fun p hp => ?_)).mono ?_
 ·obtain ⟨b, off, cs, m, S, e1, e2, e3, e4, e5⟩ := c1 j hj
  refine ⟨b, off, e1, e2, fun i v hi => e5 i v ?_⟩
  have e6 : cs = Tryd.evCells es[j] := ev_cells e3
  rw [e6]; exact hi
 ·obtain ⟨b, off, cs, m, S, e1, e2, e3, e4, e5⟩ := c2 j hj
  obtain ⟨v, e6⟩ := arr_cells e3;refine ⟨b, off, e1, e2, ?_⟩;have := e5 1 (.int .i64 l[j].2.1) (by rw [e6]; rfl);exact this
 ·obtain ⟨x, hx, rfl⟩ := List.mem_map.1 hp
  have hx := f0.2 x (List.mem_filter.1 hx).1
  have k1 : (-9223372036854775808 : Int) <= x.2.2.2.2.2.2.1 := hx.2.2.2.2.2.2.1.1
  have k2 : x.2.2.2.2.2.2.1 <= (9223372036854775807 : Int) := hx.2.2.2.2.2.2.1.2
  have k3 : (-9223372036854775808 : Int) <= x.2.2.2.2.2.2.2.1 := hx.2.2.2.2.2.2.2.1.1
  have k4 : x.2.2.2.2.2.2.2.1 <= (9223372036854775807 : Int) := hx.2.2.2.2.2.2.2.1.2
  dsimp only
  exact ⟨WalkArith.wf_i64 (by omega), WalkArith.wf_i64 (by omega)⟩
 ·rintro e w' ⟨rfl, hb⟩
  exact int_post hF (by show _ <= Sp.moves es l; omega) (by show Sp.moves es l <= _; omega) hb
end Go.User
namespace Go.User
open Go.Lf Go.Proofs
set_option maxRecDepth 100000 in
theorem ex1 : Sp.static (Sp.form0 1) (Sp.lanes 32 18446744073709551615) = 3 := by
 show Sp.static (Sp.form0 1) (Sp.lanes ((32 : Nat) : Int) 18446744073709551615) = 3
 rw [static0 1 _ (all_len 32 (by omega) (by omega)), max_one 32 (by omega) (by omega)]
 rfl
set_option maxRecDepth 100000 in
theorem ex2 : Sp.static (Sp.form0 2) (Sp.lanes 32 18446744073709551615) = 5 := by decide +kernel
theorem ex0 : Sp.static (Sp.form0 0) (Sp.lanes 32 18446744073709551615) = 1 := by
 show Sp.static (Sp.form0 0) (Sp.lanes ((32 : Nat) : Int) 18446744073709551615) = 1
 rw [static0 0 _ (all_len 32 (by omega) (by omega)), max_zero _ (all_len 32 (by omega) (by omega))]
 rfl
theorem ex16 : Sp.static (Sp.form0 16) (Sp.lanes 32 18446744073709551615) = 32 := by
 have h : (Sp.lanes ((32 : Nat) : Int) 18446744073709551615).length = 32 := by decide +kernel
 show Sp.static (Sp.form0 16) (Sp.lanes ((32 : Nat) : Int) 18446744073709551615) = 32
 rw [static0 16 _ (all_len 32 (by omega) (by omega)), max_far 16 _ (lanes_strict _ _) (by omega), h]
 rfl
theorem exn : Sp.static (Sp.form0 1) (Sp.lanes 32 0) = 0 := by
 have h : Sp.lanes 32 0 = [] := by decide +kernel
 rw [h]; rfl
theorem exs : Sp.segs (0 :: 15 :: 16 :: -1 :: 40 :: []) = (-1 :: 0 :: 1 :: 2 :: []) := by decide +kernel
theorem exm : Sp.moves ((1, 0, 0, 0, 0, 0, 0, 3, 0, ()) :: (2, 0, 0, 0, 0, 0, 0, 15, 0, ()) :: (1, 0, 0, 0, 0, 0, 1, 3, 0, ()) :: (3, 0, 0, 0, 0, 0, 0, 16, 0, ()) :: (4, 0, 0, 0, 0, 0, 0, 0, 0, ()) :: []) (([], 1, 0, 32, ()) :: ([], 2, 0, 4, ()) :: []) = 2 := by decide +kernel
theorem ok9 : FOk Tryd.prog 9 S9 := by
 have hC : CtxOK Tryd.prog C9 := okC (fns_cons ok14 (fns_cons ok13 (fns_cons ok16 (fns_cons ok21 (fns_cons ok11 fns_nil))))) rfl rfl rfl rfl rfl rfl rfl
 refine FOk.intro hC (stpS_ok hC) Tryd.call9 Tryd.func9 (by kernel_rfl) (by kernel_rfl) L9 (vc9.mpr ?_)
 simp only [zz, zy]
 have e1 : Sp.sameI (Sp.segs (0 :: 15 :: 16 :: -1 :: 40 :: [])) (-1 :: 0 :: 1 :: 2 :: []) = true := by rw [exs]; decide
 refine ⟨⟨by decide, by decide, by decide⟩, fun h => ?_, fun _ => ⟨⟨usable0 1 (by omega) (by omega), usable0 2 (by omega) (by omega), usable0 0 (by omega) (by omega), usable0 16 (by omega) (by omega), usable0 1 (by omega) (by omega)⟩, ⟨⟨⟨ex1, ex2⟩, ex0⟩, ex16⟩, exn⟩⟩
 rw [e1, exm] at h
 exact absurd h (by decide)
theorem usableF {x : Sp.Raw} (hx : dFact tRaw x) (any : Bool) : Sp.usable (any, Sp.fItem x, x.2.2.1, x.2.2.2.1, (x.2.2.2.2.1, Sp.fHi x, Sp.fSt x, ()), ()) := by
 obtain ⟨any', (it : Int), (lo : Int), (gr : Int), (rl : Int), (st : Int), (n : Int), great, ⟨⟩⟩ := x
 have h1 : (-32768 : Int) <= it := hx.2.1.1
 have h1' : it <= (32767 : Int) := hx.2.1.2
 have h2 : (-32768 : Int) <= lo := hx.2.2.1.1
 have h2' : lo <= (32767 : Int) := hx.2.2.1.2
 have h4 : (-2147483648 : Int) <= rl := hx.2.2.2.2.1.1
 have h4' : rl <= (2147483647 : Int) := hx.2.2.2.2.1.2
 have h5 : (0 : Int) <= st := hx.2.2.2.2.2.1.1
 have h5' : st <= (65535 : Int) := hx.2.2.2.2.2.1.2
 have h6 : (0 : Int) <= n := hx.2.2.2.2.2.2.1.1
 have hm : (st % 64 + 1) * (n % 8) <= 64 * 7 := Int.mul_le_mul (by omega) (by omega) (by omega) (by omega)
 have hm0 : 0 < n % 8 -> 1 * 1 <= (st % 64 + 1) * (n % 8) := fun h => Int.mul_le_mul (by omega) (by omega) (by omega) (by omega)
 have e1 : Sp.fItem (any', it, lo, gr, rl, st, n, great, ()) = if great then it * 16777216 else it := rfl
 have e2 : Sp.fSt (any', it, lo, gr, rl, st, n, great, ()) = if 0 < n % 8 then st % 64 + 1 else 0 := rfl
 have e3 : Sp.fHi (any', it, lo, gr, rl, st, n, great, ()) = if 0 < n % 8 then rl + Sp.fSt (any', it, lo, gr, rl, st, n, great, ()) * (n % 8) else rl := rfl
 have i1 : -2199023255552 <= Sp.fItem (any', it, lo, gr, rl, st, n, great, ()) /\ Sp.fItem (any', it, lo, gr, rl, st, n, great, ()) <= 2199023255552 := by rw [e1]; split <;> omega
 refine ⟨i1, ⟨by show _ <= lo; omega, by show lo <= _; omega⟩, ⟨by show _ <= rl; omega, by show rl <= _; omega⟩, ?_⟩
 show (-2199023255552 <= Sp.fHi (any', it, lo, gr, rl, st, n, great, ()) /\ Sp.fHi (any', it, lo, gr, rl, st, n, great, ()) <= 2199023255552) /\ rl <= Sp.fHi (any', it, lo, gr, rl, st, n, great, ()) /\ (Sp.fSt (any', it, lo, gr, rl, st, n, great, ()) = 0 ↔ rl = Sp.fHi (any', it, lo, gr, rl, st, n, great, ())) /\ 0 <= Sp.fSt (any', it, lo, gr, rl, st, n, great, ())
 rw [e3, e2]
 by_cases hn : 0 < n % 8
 ·have := hm0 hn
  rw [if_pos hn, if_pos hn];generalize (st % 64 + 1) * (n % 8) = P at *;omega
 ·rw [if_neg hn, if_neg hn]
  omega
theorem hiF {x : Sp.Raw} (hx : dFact tRaw x) : Sp.fSt x <= 64 /\ Sp.fHi x <= x.2.2.2.2.1 + 448 /\ (-2147483648 : Int) <= x.2.2.2.2.1 /\ x.2.2.2.2.1 <= (2147483647 : Int) := by
 obtain ⟨any', (it : Int), (lo : Int), (gr : Int), (rl : Int), (st : Int), (n : Int), great, ⟨⟩⟩ := x
 have h4 : (-2147483648 : Int) <= rl := hx.2.2.2.2.1.1
 have h4' : rl <= (2147483647 : Int) := hx.2.2.2.2.1.2
 have h5 : (0 : Int) <= st := hx.2.2.2.2.2.1.1
 have hm : (st % 64 + 1) * (n % 8) <= 64 * 7 := Int.mul_le_mul (by omega) (by omega) (by omega) (by omega)
 refine ⟨by show (if 0 < n % 8 then st % 64 + 1 else 0) <= 64; split <;> omega, ?_, h4, h4'⟩
 show (if 0 < n % 8 then rl + (if 0 < n % 8 then st % 64 + 1 else 0) * (n % 8) else rl) <= rl + 448
 by_cases hn : 0 < n % 8
 ·rw [if_pos hn, if_pos hn]; omega
 ·rw [if_neg hn]; omega
theorem and_bound (n : Int) (m : Nat) (hm : m < 9223372036854775808) : 0 <= IntKind.i64.wrap (↑(BitVec.ofInt 64 n &&& BitVec.ofInt 64 (m : Int)).toNat : Int) /\ IntKind.i64.wrap (↑(BitVec.ofInt 64 n &&& BitVec.ofInt 64 (m : Int)).toNat : Int) <= m := by
 have h : (BitVec.ofInt 64 n &&& BitVec.ofInt 64 (m : Int)).toNat <= m := by
  rw [BitVec.toNat_and];refine Nat.le_trans Nat.and_le_right ?_;rw [BitVec.ofInt_natCast, BitVec.toNat_ofNat, Nat.mod_eq_of_lt (by omega)];exact Nat.le_refl _
 rw [wrapI (by omega)]
 omega
theorem arrs_len (l : List Int) : (Sp.arrs l).length = min 12 l.length := by simp [Sp.arrs]
theorem ok3 : FOk Tryd.prog 3 S3 := by
 have hC : CtxOK Tryd.prog C3 := okC (fns_cons ok9 (fns_cons ok10 (fns_cons ok11 (fns_cons ok12 (fns_cons ok13 (fns_cons ok14 (fns_cons ok15 (fns_cons ok16 (fns_cons ok17 fns_nil))))))))) rfl rfl rfl rfl rfl rfl rfl
 refine FOk.intro hC (stpS_ok hC) Tryd.call3 Tryd.func3 (by kernel_rfl) (by kernel_rfl) L3 (vc3.mpr ?_)
 simp only [zz, zy]
 rintro ⟨(l : List Int), (e : List Sp.Ev), (x : Sp.Raw), ⟨⟩⟩ hx
 have hu := usableF hx.2.2 x.1
 clear hx
 dsimp only at *
 have hab : ∀ n : Int, inK .i64 (1 + IntKind.i64.wrap (↑(BitVec.ofInt 64 n &&& BitVec.ofInt 64 63).toNat : Int)) := fun n => by
  have := and_bound n 63 (by omega)
  rw [show ((63 : Nat) : Int) = 63 from rfl] at this;exact inK_mid (by omega) (by omega)
 have hal := arrs_len l
 have hsame : Sp.sameI (Sp.segs l) (Sp.segs l) = true := by simp [Sp.sameI]
 rintro ⟨h1, h2⟩
 refine ⟨⟨0, ⟨by omega, by omega⟩, rfl, rfl⟩, fun i hi _ => ⟨fun ⟨i1, i2⟩ => ⟨⟨inN_of i1, ?_⟩, inK_mid (by omega) (by omega), i + 1, ⟨by omega, by omega⟩, by omega, ?_, by omega⟩, fun hi2 => ⟨⟨0, by omega, rfl⟩, fun j hj _ => ⟨fun ⟨j1, j2⟩ => ⟨⟨inN_of j1, inN_of j1, hu, inN_of j1, inN_of j1, hu, inN_of j1, hab _, inN_of j1, hu, inN_of j1, hab _, inN_of j1, hu⟩, fun h => ?_, inK_mid (by omega) (by omega), j + 1, by omega, by omega, by omega⟩, fun hj2 => ⟨⟨by omega, by omega, fun _ => ⟨by omega, ?_⟩⟩, hsame⟩⟩⟩⟩⟩
 ·rw [maxNew_eq, List.length_take]; omega
 ·have q : i < (Sp.arrs l).length := by rw [hal]; omega
  have q2 : i < l.length := by omega
  rw [List.take_succ_eq_append_getElem q]
  congr 1
  simp only [Sp.arrs, List.getElem_map, List.getElem_take, List.getD, List.getElem?_eq_getElem q2, Option.getD_some]
  rfl
 ·simp at h
 ·rw [List.length_take]; omega
theorem ok6 : FOk Tryd.prog 6 S6 := by
 have hC : CtxOK Tryd.prog C6 := okC (fns_cons ok9 (fns_cons ok10 (fns_cons ok11 (fns_cons ok14 (fns_cons ok19 (fns_cons ok20 fns_nil)))))) rfl rfl rfl rfl rfl rfl rfl
 refine FOk.intro hC (stpS_ok hC) Tryd.call6 Tryd.func6 (by kernel_rfl) (by kernel_rfl) L6 (vc6.mpr ?_)
 simp only [zz, zy]
 rintro ⟨(x : Sp.Raw), (c : List Int), (pick : List Int), ⟨⟩⟩ hx
 have hu := usableF (x := (false, x.2)) ⟨trivial, hx.1.2⟩ false
 have hpick : ∀ p ∈ pick, (0 : Int) <= p := fun p hp => (hx.2.2.2 p hp).1
 clear hx
 dsimp only at *
 have hb := and_bound (c.getD 1 0) 63 (by omega)
 rw [show ((63 : Nat) : Int) = 63 from rfl] at hb
 have hab : inK .i64 (1 + IntKind.i64.wrap (↑(BitVec.ofInt 64 (c.getD 1 0) &&& BitVec.ofInt 64 63).toNat : Int)) := inK_mid (by omega) (by omega)
 rw [show Int.toNat 1 = 1 from rfl, show Int.toNat 2 = 2 from rfl, show Int.toNat 0 = 0 from rfl]
 generalize 1 + IntKind.i64.wrap (↑(BitVec.ofInt 64 (c.getD 1 0) &&& BitVec.ofInt 64 63).toNat : Int) = n at *
 have ht := Int.tmod_lt_of_pos (c.getD 0 0) (show (0 : Int) < 1073741824 by decide)
 have ht2 := Int.lt_tmod_of_pos (c.getD 0 0) (show (0 : Int) < 1073741824 by decide)
 generalize (c.getD 0 0).tmod 1073741824 = c0 at *
 have hok := lanes_ok n (IntKind.u64.wrap (c.getD 2 0))
 have hst := lanes_strict n (IntKind.u64.wrap (c.getD 2 0))
 generalize Sp.lanes n (IntKind.u64.wrap (c.getD 2 0)) = l at *
 generalize ((false, Sp.fItem (false, x.2), x.2.2.1, x.2.2.2.1, (x.2.2.2.2.1, Sp.fHi (false, x.2), Sp.fSt (false, x.2), ()), ()) : Sp.Form) = f at *
 have b1 := bound_ok f l c0 pick hu hst hpick
 have b2 := static_le_len f l
 have b3 : Sp.static (true, 0, 0, 0, (0, 0, 0, ()), ()) l = l.length := by unfold Sp.static; rw [if_pos (.inr rfl)]
 have hu0 : Sp.usable (true, 0, 0, 0, (0, 0, 0, ()), ()) := usable0 0 (by omega) (by omega)
 have hwl : (Sp.words f l c0 pick).length <= 1000000 := by rw [words_len]; have := hok.1; omega
 exact ⟨⟨⟨by omega, by omega⟩, hab, by omega, by omega⟩, hu, ⟨⟨by omega, by omega⟩, by decide, hu, hok, by omega, by omega⟩, ⟨hwl, fun _ => hu0⟩, ⟨b1, b2⟩, b3⟩
theorem ok8 : FOk Tryd.prog 8 S8 := by
 have hC : CtxOK Tryd.prog C8 := okC (fns_cons ok9 (fns_cons ok10 (fns_cons ok11 fns_nil))) rfl rfl rfl rfl rfl rfl rfl
 refine FOk.intro hC (stpS_ok hC) Tryd.call8 Tryd.func8 (by kernel_rfl) (by kernel_rfl) L8 (vc8.mpr ?_)
 simp only [zz, zy]
 rintro ⟨(x : Sp.Raw), (a : Int), (b : Int), ⟨⟩⟩ hx
 have hu := usableF hx.1 x.1
 have hh := hiF hx.1
 have g1 : (-32768 : Int) <= x.2.2.2.1 := hx.1.2.2.2.1.1
 have g2 : x.2.2.2.1 <= (32767 : Int) := hx.1.2.2.2.1.2
 have a1 : (0 : Int) <= a := hx.2.1.1
 have a2 : a <= (18446744073709551615 : Int) := hx.2.1.2
 have b1 : (0 : Int) <= b := hx.2.2.1
 have b2 : b <= (18446744073709551615 : Int) := hx.2.2.2
 clear hx
 dsimp only at *
 obtain ⟨any, (it : Int), (lo : Int), (gr : Int), (rl : Int), (st0 : Int), (n : Int), great, ⟨⟩⟩ := x
 dsimp only at *
 generalize Sp.fItem (any, it, lo, gr, rl, st0, n, great, ()) = item at *
 generalize Sp.fHi (any, it, lo, gr, rl, st0, n, great, ()) = hi at *
 generalize Sp.fSt (any, it, lo, gr, rl, st0, n, great, ()) = st at *
 obtain ⟨⟨u1, u2⟩, ⟨u3, u4⟩, ⟨u5, u6⟩, ⟨u7, u8⟩, u9, u10, u11⟩ := id hu
 simp only [Sp.loOf, Sp.hiOf, Sp.stOf] at u5 u6 u7 u8 u9 u10 u11
 have e1 : Sp.lanes 64 (IntKind.u64.wrap (↑(BitVec.ofInt 64 a &&& BitVec.ofInt 64 b).toNat : Int)) = Sp.lanes 64 ((a.toNat &&& b.toNat : Nat) : Int) := by
  have h1 := andU a.toNat b.toNat (by omega) (by omega)
  rw [show ((a.toNat : Nat) : Int) = a by omega, show ((b.toNat : Nat) : Int) = b by omega] at h1
  have h2 : a.toNat &&& b.toNat <= a.toNat := Nat.and_le_left
  rw [h1, wrapU (by omega)]
 rw [e1]
 have m1 : Sp.static (any, item, lo, gr, (rl, hi, st, ()), ()) (Sp.lanes 64 ((a.toNat &&& b.toNat : Nat) : Int)) <= Sp.static (any, item, lo, gr, (rl, hi, st, ()), ()) (Sp.lanes 64 a) :=
  static_mono _ hu (lanes_strict _ _) (lanes_strict _ _) (lanes_sub fun i _ h => by
   rw [Int.toNat_natCast, Nat.testBit_and] at h;simp at h;exact h.1)
 have m2 : Sp.static (any, item, lo, gr, (rl, hi, st, ()), ()) (Sp.lanes 20 a) <= Sp.static (any, item, lo, gr, (rl, hi, st, ()), ()) (Sp.lanes 64 a) :=
  static_mono _ hu (lanes_strict _ _) (lanes_strict _ _) (lanes_less (by omega))
 have m3 : Sp.static (any, item, lo, 7 - gr, (rl + 5, hi + 5, st, ()), ()) (Sp.lanes 64 a) = Sp.static (any, item, lo, gr, (rl, hi, st, ()), ()) (Sp.lanes 64 a) := by
  unfold Sp.static Sp.wide Sp.loOf Sp.hiOf Sp.sOf
  dsimp only
  have : Sp.absI (item + lo) * (Sp.lastI (Sp.lanes 64 a) - (Sp.lanes 64 a).getD 0 0) + (hi + 5) - (rl + 5) - 1 = Sp.absI (item + lo) * (Sp.lastI (Sp.lanes 64 a) - (Sp.lanes 64 a).getD 0 0) + hi - rl - 1 := by omega
  rw [this];by_cases he : rl = hi
  ·rw [if_pos he, if_pos (show rl + 5 = hi + 5 by omega)]
  ·rw [if_neg he, if_neg (show ¬ rl + 5 = hi + 5 by omega)]
 have hu2 : Sp.usable (any, item, lo, 7 - gr, (rl + 5, hi + 5, st, ()), ()) :=
  ⟨⟨u1, u2⟩, ⟨u3, u4⟩, ⟨by show _ <= rl + 5; omega, by show rl + 5 <= _; omega⟩, ⟨by show _ <= hi + 5; omega, by show hi + 5 <= _; omega⟩, by show rl + 5 <= hi + 5; omega, by show st = 0 ↔ rl + 5 = hi + 5; omega, u11⟩
 have hu3 : 0 < st -> rl < hi - st -> Sp.usable (any, item, lo, gr, (rl, hi - st, st, ()), ()) := fun h1 h2 =>
  ⟨⟨u1, u2⟩, ⟨u3, u4⟩, ⟨u5, u6⟩, ⟨by show _ <= hi - st; omega, by show hi - st <= _; omega⟩, by show rl <= hi - st; omega, by show st = 0 ↔ rl = hi - st; omega, u11⟩
 have m4 : 0 < st -> rl < hi - st -> Sp.static (any, item, lo, gr, (rl, hi - st, st, ()), ()) (Sp.lanes 64 a) <= Sp.static (any, item, lo, gr, (rl, hi, st, ()), ()) (Sp.lanes 64 a) := fun h1 h2 => by
  unfold Sp.static Sp.wide Sp.loOf Sp.hiOf Sp.sOf
  dsimp only
  rw [if_neg (show ¬ rl = hi - st by omega), if_neg (show ¬ rl = hi by omega)]
  generalize Sp.absI (item + lo) * (Sp.lastI (Sp.lanes 64 a) - (Sp.lanes 64 a).getD 0 0) = P
  split <;> omega
 refine ⟨hu, inK_mid (by omega) (by omega), inK_of (by omega) (by omega), inK_of (by omega) (by omega), fun _ => inK_of (by omega) (by omega), fun ⟨h1, h2⟩ => ⟨inK_of (by omega) (by omega), ⟨hu, fun _ => hu2, fun _ => hu3 h1 h2, fun _ => hu⟩, ⟨⟨m1, m3⟩, m4 h1 h2⟩, m2⟩, fun _ => ⟨⟨hu, fun _ => hu2, fun _ => hu, fun _ => hu⟩, ?_⟩⟩
 exact ⟨⟨⟨m1, m3⟩, Int.le_refl _⟩, m2⟩
theorem ok7 : FOk Tryd.prog 7 S7 := by
 have hC : CtxOK Tryd.prog C7 := okC (fns_cons ok9 (fns_cons ok21 (fns_cons ok11 (fns_cons ok14 (fns_cons ok19 (fns_cons ok20 fns_nil)))))) rfl rfl rfl rfl rfl rfl rfl
 refine FOk.intro hC (stpS_ok hC) Tryd.call7 Tryd.func7 (by kernel_rfl) (by kernel_rfl) L7 (vc7.mpr ?_)
 simp only [zz, zy]
 rintro ⟨(s0 : Int), (n0 : Int), (a : Int), ⟨⟩⟩ hx
 have n1 : (0 : Int) <= n0 := hx.2.1.1
 clear hx
 dsimp only at *
 have ht := Int.tmod_lt_of_pos s0 (show (0 : Int) < 1099511627776 by decide)
 have ht2 := Int.lt_tmod_of_pos s0 (show (0 : Int) < 1099511627776 by decide)
 generalize s0.tmod 1099511627776 = s at *
 obtain ⟨n, hn⟩ : ∃ n : Nat, (n : Int) = 1 + n0 % 64 := ⟨(1 + n0 % 64).toNat, by omega⟩
 rw [<- hn]
 have hn64 : n <= 64 := by omega
 have hn0 : 0 < n := by omega
 have hus := usable0 s (by omega) (by omega)
 have hu0 := usable0 0 (by omega) (by omega)
 have hu1 := usable0 1 (by omega) (by omega)
 have hum := usable0 (-1) (by omega) (by omega)
 have et : ((n : Int) + 30).tdiv 16 = ((n : Int) + 30) / 16 := Int.tdiv_eq_ediv_of_nonneg (by omega)
 rw [et]
 have f1 : Sp.static (Sp.form0 1) (Sp.lanes n 18446744073709551615) = ((n : Int) + 30) / 16 := by rw [static0 1 _ (all_len n hn64 hn0), max_one n hn64 hn0]
 have fm : Sp.static (Sp.form0 (-1)) (Sp.lanes n 18446744073709551615) = ((n : Int) + 30) / 16 := by rw [static0 (-1) _ (all_len n hn64 hn0), max_minus n hn64 hn0]
 have hok := lanes_ok n a
 have hst := lanes_strict n a
 generalize Sp.lanes n a = l at *
 refine ⟨by decide, ⟨by decide, inK_mid (by omega) (by omega)⟩, fun h => ⟨hus, ?_⟩, fun h => ?_⟩
 ·unfold Sp.static
  rw [if_pos (.inl (by omega))]; omega
 ·have hl0 : l.length ≠ 0 := by omega
  have hs := static0 s l hl0
  have h0 : Sp.static (Sp.form0 0) l = 1 := by rw [static0 0 l hl0, max_zero l hl0]; rfl
  have hw : ∀ c : Nat, Sp.segs (Sp.words (Sp.form0 s) l (c : Int) []) = Sp.segsAt s c l := fun c => segs_words0 s l c []
  have hwl : ∀ c : Int, (Sp.words (Sp.form0 s) l c []).length <= 1000000 := fun c => by rw [words_len]; have := hok.1; omega
  refine ⟨hus, ⟨0, by omega, rfl, rfl⟩, fun c hc _ => ⟨fun hc2 => ⟨⟨⟨hus, hok, by omega, by omega⟩, hwl _⟩, inK_mid (by omega) (by omega), c + 1, by omega, by omega, ?_, by omega⟩, fun hc2 => ⟨fun hb => ?_, fun _ => ⟨⟨hu0, fun _ => hu1, fun _ => inK_mid (by omega) (by omega), fun _ => ⟨by decide, inK_mid (by omega) (by omega)⟩, fun _ => hum, fun _ => inK_mid (by omega) (by omega), fun _ => ⟨by decide, inK_mid (by omega) (by omega)⟩⟩, ⟨h0, f1⟩, fm⟩⟩⟩⟩
  ·rw [hw]
   show _ = ((max (Sp.maxSegs s l c) (Sp.segsAt s c l).length : Nat) : Int)
   omega
  ·obtain rfl : c = 16 := by omega
   rw [hs] at hb;by_cases hf : 16 <= s ∨ s <= -16
   ·rw [max_far s l hst hf] at hb
    simp at hb
   ·simp at hb
    omega
end Go.User
namespace Go.Proofs.YtghhmompjooecaaDoor
open Go.ChangeShapes Go.WideShapes Go.ChangeAt Go.RowKit Go.Proofs Go.Lf

set_option maxRecDepth 100000 in
theorem coalesceFewer_lifted (hF : FOk Tryd.prog 8 Go.User.S8) (os : Os) (started : os.Started) (H : Type) (enc : TypeId × Value -> H) :
  ReturnsInHanded {} Tryd.checked os 8 .any (fun w args => (Rows.coalesceFewerSpec.pre enc Tryd.prog Tryd.f8 [] false w args /\ laidMetH Tryd.prog Tryd.laid w) /\ sizedMet enc Tryd.prog Tryd.f8 (OpenSpec.ofChange Rows.coalesceFewerSpec) false w args) (Rows.coalesceFewerSpec.post enc Tryd.prog Tryd.f8 false true false false) := by
 refine returnsInHanded_of_change_and (C := Tryd.checked) (X := fun w _ => laidMetH Tryd.prog Tryd.laid w) (fun _ _ _ hh h => h.of_heap hh) Tryd.own started (by kernel_rfl) Tryd.func8
  (ChangeSpec.witness_shaped (enc := enc) (C := Tryd.checked) (os := os) (X := fun w _ => laidMetH Tryd.prog Tryd.laid w) false (World.doorLaid Tryd.prog 400 os) #[.agg #[.bool false, .int .i16 0, .int .i16 0, .int .i16 0, .int .i32 0, .int .u16 0, .int .u16 0, .bool false], .int .u64 0, .int .u64 0] 8 rfl (World.shaped_of_RefB (by kernel_rfl) (by kernel_rfl)) (by kernel_rfl) (by kernel_rfl) (by kernel_rfl) (Tryd.door_met os _)) ?_
 intro W base args ds gs before hval0 hW _ hsz0 hL _
 have hsz : (DataW.weightsEach Tryd.prog (Tryd.f8.params.toList ++ Rows.coalesceFewerSpec.plain.varTypes Tryd.prog) (ds ++ gs)).all (· <= reachBytes) = true := hsz0
 clear hsz0
 have hG := Tryd.glb hL
 have hval : ∀ (j : Nat) t v, Tryd.f8.params[j]? = some t -> args[j]? = some v -> Value.okWide Tryd.prog W .any base t v := hval0
 have hW' := hW
 obtain ⟨p, q, hA0, hV, rfl, _, _⟩ := hW
 have hA : DataW.TrodAll enc Tryd.prog W 0 (fun _ => true) true Tryd.f8.params.toList args.toList ds p := hA0
 rw [Tryd.params8] at hA hval hsz
 obtain ⟨v0, v1, v2, d0, d1, d2, p0, p1, p2, rfl, rfl, rfl, h0, h1, h2⟩ := trodAll_three hA
 obtain ⟨rfl, rfl⟩ := trodVars_none hV
 clear hA0 hval0
 simp only [List.append_nil, List.append_assoc] at hW'
 have hlt0 : ∀ x ∈ p0, x.block < W.heap.size := fun x hx => hW'.lt x (by simp [hx])
 have hlt1 : ∀ x ∈ p1, x.block < W.heap.size := fun x hx => hW'.lt x (by simp [hx])
 have hlt2 : ∀ x ∈ p2, x.block < W.heap.size := fun x hx => hW'.lt x (by simp [hx])
 obtain ⟨x0, hx0⟩ := arg_of (τ := Go.User.tRaw) (by kernel_rfl) (hval 0 27 v0 rfl rfl) h0 hlt0 (sz_of hsz (j := 0) rfl rfl)
 obtain ⟨x1, hx1⟩ := arg_of (τ := .int .u64) (by kernel_rfl) (hval 1 38 v1 rfl rfl) h1 hlt1 (sz_of hsz (j := 1) rfl rfl)
 obtain ⟨x2, hx2⟩ := arg_of (τ := .int .u64) (by kernel_rfl) (hval 2 38 v2 rfl rfl) h2 hlt2 (sz_of hsz (j := 2) rfl rfl)
 have hcall := hF.2 W (fun b => b < W.heap.size) [v0, v1, v2] (x0, x1, x2, ()) hG (fun b h => h) ⟨v0, [v1, v2], rfl, hx0, v1, [v2], rfl, hx1, v2, [], rfl, hx2, rfl⟩ trivial
 refine hcall.mono ?_
 rintro e W' ⟨v, F', S', rfl, hb, _, _, _, _, hv⟩
 have hv : OwnV F' W' .bool .shr S' v true := hv
 have := hv.bool_eq
 subst this
 have hargs0 := Below.trod Tryd.laidOut (by kernel_rfl) (of_decide_eq_true (by kernel_rfl)) h0 hb hlt0
 have hargs1 := Below.trod Tryd.laidOut (by kernel_rfl) (of_decide_eq_true (by kernel_rfl)) h1 hb hlt1
 have hargs2 := Below.trod Tryd.laidOut (by kernel_rfl) (of_decide_eq_true (by kernel_rfl)) h2 hb hlt2
 refine ⟨_, rfl, _, _, _, [], p0 ++ (p1 ++ p2), [], hW', ?_, trodAll_mk3 hargs0 hargs1 hargs2, rfl, hb.frame _, fun h => by cases h⟩
 exact trodAll_mk1 (shut_bool Tryd.underlying4 true)

theorem coalesceFewer_row : Rows.CoalesceFewerSaid :=
 OpenClaim.holds_of_wide 8 Tryd.f8 rfl rfl rfl rfl rfl rfl rfl ⟨rfl, rfl, rfl, rfl, rfl⟩ rfl rfl rfl rfl rfl (by kernel_rfl) Tryd.func8 (by kernel_rfl)
  (of_decide_eq_true (by kernel_rfl)) (by unfold Func.isWrapper; first | (rw [if_pos (by decide +kernel)]; kernel_rfl) | (rw [if_neg (by decide +kernel)]; exact ⟨rfl, rfl⟩))
  (fun os started H enc _ => coalesceFewer_lifted Go.User.ok8 os started H enc)
theorem coalesceFewer_holds : Rows.CoalesceFewerCardSaid :=
 Claim7.holds_tied_plain_at .later [] [.data] true (true, "d5983a9aa6b571c4b2995309dc6bd9fb9601bb370d8130d876cb1f606cecb1f5") false
  coalesceFewer_row (fun _ h => by cases h) (by kernel_rfl) (fun _ h => by cases h) coalesceFewer_row_tie rfl ⟨rfl, rfl⟩ (by kernel_rfl) rfl
  (fun f fn hf hfn => by
   obtain rfl : f = 8 := Option.some.inj ((show Tryd.prog.funcNamed "warpwright/warpwrightlaw22.CoalesceFewer" = some 8 by kernel_rfl).symm.trans hf) |>.symm
   obtain rfl : fn = Tryd.f8 := (Option.some.inj (Tryd.func8.symm.trans hfn)).symm
   exact ⟨by kernel_rfl, fun j t ht => by
    rw [Tryd.params8] at ht;have hm : t ∈ [27, 38, 38] := by simpa using Array.mem_of_getElem? ht
    have hall : ([27, 38, 38].all fun u => !Tryd.prog.wantsStandIn u) = true := by kernel_rfl
    exact (show Tryd.prog.wantsStandIn t = false by simpa using List.all_eq_true.1 hall t hm)⟩)
  (by kernel_rfl)
end Go.Proofs.YtghhmompjooecaaDoor
