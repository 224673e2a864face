/- Graphs of states: as they should be. ViewOutcomes, ViewMatchesReference: what is computed. Runs of the machine of views: the order of execution, who has read what: what each step keeps. Runs of the machine of views: coherence of what is read, by what happens before: kept by each step. ViewCoheres: what is computed. The graph of a run: plain facts. Taken over from another seat by conv.py: what is computed. Written by gen.py: what is left to show of each function. -/
import Derived.Test.YthhclebbpbkgdaaLfl
set_option linter.unusedVariables false
set_option linter.unusedSimpArgs false
namespace Go.User
open Go.Lf Go.Proofs
set_option maxRecDepth 100000 in
theorem ok52 : FOk Try.prog 52 S52 := by
 have hC : aJ Try.prog C52 := okC (aG ok26c (aG ok83 fns_nil)) rfl rfl rfl rfl rfl rfl rfl
 refine FOk.intro hC (aW hC) Try.call52 Try.func52 (by kernel_rfl) (by kernel_rfl) L52 (vc52.mpr ?_)
 simp only [zz, zy]
 rintro ⟨s, u⟩ hs hx
 have hs : Sp.OkS s := hs
 clear hx
 have htot := hs.tot
 have hfew := hs.few
 have hrl := hs.rl
 have hfrl := hs.frl
 have hfol := hs.fol
 have hmeml := hs.meml
 have hmem := hs.mem
 have hmx : aN = 2147483648 := rfl
 dsimp only
 refine ⟨hs, fun h0 => ?_, fun h0 => ⟨⟨by omega, by omega⟩, ⟨0, Nat.zero_le _, rfl, rfl⟩, fun c hc _ => ⟨fun hlt => ⟨inN_of hlt, ⟨0, Nat.zero_le _, rfl, ?_⟩, fun i hi _ => ?_⟩, fun hge => ?_⟩⟩⟩
 ·have h0 : ¬ Sp.aE s = [] := fun h => h0 (by rw [h]; rfl)
  unfold Sp.grA Sp.grE;rw [if_neg h0, if_neg h0]; rfl
 ·show _ = (Sp.evN s.1 (Sp.rsOf s) c ++ [], Sp.frmOf s, [], Sp.foOf s, ())
  rw [List.append_nil]
 ·have hlt : (c : Int) < (s.1.1.length : Int) := hlt
  have hcl : c < s.1.1.length := by omega
  have hin : inN (c : Int) s.1.1.length := inN_of hlt
  have hel := Sp.evN_len s.1 (Sp.rsOf s) c hc
  have hkl := Sp.evK_len s.1 (Sp.rsOf s) c i
  have hts := Sp.total_takeS hcl
  have htle := Sp.bR s.1.1 (c + 1)
  have hll : (Sp.evN s.1 (Sp.rsOf s) c ++ Sp.evK s.1 (Sp.rsOf s) c i).length = Sp.aB (s.1.1.take c) + i := by rw [List.length_append, hel, hkl]
  refine ⟨fun hl => ?_, fun hg => ⟨bE (by omega) (by omega), c + 1, by omega, by omega, by omega, ?_⟩⟩
  ·have hl : (i : Int) < (((s.1.1.getD c []).length : Nat) : Int) := hl
   rw [hll];refine ⟨inN_of hl, ⟨⟨by omega, by omega⟩, by omega⟩, bE (by omega) (by omega), i + 1, by omega, by omega, by omega, ?_⟩
   rw [Sp.evK_succ, List.append_assoc]; rfl
  ·have hg : (((s.1.1.getD c []).length : Nat) : Int) <= (i : Int) := hg
   have hi : i <= (s.1.1.getD c []).length := hi
   have e : i = (s.1.1.getD c []).length := by omega
   rw [e, Sp.evN_succ]
 ·have hge : (s.1.1.length : Int) <= (c : Int) := hge
  have hc : c = s.1.1.length := by omega
  subst hc;refine ⟨⟨0, by omega, rfl, rfl⟩, fun n hn _ => ⟨fun hl => ?_, fun hg => ?_⟩⟩
  ·have hl : (n : Int) < 3 := hl
   obtain ⟨m1, m2⟩ := hmem n (by omega);have hw : win 1 ((Sp.aC s n).length : Int) (Sp.aC s n) = (Sp.aC s n).drop 1 := Pl.win_drop (i := 1);have hwl : ((Sp.aC s n).drop 1).length = (Sp.aC s n).length - 1 := List.length_drop;have hnl := Sp.moN_len s n;have hw : win 1 (((s.2.2.1.getD n []).length : Nat) : Int) (s.2.2.1.getD n []) = (Sp.aC s n).drop 1 := hw;have m1' : 1 <= (s.2.2.1.getD n []).length := m1;rw [hw];refine ⟨⟨by omega, hl⟩, ⟨by omega, by omega, by omega⟩, ⟨0, by omega, rfl, rfl⟩, fun k hk _ => ⟨fun hkk => ?_, fun hkk => ?_⟩⟩
   ·have hkl := Sp.moK_len (Sp.aC s n) k
    have hkk : (k : Int) < ((((Sp.aC s n).drop 1).length : Nat) : Int) := hkk
    refine ⟨inN_of hkk, by omega, bE (by omega) (by omega), k + 1, by omega, by omega, by omega, ?_⟩
    rw [<- Sp.moK_succ (by omega)]
    congr 1
    rw [List.getD_eq_getElem?_getD, List.getElem?_drop, Nat.add_comm 1 k, <- List.getD_eq_getElem?_getD]; rfl
   ·have hkk : ((((Sp.aC s n).drop 1).length : Nat) : Int) <= (k : Int) := hkk
    refine ⟨by omega, bE (by omega) (by omega), n + 1, by omega, by omega, by omega, ?_⟩
    rw [Sp.moN_succ, show (Sp.aC s n).length - 1 = k from by omega]
  ·have hg : (3 : Int) <= (n : Int) := hg
   have hn : n = 3 := by omega
   subst hn;have h0 : Sp.aE s = [] := List.eq_nil_of_length_eq_zero (by omega);unfold Sp.grA Sp.grE;rw [if_pos h0, if_pos h0]; rfl
theorem ok27 : FOk Try.prog 27 S27 := by
 have hC : aJ Try.prog C27 := okC (aG ok52 fns_nil) rfl rfl rfl rfl rfl rfl rfl
 refine FOk.intro hC (aW hC) Try.call27 Try.func27 (by kernel_rfl) (by kernel_rfl) L27 (vc27.mpr ?_)
 simp only [zz, zy]
 rintro ⟨s, u⟩ hs hx
 exact ⟨hs, rfl⟩
end Go.User
namespace Go.User
open Go.Lf
end Go.User
namespace Sp
open Relation Cx
def wrP (o : LOp) : Prop := o.1 = 2 ∨ o.1 = 3
def rdP (o : LOp) : Prop := o.1 = 1 ∨ o.1 = 3
instance (o : LOp) : Decidable (wrP o) := inferInstanceAs (Decidable (_ ∨ _))
instance (o : LOp) : Decidable (rdP o) := inferInstanceAs (Decidable (_ ∨ _))
def frO (s : VSt) (e : Int) : Int := (frmOf s).getD e.toNat 0
def pos (s : VSt) (p : Nat) (e : Int) : Int := plc (aC s p) e
def xE (t : Lit) (e : Int) : Nat := (opE t e).2.1.toNat
def lowO (s : VSt) (e : Int) : Int := if wrP (opE s.1 e) then e else frO s e
def pl (s : VSt) (e : Int) : Int := pos s (xE s.1 e) (lowO s e)
structure SF (s : VSt) (x : Cho) (F : Nat -> Int -> Int) : Prop where
 le : ∀ p q r, q <= r -> F p q <= F p r
 lt : ∀ p q r, q < r -> F p q < F p r
 nn : ∀ p q, 0 <= q -> 0 <= F p q
 ps : ∀ p, p < 3 -> ∀ e, e ≠ evt s x.1 -> pos (next s x) p e = F p (pos s p e)
 gt : ∀ p, p < 3 -> ∀ q, 0 <= q -> q < ((aC s p).length : Int) -> (aC (next s x) p).getD (F p q).toNat msg0 = (aC s p).getD q.toNat msg0
 vw : ∀ k p, k < s.1.1.length -> p < 3 -> F p (plV s k p) <= plV (next s x) k p
 fe : ∀ p, p < 3 -> F p (plF s p) <= plF (next s x) p
 fen : (opX s x).1 = 4 -> ∀ p, p < 3 -> F p (plF s p) <= plV (next s x) (ofC x) p /\ F p (plV s (ofC x) p) <= plF (next s x) p
 rd : rdP (opX s x) -> frO (next s x) (evt s x.1) = (msgX s x).1 /\ rOf (next s x) (evt s x.1) = (msgX s x).2.1 /\ pos (next s x) (plX s x) (msgX s x).1 = x.2.1 /\ (aC (next s x) (plX s x)).getD x.2.1.toNat msg0 = msgX s x
 low : ¬ (opX s x).1 = 4 -> F (plX s x) (plV s (ofC x) (plX s x)) <= x.2.1
 wr : wrP (opX s x) -> pos (next s x) (plX s x) (evt s x.1) = x.2.1 + 1 /\ plV (next s x) (ofC x) (plX s x) = x.2.1 + 1
 ld : (opX s x).1 = 1 -> plV (next s x) (ofC x) (plX s x) = x.2.1
 no : ¬ rdP (opX s x) -> frO (next s x) (evt s x.1) = frO s (evt s x.1) /\ rOf (next s x) (evt s x.1) = rOf s (evt s x.1)
theorem msgX_mem {s : VSt} {x : Cho} (N : NX s x) (h4 : (opX s x).1 ≠ 4) : msgX s x ∈ aC s (plX s x) := Pl.bK (N.wlt h4).1 _
theorem Fine.sf {s : VSt} (f : Fine s) {x : Cho} (hx : x ∈ aE s) : ∃ F, SF s x F := by
 have N := f.nx hx
 have h := f.good.ok
 have hlt := N.xf.lt
 have hev := N.evt
 have hpc0 := N.xf.pc0
 have hpc1 := N.xf.pc1
 have hetot : evt s x.1 < (aB s.1.1 : Int) := by
  rw [hev];exact bas_lt hlt (by unfold bJ at hpc1; omega)
 have he0 : 0 <= evt s x.1 := by have := bas_nn s.1 (ofC x); omega
 have hrl := h.rl
 have hfrl := h.frl
 have hset : ∀ (l : List Int) (v : Int), l.length = aB s.1.1 -> (l.set (evt s x.1).toNat v).getD (evt s x.1).toNat 0 = v := by
  intro l v hl;rw [Pl.bY _ (by omega), if_pos rfl]
 have hfr13 : rdP (opX s x) -> frO (Sp.next s x) (evt s x.1) = (msgX s x).1 := by
  intro hr;show (nFr s x).getD _ 0 = _;unfold nFr;rw [if_neg (by unfold rdP at hr; omega)];exact hset _ _ hfrl
 have hfrno : ¬ rdP (opX s x) -> frO (Sp.next s x) (evt s x.1) = frO s (evt s x.1) := by
  intro hr;show (nFr s x).getD _ 0 = _;unfold nFr;rw [if_pos (by have := N.kind; unfold rdP at hr; omega)]; rfl
 have hrf13 : rdP (opX s x) -> rOf (Sp.next s x) (evt s x.1) = (msgX s x).2.1 := by
  intro hr;show (nR s x).getD _ 0 = _;unfold nR;rw [if_neg (by unfold rdP at hr; omega)];exact hset _ _ hrl
 have hrfno : ¬ rdP (opX s x) -> rOf (Sp.next s x) (evt s x.1) = rOf s (evt s x.1) := by
  intro hr;show (nR s x).getD _ 0 = _;unfold nR;rw [if_pos (by have := N.kind; unfold rdP at hr; omega)]; rfl
 have hplat : (opX s x).1 ≠ 4 -> plc (aC s (plX s x)) (msgX s x).1 = x.2.1 := by
  intro h4;obtain ⟨w1, w2, w3⟩ := N.wlt h4;have := plc_at (f.nd _ N.p3) w1 (e := (msgX s x).1) rfl;omega
 rcases N.kind with k | k | k | k
 ·obtain ⟨l1, l2, l3, l4⟩ := N.lod k
  obtain ⟨w1, w2, w3⟩ := N.wlt (by omega);refine ⟨fun _ q => q, ?_⟩
  constructor
  ·intro p q r h; exact h
  ·intro p q r h; exact h
  ·intro p q h; exact h
  ·intro p hp e he; unfold pos; rw [l1 p hp]
  ·intro p hp q h0 h1; rw [l1 p hp]
  ·intro k' p hk hp
   rw [l2 k' p hk hp];split
   ·rename_i hh; obtain ⟨rfl, rfl⟩ := hh; exact w3
   ·exact Int.le_refl _
  ·intro p hp; rw [l3 p hp]; exact Int.le_refl _
  ·intro h4; omega
  ·intro hr
   refine ⟨hfr13 hr, hrf13 hr, ?_, ?_⟩
   ·unfold pos; rw [l1 _ N.p3]; exact hplat (by omega)
   ·rw [l1 _ N.p3]; rfl
  ·intro _; exact w3
  ·intro hw; unfold wrP at hw; omega
  ·intro _; rw [l2 _ _ hlt N.p3, if_pos ⟨rfl, rfl⟩]
  ·intro hr; exact ⟨hfrno hr, hrfno hr⟩
 all_goals first
  | (
    have kk : (opX s x).1 = 2 ∨ (opX s x).1 = 3 := by omega
    obtain ⟨l1, l2, l3, l4⟩ := N.wri kk;obtain ⟨w1, w2, w3⟩ := N.wlt (by omega);have hne := N.new;rw [newM_e] at hne;refine ⟨fun p q => if p = plX s x then sh x.2.1.toNat q else q, ?_⟩
    have hme : (msgX s x).1 ≠ evt s x.1 := fun e => hne (e ▸ List.mem_map_of_mem (msgX_mem N (by omega)))
    have hps : ∀ p, p < 3 -> ∀ e, e ≠ evt s x.1 -> pos (Sp.next s x) p e = if p = plX s x then sh x.2.1.toNat (pos s p e) else pos s p e := by
     intro p hp e he;unfold pos;rw [l1 p hp];by_cases hpp : p = plX s x
     ·subst hpp
      rw [if_pos rfl, if_pos rfl, plc_ins (f.nd _ N.p3) w1 N.new, newM_e, if_neg he]
     ·rw [if_neg hpp, if_neg hpp]
    constructor
    ·intro p q r h
     show (if p = plX s x then sh _ q else q) <= (if p = plX s x then sh _ r else r)
     split
     ·exact sh_mono h
     ·exact h
    ·intro p q r h
     show (if p = plX s x then sh _ q else q) < (if p = plX s x then sh _ r else r)
     split
     ·exact sh_lt h
     ·exact h
    ·intro p q h
     show 0 <= (if p = plX s x then sh _ q else q)
     split
     ·unfold sh; split <;> omega
     ·exact h
    ·exact hps
    ·intro p hp q h0 h1
     show (aC (Sp.next s x) p).getD (if p = plX s x then sh _ q else q).toNat msg0 = _
     rw [l1 p hp];by_cases hpp : p = plX s x
     ·subst hpp
      rw [if_pos rfl, if_pos rfl, insM_get w1];unfold sh;by_cases hq : q <= ((x.2.1.toNat : Nat) : Int)
      ·rw [if_pos hq, if_pos (by omega)]
      ·rw [if_neg hq, if_neg (by omega), if_neg (by omega), show (q + 1).toNat - 1 = q.toNat from by omega]
     ·rw [if_neg hpp, if_neg hpp]
    ·intro k' p hk hp
     show (if p = plX s x then sh _ (plV s k' p) else plV s k' p) <= _
     rw [l2 k' p hk hp];by_cases hpp : p = plX s x
     ·rw [if_pos hpp, if_pos hpp]
      by_cases hc : k' = ofC x
      ·rw [if_pos hc]
       subst hc; subst hpp;unfold sh; split <;> omega
      ·rw [if_neg hc]; exact Int.le_refl _
     ·rw [if_neg hpp, if_neg hpp]; exact Int.le_refl _
    ·intro p hp
     show (if p = plX s x then sh _ (plF s p) else plF s p) <= _
     rw [l3 p hp]; exact Int.le_refl _
    ·intro h4; omega
    ·intro hr
     refine ⟨hfr13 hr, hrf13 hr, ?_, ?_⟩
     ·rw [hps _ N.p3 _ hme, if_pos rfl]
      unfold pos;rw [hplat (by omega)];unfold sh; rw [if_pos (by omega)]
     ·rw [l1 _ N.p3, if_pos rfl, insM_get w1, if_pos (Nat.le_refl _)]; rfl
    ·intro _
     show (if plX s x = plX s x then sh _ (plV s (ofC x) (plX s x)) else _) <= _
     rw [if_pos rfl]; unfold sh; rw [if_pos (by omega)]; exact w3
    ·intro _
     refine ⟨?_, by rw [l2 _ _ hlt N.p3, if_pos rfl, if_pos rfl]⟩
     unfold pos;rw [l1 _ N.p3, if_pos rfl, plc_ins (f.nd _ N.p3) w1 N.new, newM_e, if_pos rfl]; omega
    ·intro h1; omega
    ·intro hr; exact ⟨hfrno hr, hrfno hr⟩)
  | skip
 have kk : (opX s x).1 = 4 := by omega
 obtain ⟨l1, l2, l3, l4⟩ := N.fen kk
 refine ⟨fun _ q => q, ?_⟩
 constructor
 ·intro p q r h; exact h
 ·intro p q r h; exact h
 ·intro p q h; exact h
 ·intro p hp e he; unfold pos; rw [l1 p hp]
 ·intro p hp q h0 h1; rw [l1 p hp]
 ·intro k' p hk hp
  rw [l2 k' p hk hp];split
  ·rename_i hh; subst hh; exact Int.le_max_left _ _
  ·exact Int.le_refl _
 ·intro p hp; rw [l3 p hp]; exact Int.le_max_right _ _
 ·intro _ p hp
  rw [l3 p hp, l2 _ _ hlt hp, if_pos rfl];exact ⟨Int.le_max_right _ _, Int.le_max_left _ _⟩
 ·intro hr; unfold rdP at hr; omega
 ·intro h4; omega
 ·intro hw; unfold wrP at hw; omega
 ·intro h1; omega
 ·intro hr; exact ⟨hfrno hr, hrfno hr⟩
end Sp
namespace Sp
open Relation Cx
def msgOK (s : VSt) (p i : Nat) : Prop :=
 ((aC s p).getD (i + 1) msg0).2.2.1 = decide ((opE s.1 ((aC s p).getD (i + 1) msg0).1).1 = 3) /\
 ((aC s p).getD (i + 1) msg0).2.1 = if (opE s.1 ((aC s p).getD (i + 1) msg0).1).1 = 3 then ((aC s p).getD i msg0).2.1 + (opE s.1 ((aC s p).getD (i + 1) msg0).1).2.2.1 else (opE s.1 ((aC s p).getD (i + 1) msg0).1).2.2.1
structure RunI (s : VSt) (X : List Int) : Prop where
 nod : X.Nodup
 xs : ∀ e, e ∈ X ↔ ∃ c j : Nat, c < s.1.1.length /\ (j : Int) < bA s c /\ e = bas s.1 c + j
 po : ∀ a b, a ∈ X -> b ∈ X -> coE s.1 a = coE s.1 b -> a < b -> [a, b].Sublist X
 mo : ∀ p, p < 3 -> ∀ m ∈ aC s p, m.1 = -1 ∨ (m.1 ∈ X /\ wrP (opE s.1 m.1) /\ xE s.1 m.1 = p)
 wr : ∀ e ∈ X, wrP (opE s.1 e) -> 0 <= pos s (xE s.1 e) e
 fr : ∀ e ∈ X, rdP (opE s.1 e) -> 0 <= pos s (xE s.1 e) (frO s e) /\ (frO s e = -1 ∨ [frO s e, e].Sublist X)
 val : ∀ e ∈ X, rdP (opE s.1 e) -> rOf s e = ((aC s (xE s.1 e)).getD (pos s (xE s.1 e) (frO s e)).toNat msg0).2.1
 add : ∀ e ∈ X, (opE s.1 e).1 = 3 -> pos s (xE s.1 e) (frO s e) + 1 = pos s (xE s.1 e) e
 mv : ∀ p, p < 3 -> ∀ i, i + 1 < (aC s p).length -> msgOK s p i
 no : ∀ e : Int, 0 <= e -> e < aB s.1.1 -> (e ∉ X ∨ ¬ rdP (opE s.1 e)) -> frO s e = -1 /\ rOf s e = 0
 fo : foOf s = X.filter fun e => decide ((opE s.1 e).1 = 4)
 coh : ∀ a b, HB (opE s.1) (coE s.1) X a b -> ¬ isF (opE s.1) a -> ¬ isF (opE s.1) b -> xE s.1 a = xE s.1 b -> (rdP (opE s.1 b) -> pl s a <= pos s (xE s.1 b) (frO s b)) /\ (wrP (opE s.1 b) -> pl s a < pos s (xE s.1 b) b)
 now : ∀ a c, c < s.1.1.length -> NOW (opE s.1) (coE s.1) X a c -> ¬ isF (opE s.1) a -> pl s a <= plV s c (xE s.1 a)
 fen : ∀ a f, HB (opE s.1) (coE s.1) X a f -> isF (opE s.1) f -> ¬ isF (opE s.1) a -> pl s a <= plF s (xE s.1 a)
theorem start_run {t : Lit} (hv : valid t = true) : RunI (start t) [] := by
 have f := start_fine hv
 have hmem : ∀ p, p < 3 -> aC (start t) p = [m0] := by
  intro p hp;rcases p with _ | _ | _ | p
  ·rfl
  ·rfl
  ·rfl
  ·omega
 have hpc : ∀ c, bA (start t) c = 0 := by
  intro c;show (zeros t.1.length).getD c 0 = 0;unfold zeros;rw [List.getD_eq_getElem?_getD, List.getElem?_replicate];split <;> rfl
 refine ⟨List.nodup_nil, ?_, ?_, ?_, ?_, ?_, ?_, ?_, ?_, ?_, rfl, ?_, ?_, ?_⟩
 ·intro e
  constructor
  ·intro h; cases h
  ·rintro ⟨c, j, h1, h2, h3⟩
   rw [hpc] at h2; omega
 ·intro a b h; cases h
 ·intro p hp m hm
  rw [hmem p hp, List.mem_singleton] at hm;subst hm; exact .inl rfl
 ·intro e h; cases h
 ·intro e h; cases h
 ·intro e h; cases h
 ·intro e h; cases h
 ·intro p hp i hi
  rw [hmem p hp] at hi;simp at hi
 ·intro e h0 h1 _
  have h1 : e < (aB t.1 : Int) := h1
  constructor
  ·show (froms (aB t.1)).getD e.toNat 0 = -1
   unfold froms;rw [Pl.b8 (by rw [List.length_replicate]; omega), List.getElem_replicate]
  ·show (zeros (aB t.1)).getD e.toNat 0 = 0
   unfold zeros;rw [Pl.b8 (by rw [List.length_replicate]; omega), List.getElem_replicate]
 ·intro a b h; have := h.mem.1; cases this
 ·intro a c _ h; have := h.mem; cases this
 ·intro a b h; have := h.mem.1; cases this
theorem xE_lt {s : VSt} (f : Fine s) {c j : Nat} (hc : c < s.1.1.length) (hj : j < (s.1.1.getD c []).length) : usual (opE s.1 (bas s.1 c + j)) = true /\ xE s.1 (bas s.1 c + j) < 3 := by
 have h : usual (opE s.1 (bas s.1 c + j)) = true := by
  rw [opE_at hc hj];exact f.us _ (Pl.bK hc _) _ (Pl.bK hj _)
 refine ⟨h, ?_⟩
 have := usual_place h
 unfold xE; omega
theorem RunI.step {s : VSt} {X : List Int} (f : Fine s) (I : RunI s X) {x : Cho} (hx : x ∈ aE s) : RunI (Sp.next s x) (X ++ [evt s x.1]) := by
 have N := f.nx hx
 have h := f.good.ok
 obtain ⟨F, G⟩ := f.sf hx
 have hlt := N.xf.lt
 have hpc0 := N.xf.pc0
 have hpc1 := N.xf.pc1
 have hrl := h.rl
 have hfrl := h.frl
 have hpc1' : (bA s (ofC x)).toNat < (s.1.1.getD (ofC x) []).length := hpc1
 have he : evt s x.1 = bas s.1 (ofC x) + ((bA s (ofC x)).toNat : Int) := by rw [N.evt]; omega
 have hop : opE s.1 (evt s x.1) = opX s x := by rw [he, opE_at hlt hpc1']; rfl
 have hco : coE s.1 (evt s x.1) = ofC x := by rw [he, coE_at hlt hpc1']
 have hxe : xE s.1 (evt s x.1) = plX s x := by unfold xE; rw [hop]; rfl
 have he0 : 0 <= evt s x.1 := by have := bas_nn s.1 (ofC x); omega
 have hin : ∀ {e}, e ∈ X -> ∃ c j : Nat, c < s.1.1.length /\ j < (s.1.1.getD c []).length /\ (j : Int) < bA s c /\ e = bas s.1 c + j := by
  intro e hm;obtain ⟨c, j, h1, h2, h3⟩ := (I.xs e).1 hm;have := (h.pc c h1).2;exact ⟨c, j, h1, by unfold bJ at this; omega, h2, h3⟩
 have hnew : evt s x.1 ∉ X := by
  intro hm;obtain ⟨c, j, h1, h2, h3, h4⟩ := hin hm;obtain ⟨e1, e2⟩ := bas_inj (t := s.1) (c := c) (d := ofC x) (i := (j : Int)) (j := bA s (ofC x)) h1 hlt (by omega) hpc0 (by omega) (by omega) (by rw [<- h4, N.evt]);subst e1; omega
 have hk : ∀ {e}, e ∈ X -> usual (opE s.1 e) = true /\ xE s.1 e < 3 /\ 0 <= e := by
  intro e hm;obtain ⟨c, j, h1, h2, h3, h4⟩ := hin hm;have hu := xE_lt f h1 h2;have := bas_nn s.1 c;rw [h4];exact ⟨hu.1, hu.2, by omega⟩
 generalize hE : evt s x.1 = E at *
 have hfrs : ∀ e, 0 <= e -> e ≠ E -> frO (Sp.next s x) e = frO s e /\ rOf (Sp.next s x) e = rOf s e := by
  intro e e0 hne;constructor
  ·show (nFr s x).getD _ 0 = _
   unfold nFr;split
   ·rfl
   ·rw [hE, List.getD_eq_getElem?_getD, List.getElem?_set_ne (by omega), <- List.getD_eq_getElem?_getD]; rfl
  ·show (nR s x).getD _ 0 = _
   unfold nR;split
   ·rfl
   ·rw [hE, List.getD_eq_getElem?_getD, List.getElem?_set_ne (by omega), <- List.getD_eq_getElem?_getD]; rfl
 have hXne : ∀ {e}, e ∈ X -> e ≠ E := fun hm e => hnew (e ▸ hm)
 have hfrX : ∀ {e}, e ∈ X -> frO (Sp.next s x) e = frO s e := fun hm => (hfrs _ (hk hm).2.2 (hXne hm)).1
 have hfrE : ∀ {e}, e ∈ X -> rdP (opE s.1 e) -> frO s e ≠ E := by
  intro e hm hr hc;rcases (I.fr e hm hr).2 with h1 | h1
  ·omega
  ·exact hnew (hc ▸ h1.subset (by simp))
 have hlow : ∀ {a}, a ∈ X -> lowO (Sp.next s x) a = lowO s a := by
  intro a ha;unfold lowO;rw [hfrX ha]; rfl
 have hkind : ∀ {a}, a ∈ X -> ¬ isF (opE s.1) a -> wrP (opE s.1 a) ∨ ((opE s.1 a).1 = 1) := by
  intro a ha hf;have := usual_kind (hk ha).1;unfold isF at hf;unfold wrP; omega
 have hlowne : ∀ {a}, a ∈ X -> ¬ isF (opE s.1) a -> lowO s a ≠ E := by
  intro a ha hf;unfold lowO;rcases hkind ha hf with h1 | h1
  ·rw [if_pos h1]; exact hXne ha
  ·rw [if_neg (by unfold wrP; omega)]
   exact hfrE ha (.inl h1)
 have hpl0 : ∀ {a}, a ∈ X -> ¬ isF (opE s.1) a -> 0 <= pl s a := by
  intro a ha hf;unfold pl lowO;rcases hkind ha hf with h1 | h1
  ·rw [if_pos h1]; exact I.wr a ha h1
  ·rw [if_neg (by unfold wrP; omega)]
   exact (I.fr a ha (.inl h1)).1
 have hpl : ∀ {a}, a ∈ X -> ¬ isF (opE s.1) a -> pl (Sp.next s x) a = F (xE s.1 a) (pl s a) := by
  intro a ha hf;unfold pl;rw [hlow ha];exact G.ps _ (hk ha).2.1 _ (by rw [hE]; exact hlowne ha hf)
 have hpsX : ∀ {e}, e ∈ X -> pos (Sp.next s x) (xE s.1 e) e = F (xE s.1 e) (pos s (xE s.1 e) e) := fun hm => G.ps _ (hk hm).2.1 _ (by rw [hE]; exact hXne hm)
 have hpsF : ∀ {e}, e ∈ X -> rdP (opE s.1 e) -> pos (Sp.next s x) (xE s.1 e) (frO (Sp.next s x) e) = F (xE s.1 e) (pos s (xE s.1 e) (frO s e)) := by
  intro e hm hr;rw [hfrX hm];exact G.ps _ (hk hm).2.1 _ (by rw [hE]; exact hfrE hm hr)
 have hposlt : ∀ p e, pos s p e < ((aC s p).length : Int) := by
  intro p e;unfold pos;rcases plc_le (aC s p) e with h1 | h1
  ·exact h1
  ·omega
 have hold : ∀ {a d}, d ∈ X -> adj (opE s.1) (coE s.1) d E -> (a = d ∨ HB (opE s.1) (coE s.1) X a d) -> ¬ isF (opE s.1) a -> NOW (opE s.1) (coE s.1) X a (ofC x) ∨ ((opX s x).1 = 4 /\ ∃ g, HB (opE s.1) (coE s.1) X a g /\ isF (opE s.1) g) := by
  intro a d hd hadj had ha;rcases hadj with h1 | ⟨h1, h2⟩
  ·exact .inl ⟨d, hd, by rw [h1, hco], had⟩
  ·right
   refine ⟨by unfold isF at h2; rw [hop] at h2; exact h2, ?_⟩
   rcases had with rfl | had
   ·exact absurd h1 ha
   ·exact ⟨d, had, h1⟩
 have hisF : isF (opE s.1) E ↔ (opX s x).1 = 4 := by unfold isF; rw [hop]
 refine ⟨?_, ?_, ?_, ?_, ?_, ?_, ?_, ?_, ?_, ?_, ?_, ?_, ?_, ?_⟩
 ·rw [List.nodup_append]
  refine ⟨I.nod, by simp, ?_⟩
  intro a ha b hb;rw [List.mem_singleton.1 hb];exact hXne ha
 ·intro e
  show e ∈ X ++ [E] ↔ ∃ c j : Nat, c < s.1.1.length /\ (j : Int) < bA (Sp.next s x) c /\ e = bas s.1 c + j
  rw [List.mem_append, List.mem_singleton];constructor
  ·rintro (hm | hm)
   ·obtain ⟨c, j, h1, h2, h3⟩ := (I.xs e).1 hm
    refine ⟨c, j, h1, ?_, h3⟩
    rw [N.pc c];split
    ·rename_i hc; rw [<- hc]; omega
    ·exact h2
   ·refine ⟨ofC x, (bA s (ofC x)).toNat, hlt, ?_, by rw [hm, he]⟩
    rw [N.pc, if_pos rfl]; omega
  ·rintro ⟨c, j, h1, h2, h3⟩
   rw [N.pc c] at h2;by_cases hc : c = ofC x
   ·rw [if_pos hc] at h2
    subst hc;by_cases hj : (j : Int) < bA s (ofC x)
    ·exact .inl ((I.xs e).2 ⟨_, j, h1, hj, h3⟩)
    ·right
     have : j = (bA s (ofC x)).toNat := by omega
     rw [h3, he, this]
   ·rw [if_neg hc] at h2
    exact .inl ((I.xs e).2 ⟨c, j, h1, h2, h3⟩)
 ·intro a b ha hb hc hab
  rcases List.mem_append.1 hb with hb | hb
  ·rcases List.mem_append.1 ha with ha | ha
   ·exact (I.po a b ha hb hc hab).trans (List.sublist_append_left _ _)
   ·exfalso
    rw [List.mem_singleton.1 ha] at hc hab;obtain ⟨c, j, h1, h2, h3, h4⟩ := hin hb;rw [show coE (Sp.next s x).1 E = ofC x from hco, h4, show coE (Sp.next s x).1 (bas s.1 c + j) = c from coE_at h1 h2] at hc;subst hc; omega
  ·rw [List.mem_singleton.1 hb] at hc hab ⊢
   rcases List.mem_append.1 ha with ha | ha
   ·exact (sub_snoc hnew).2 (.inr ⟨rfl, ha⟩)
   ·rw [List.mem_singleton.1 ha] at hab; omega
 ·intro p hp m hm
  have hmS : m ∈ aC s p ∨ (m = newM s x /\ p = plX s x /\ wrP (opX s x)) := by
   rcases N.kind with k | k | k | k
   ·rw [(N.lod k).1 p hp] at hm; exact .inl hm
   ·rw [(N.wri (.inl k)).1 p hp] at hm
    split at hm
    ·rcases mem_insM.1 hm with h1 | h1
     ·exact .inl h1
     ·exact .inr ⟨h1, by assumption, .inl k⟩
    ·exact .inl hm
   ·rw [(N.wri (.inr k)).1 p hp] at hm
    split at hm
    ·rcases mem_insM.1 hm with h1 | h1
     ·exact .inl h1
     ·exact .inr ⟨h1, by assumption, .inr k⟩
    ·exact .inl hm
   ·rw [(N.fen k).1 p hp] at hm; exact .inl hm
  rcases hmS with h1 | ⟨h1, h2, h3⟩
  ·exact (I.mo p hp m h1).imp id fun h => ⟨List.mem_append_left _ h.1, h.2⟩
  ·right
   rw [h1, newM_e, hE];exact ⟨by simp, by show wrP (opE s.1 E); rw [hop]; exact h3, by show xE s.1 E = p; rw [hxe, h2]⟩
 ·intro e hm hw
  have hw : wrP (opE s.1 e) := hw
  show 0 <= pos (Sp.next s x) (xE s.1 e) e
  rcases List.mem_append.1 hm with hm | hm
  ·rw [hpsX hm]; exact G.nn _ _ (I.wr e hm hw)
  ·rw [List.mem_singleton.1 hm] at hw ⊢
   rw [hop] at hw;have h1 := (G.wr hw).1;rw [hE] at h1;rw [hxe, h1];have := (N.wlt (by unfold wrP at hw; omega)).2.1;omega
 ·intro e hm hr
  have hr : rdP (opE s.1 e) := hr
  show 0 <= pos (Sp.next s x) (xE s.1 e) (frO (Sp.next s x) e) /\ _
  rcases List.mem_append.1 hm with hm | hm
  ·obtain ⟨g1, g2⟩ := I.fr e hm hr
   refine ⟨by rw [hpsF hm hr]; exact G.nn _ _ g1, ?_⟩
   rw [hfrX hm];exact g2.imp id fun h => h.trans (List.sublist_append_left _ _)
  ·rw [List.mem_singleton.1 hm] at hr ⊢
   rw [hop] at hr;obtain ⟨g1, g2, g3, g4⟩ := G.rd hr;rw [hE] at g1;have h4 : (opX s x).1 ≠ 4 := by unfold rdP at hr; omega
   rw [hxe, g1, g3];refine ⟨(N.wlt h4).2.1, ?_⟩;rcases I.mo _ N.p3 _ (msgX_mem N h4) with h1 | ⟨h1, _⟩
   ·exact .inl h1
   ·exact .inr ((sub_snoc hnew).2 (.inr ⟨rfl, h1⟩))
 ·intro e hm hr
  have hr : rdP (opE s.1 e) := hr
  show rOf (Sp.next s x) e = ((aC (Sp.next s x) (xE s.1 e)).getD (pos (Sp.next s x) (xE s.1 e) (frO (Sp.next s x) e)).toNat msg0).2.1
  rcases List.mem_append.1 hm with hm | hm
  ·rw [(hfrs _ (hk hm).2.2 (hXne hm)).2, hpsF hm hr, I.val e hm hr, G.gt _ (hk hm).2.1 _ (I.fr e hm hr).1 (hposlt _ _)]
  ·rw [List.mem_singleton.1 hm] at hr ⊢
   rw [hop] at hr;obtain ⟨g1, g2, g3, g4⟩ := G.rd hr;rw [hE] at g1 g2;rw [hxe, g1, g3, g2, g4]
 ·intro e hm h3
  have h3 : (opE s.1 e).1 = 3 := h3
  show pos (Sp.next s x) (xE s.1 e) (frO (Sp.next s x) e) + 1 = pos (Sp.next s x) (xE s.1 e) e
  rcases List.mem_append.1 hm with hm | hm
  ·have hA := I.add e hm h3
   have hx3 := (hk hm).2.1
   rw [hpsF hm (.inr h3), hpsX hm];have hq0 := (I.fr e hm (.inr h3)).1;have hplt := hposlt (xE s.1 e) e;rcases N.kind with k | k | k | k
   all_goals first
    | (
      have kk : (opX s x).1 = 2 ∨ (opX s x).1 = 3 := by omega
      have hp1 := G.ps _ hx3 _ (by rw [hE]; exact hfrE hm (.inr h3))
      have hp2 := G.ps _ hx3 _ (by rw [hE]; exact hXne hm)
      rw [<- hp1, <- hp2];unfold pos at hA hplt hq0 ⊢;rw [(N.wri kk).1 _ hx3];by_cases hpp : xE s.1 e = plX s x
      ·rw [if_pos hpp]
       rw [hpp] at hA hplt hq0 ⊢;obtain ⟨w1, w2, w3⟩ := N.wlt (by omega);rw [plc_ins (f.nd _ N.p3) w1 N.new, plc_ins (f.nd _ N.p3) w1 N.new, newM_e, hE, if_neg (hfrE hm (.inr h3)), if_neg (hXne hm)];have hno : plc (aC s (plX s x)) (frO s e) ≠ x.2.1 := by
        intro hc;obtain ⟨i1, i2, i3, i4⟩ := N.xf.idx (by omega);have hi : x.2.1.toNat + 1 < (aC s (plX s x)).length := by omega
        have hm1 := (plc_get (m := aC s (plX s x)) (e := e) (by omega)).2
        have hm2 := (I.mv _ N.p3 _ hi).1
        rw [show x.2.1.toNat + 1 = (plc (aC s (plX s x)) e).toNat from by omega, hm1, h3] at hm2
        unfold may at i4;rw [decide_eq_false (by omega), decide_eq_false (by omega), show x.2.1.toNat + 1 = (plc (aC s (plX s x)) e).toNat from by omega, hm2] at i4
        cases i4
       unfold sh;split <;> split <;> omega
      ·rw [if_neg hpp]; exact hA)
    | skip
   ·have hp1 := G.ps _ hx3 _ (by rw [hE]; exact hfrE hm (.inr h3))
    have hp2 := G.ps _ hx3 _ (by rw [hE]; exact hXne hm)
    rw [<- hp1, <- hp2];unfold pos at hA ⊢;rw [(N.lod k).1 _ hx3]; exact hA
   ·have hp1 := G.ps _ hx3 _ (by rw [hE]; exact hfrE hm (.inr h3))
    have hp2 := G.ps _ hx3 _ (by rw [hE]; exact hXne hm)
    rw [<- hp1, <- hp2];unfold pos at hA ⊢;rw [(N.fen k).1 _ hx3]; exact hA
  ·rw [List.mem_singleton.1 hm] at h3 ⊢
   rw [hop] at h3;obtain ⟨g1, g2, g3, g4⟩ := G.rd (.inr h3);have g5 := (G.wr (.inr h3)).1;rw [hE] at g1 g5;rw [hxe, g1, g3, g5]
 ·intro p hp i hi
  have hwri : (opX s x).1 = 2 ∨ (opX s x).1 = 3 -> msgOK (Sp.next s x) p i := by
   intro kk;have hl := (N.wri kk).1 p hp;by_cases hpp : p = plX s x
   ·subst hpp
    rw [if_pos rfl] at hl;obtain ⟨w1, w2, w3⟩ := N.wlt (by omega);rw [hl, insM_len w1] at hi;unfold msgOK;rw [hl];show _ = decide ((opE s.1 _).1 = 3) /\ _ = if (opE s.1 _).1 = 3 then _ + (opE s.1 _).2.2.1 else (opE s.1 _).2.2.1;rw [insM_get w1, insM_get w1];rcases Nat.lt_trichotomy i x.2.1.toNat with h1 | h1 | h1
    ·rw [if_pos (show i + 1 <= x.2.1.toNat by omega), if_pos (show i <= x.2.1.toNat by omega)]
     exact I.mv _ hp i (by omega)
    ·subst h1
     rw [if_neg (show ¬ x.2.1.toNat + 1 <= x.2.1.toNat by omega), if_pos rfl, if_pos (Nat.le_refl x.2.1.toNat), newM_e, hE, hop]
     exact ⟨N.newA, N.newV⟩
    ·rw [if_neg (show ¬ i + 1 <= x.2.1.toNat by omega), if_neg (show ¬ i + 1 = x.2.1.toNat + 1 by omega), if_neg (show ¬ i <= x.2.1.toNat by omega), show i + 1 - 1 = i from by omega]
     obtain ⟨j, rfl⟩ : ∃ j, i = j + 1 := ⟨i - 1, by omega⟩
     have hmv := I.mv _ hp j (by omega)
     unfold msgOK at hmv;obtain ⟨m1, m2⟩ := hmv;refine ⟨m1, ?_⟩;by_cases hj : j + 1 = x.2.1.toNat + 1
     ·rw [if_pos hj]
      obtain ⟨i1, i2, i3, i4⟩ := N.xf.idx (by omega);have hn3 : ¬ (opE s.1 ((aC s (plX s x)).getD (j + 1) msg0).1).1 = 3 := by
       intro h3;rw [h3] at m1;unfold may at i4;rw [decide_eq_false (by omega), decide_eq_false (by omega), <- hj, m1] at i4;cases i4
      rw [m2, if_neg hn3, if_neg hn3]
     ·rw [if_neg hj, show j + 1 - 1 = j from by omega]
      exact m2
   ·rw [if_neg hpp] at hl
    rw [hl] at hi;unfold msgOK;rw [hl];exact I.mv p hp i hi
  rcases N.kind with k | k | k | k
  ·have hl := (N.lod k).1 p hp
   rw [hl] at hi;unfold msgOK;rw [hl];exact I.mv p hp i hi
  ·exact hwri (.inl k)
  ·exact hwri (.inr k)
  ·have hl := (N.fen k).1 p hp
   rw [hl] at hi;unfold msgOK;rw [hl];exact I.mv p hp i hi
 ·intro e h0 h1 h2
  have h1 : e < (aB s.1.1 : Int) := h1
  have h2 : e ∉ X ++ [E] ∨ ¬ rdP (opE s.1 e) := h2
  by_cases hne : e = E
  ·subst hne
   have hr : ¬ rdP (opX s x) := by
    rcases h2 with h2 | h2
    ·exact absurd (by simp) h2
    ·rw [hop] at h2; exact h2
   obtain ⟨g1, g2⟩ := G.no hr;rw [hE] at g1 g2;rw [g1, g2];exact I.no e h0 h1 (.inl hnew)
  ·obtain ⟨g1, g2⟩ := hfrs e h0 hne
   rw [g1, g2];exact I.no e h0 h1 (h2.imp (fun h hm => h (List.mem_append_left _ hm)) id)
 ·show nFo s x = (X ++ [E]).filter fun e => decide ((opE s.1 e).1 = 4)
  unfold nFo;rw [List.filter_append, <- I.fo];by_cases h4 : (opX s x).1 = 4
  ·rw [if_pos h4, List.filter_cons, hop, decide_eq_true h4, hE]; rfl
  ·rw [if_neg h4, List.filter_cons, hop, decide_eq_false h4]
   show _ = foOf s ++ []
   rw [List.append_nil]; rfl
 ·intro a b hab ha hb hxx
  have ha : ¬ isF (opE s.1) a := ha
  have hb : ¬ isF (opE s.1) b := hb
  have hxx : xE s.1 a = xE s.1 b := hxx
  show (rdP (opE s.1 b) -> pl (Sp.next s x) a <= pos (Sp.next s x) (xE s.1 b) (frO (Sp.next s x) b)) /\ (wrP (opE s.1 b) -> pl (Sp.next s x) a < pos (Sp.next s x) (xE s.1 b) b)
  rcases HB.snoc hnew hab with h1 | ⟨rfl, d, hd, hadj, had⟩
  ·obtain ⟨ma, mb⟩ := h1.mem
   obtain ⟨g1, g2⟩ := I.coh a b h1 ha hb hxx;rw [hpl ma ha, hxx];refine ⟨fun hr => ?_, fun hw => ?_⟩
   ·rw [hpsF mb hr]; exact G.le _ _ _ (g1 hr)
   ·rw [hpsX mb]; exact G.lt _ _ _ (g2 hw)
  ·have h4 : ¬ (opX s x).1 = 4 := fun h => hb (hisF.2 h)
   rcases hold hd hadj had ha with h1 | ⟨h1, _⟩
   ·have ma := h1.mem
    have hn := I.now a _ hlt h1 ha
    rw [hpl ma ha];have hle := Int.le_trans (G.le _ _ _ hn) (show F (xE s.1 a) (plV s (ofC x) (xE s.1 a)) <= x.2.1 by rw [hxx, hxe]; exact G.low h4)
    refine ⟨fun hr => ?_, fun hw => ?_⟩
    ·rw [hop] at hr
     obtain ⟨g1, g2, g3, g4⟩ := G.rd hr;rw [hE] at g1;rw [hxe, g1, g3]; exact hle
    ·rw [hop] at hw
     have g1 := (G.wr hw).1
     rw [hE] at g1;rw [hxe, g1]; omega
   ·exact absurd h1 h4
 ·intro a k hkl hnw ha
  have ha : ¬ isF (opE s.1) a := ha
  show pl (Sp.next s x) a <= plV (Sp.next s x) k (xE s.1 a)
  have hnow : ∀ k, k < s.1.1.length -> NOW (opE s.1) (coE s.1) X a k -> pl (Sp.next s x) a <= plV (Sp.next s x) k (xE s.1 a) := by
   intro k hkl h1;have ma := h1.mem;rw [hpl ma ha];exact Int.le_trans (G.le _ _ _ (I.now a k hkl h1 ha)) (G.vw k _ hkl (hk ma).2.1)
  rcases NOW.snoc hnew hnw with h1 | ⟨h1, h2⟩
  ·exact hnow k hkl h1
  ·have h1 : k = ofC x := by rw [<- h1]; exact hco
   subst h1;rcases h2 with rfl | ⟨d, hd, hadj, had⟩
   ·have h4 : ¬ (opX s x).1 = 4 := fun h => ha (hisF.2 h)
    have hlo : lowO (Sp.next s x) a = if wrP (opX s x) then a else frO (Sp.next s x) a := by unfold lowO; rw [show opE (Sp.next s x).1 a = opX s x from hop]
    unfold pl;rw [show xE (Sp.next s x).1 a = plX s x from hxe, hxe, hlo];by_cases hw : wrP (opX s x)
    ·rw [if_pos hw]
     have := G.wr hw
     rw [hE] at this;omega
    ·rw [if_neg hw]
     have h1 : (opX s x).1 = 1 := by have := N.kind; unfold wrP at hw; omega
     obtain ⟨g1, g2, g3, g4⟩ := G.rd (.inl h1);rw [hE] at g1;rw [g1, g3, G.ld h1]; exact Int.le_refl _
   ·rcases hold hd hadj had ha with h1 | ⟨h1, g, hg1, hg2⟩
    ·exact hnow _ hkl h1
    ·have ma := hg1.mem.1
     rw [hpl ma ha];exact Int.le_trans (G.le _ _ _ (I.fen a g hg1 hg2 ha)) (G.fen h1 _ (hk ma).2.1).1
 ·intro a g hag hg ha
  have ha : ¬ isF (opE s.1) a := ha
  have hg : isF (opE s.1) g := hg
  show pl (Sp.next s x) a <= plF (Sp.next s x) (xE s.1 a)
  have hfen : ∀ g, HB (opE s.1) (coE s.1) X a g -> isF (opE s.1) g -> pl (Sp.next s x) a <= plF (Sp.next s x) (xE s.1 a) := by
   intro g h1 h2;have ma := h1.mem.1;rw [hpl ma ha];exact Int.le_trans (G.le _ _ _ (I.fen a g h1 h2 ha)) (G.fe _ (hk ma).2.1)
  rcases HB.snoc hnew hag with h1 | ⟨rfl, d, hd, hadj, had⟩
  ·exact hfen g h1 hg
  ·have h4 : (opX s x).1 = 4 := hisF.1 hg
   rcases hold hd hadj had ha with h1 | ⟨_, g', hg1, hg2⟩
   ·have ma := h1.mem
    rw [hpl ma ha];exact Int.le_trans (G.le _ _ _ (I.now a _ hlt h1 ha)) (G.fen h4 _ (hk ma).2.1).2
   ·exact hfen g' hg1 hg2
end Sp
namespace Sp
def vlO (s : VSt) (e : Int) : Int := ((aC s (xE s.1 e)).getD (pos s (xE s.1 e) e).toNat msg0).2.1
end Sp
namespace Go.User
open Go.Lf
end Go.User
namespace Sp
open Relation Cx
theorem run_inv {s s' : VSt} (h : Reach s s') : Fine s -> (∃ X, RunI s X) -> ∃ X, RunI s' X := by
 refine h.inv (P := fun s => ∃ X, RunI s X) ?_
 rintro s x f ⟨X, I⟩ hx
 exact ⟨_, I.step f hx⟩
structure End (s : VSt) (X : List Int) : Prop where
 fin : Fine s
 run : RunI s X
 all : ∀ e : Nat, e < aB s.1.1 -> (e : Int) ∈ X
theorem end_of {t : Lit} (hv : valid t = true) {s : VSt} (h : Reach (start t) s) (h0 : aE s = []) : ∃ X, End s X := by
 obtain ⟨X, I⟩ := run_inv h (start_fine hv) ⟨[], start_run hv⟩
 have f := h.fine (start_fine hv)
 refine ⟨X, f, I, ?_⟩
 intro e he
 obtain ⟨c, j, h1, h2, h3⟩ := ev_ex he
 refine (I.xs _).2 ⟨c, j, h1, ?_, h3⟩
 rw [(done_iff f.good.ok).1 h0 c h1]
 unfold bJ; omega
section
variable {s : VSt} {X : List Int} (D : End s X)
include D
theorem End.in' {e : Int} (h : e ∈ X) : ∃ k : Nat, k < aB s.1.1 /\ e = (k : Int) := by
 obtain ⟨c, j, h1, h2, h3⟩ := (D.run.xs e).1 h
 have h4 := (D.fin.good.ok.pc c h1).2
 unfold bJ at h4
 have h5 := bas_lt (t := s.1) (c := c) (i := (j : Int)) h1 (by omega)
 have h6 := bas_nn s.1 c
 exact ⟨e.toNat, by omega, by omega⟩
theorem End.kind {e : Nat} (h : e < aB s.1.1) : usual (opE s.1 e) = true /\ xE s.1 e < 3 /\ (opE s.1 e).2.1 = (xE s.1 e : Int) := by
 obtain ⟨c, j, h1, h2, h3⟩ := ev_ex h
 have h4 := xE_lt D.fin h1 h2
 rw [<- h3] at h4
 refine ⟨h4.1, h4.2, ?_⟩
 have := usual_place h4.1
 unfold xE; omega
theorem End.pos_lt (p : Nat) (e : Int) : pos s p e < ((aC s p).length : Int) := by
 have _ := D.fin
 unfold pos
 rcases plc_le (aC s p) e with h1 | h1
 ·exact h1
 ·omega
theorem End.pos_get {p : Nat} {e : Int} (h : 0 <= pos s p e) : ((aC s p).getD (pos s p e).toNat msg0).1 = e := by
 have _ := D.fin
 exact (plc_get h).2
theorem End.pos_m1 {p : Nat} (hp : p < 3) : pos s p (-1) = 0 := by
 have h1 := D.fin.good.ok.mem p hp
 have := plc_at (D.fin.nd p hp) (i := 0) (e := -1) (by omega) (by rw [D.fin.hd p hp]; rfl)
 unfold pos; rw [this]; rfl
theorem End.wpos {e : Nat} (h : e < aB s.1.1) (hw : wrP (opE s.1 e)) : 1 <= pos s (xE s.1 e) e := by
 have h0 := D.run.wr e (D.all e h) hw
 have hx := (D.kind h).2.1
 rcases Int.lt_or_eq_of_le h0 with h1 | h1
 ·omega
 ·exfalso
  have h2 := D.pos_get h0
  rw [<- h1] at h2;have h3 := D.fin.hd _ hx;have h2 : ((aC s (xE s.1 e)).getD 0 msg0).1 = (e : Int) := h2;rw [h3] at h2;have h2 : (-1 : Int) = (e : Int) := h2;omega
theorem End.msg {p i : Nat} (hp : p < 3) (hi : i + 1 < (aC s p).length) : ∃ k : Nat, k < aB s.1.1 /\ ((aC s p).getD (i + 1) msg0).1 = (k : Int) /\ wrP (opE s.1 k) /\ xE s.1 k = p /\ pos s p k = (i : Int) + 1 := by
 have hat : ∀ e, ((aC s p).getD (i + 1) msg0).1 = e -> pos s p e = (i : Int) + 1 := fun e he => plc_at (D.fin.nd p hp) hi he
 rcases D.run.mo p hp _ (Pl.bK hi msg0) with h1 | ⟨h1, h2, h3⟩
 ·have := hat _ h1
  rw [D.pos_m1 hp] at this; omega
 ·obtain ⟨k, k1, k2⟩ := D.in' h1
  rw [k2] at h2 h3;exact ⟨k, k1, k2, h2, h3, hat _ k2⟩
theorem End.from {e : Nat} (h : e < aB s.1.1) (hr : rdP (opE s.1 e)) : (frO s e = -1 /\ rOf s e = 0 /\ pos s (xE s.1 e) (frO s e) = 0) ∨
  ∃ k : Nat, k < aB s.1.1 /\ frO s e = (k : Int) /\ k ≠ e /\ wrP (opE s.1 k) /\ xE s.1 k = xE s.1 e /\ 1 <= pos s (xE s.1 e) k /\ rOf s e = vlO s k := by
 have hm := D.all e h
 have hx := (D.kind h).2.1
 obtain ⟨g1, g2⟩ := D.run.fr e hm hr
 have hv := D.run.val e hm hr
 rcases g2 with g2 | g2
 ·left
  refine ⟨g2, ?_, by rw [g2]; exact D.pos_m1 hx⟩
  rw [hv, g2, D.pos_m1 hx];show ((aC s (xE s.1 e)).getD 0 msg0).2.1 = 0;rw [D.fin.hd _ hx]; rfl
 ·right
  have hf : frO s e ∈ X := g2.subset (by simp)
  obtain ⟨k, k1, k2⟩ := D.in' hf;have hlt : (pos s (xE s.1 e) (frO s e)).toNat < (aC s (xE s.1 e)).length := by have := D.pos_lt (xE s.1 e) (frO s e); omega
  have hmem := Pl.bK hlt msg0
  have hg := D.pos_get g1
  rcases D.run.mo _ hx _ hmem with h1 | ⟨h1, h2, h3⟩
  ·rw [hg] at h1; omega
  ·rw [hg, k2] at h2 h3
   have hne : k ≠ e := by
    intro hke;rw [k2, hke] at g2;have := sub_idx D.run.nod g2;omega
   have hw := D.wpos k1 h2
   rw [h3] at hw;refine ⟨k, k1, k2, hne, h2, h3, hw, ?_⟩;rw [hv, k2]; unfold vlO; rw [h3]
theorem End.none {e : Nat} (h : e < aB s.1.1) (hr : ¬ rdP (opE s.1 e)) : frO s e = -1 /\ rOf s e = 0 := D.run.no e (by omega) (by omega) (.inr hr)
theorem End.gE {e : Nat} (h : e < aB s.1.1) : (bF s).1.getD e ev0 = ((coE s.1 e : Int), opE s.1 e, rOf s e, ()) := by
 have _ := D.fin
 obtain ⟨c, j, h1, h2, h3⟩ := ev_ex h
 have he : e = aB (s.1.1.take c) + j := by unfold bas at h3; omega
 have hg := evN_get s.1 (rsOf s) s.1.1.length (Nat.le_refl _) c j h1 h2
 show (evN s.1 (rsOf s) s.1.1.length).getD e ev0 = _
 rw [he, hg, <- he, h3, coE_at h1 h2, opE_at h1 h2]
 unfold rOf
 rw [<- h3, Int.toNat_natCast]; rfl
theorem End.gEl : (bF s).1.length = aB s.1.1 := by
 have _ := D.fin
 show (evN s.1 (rsOf s) s.1.1.length).length = _
 rw [evN_len _ _ _ (Nat.le_refl _), List.take_length]
theorem End.gFl : (bF s).2.1.length = aB s.1.1 := D.fin.good.ok.frl
theorem End.gF {e : Nat} (h : e < aB s.1.1) : (bF s).2.1.getD e 0 = frO s e := by
 have _ := D.fin
 unfold frO; rw [Int.toNat_natCast]; rfl
theorem End.gMl : (bF s).2.2.1.length = 3 := by
 have _ := D.fin
 exact moN_len s 3
theorem End.gM {p : Nat} (hp : p < 3) : (bF s).2.2.1.getD p [] = moK (aC s p) ((aC s p).length - 1) := by
 have _ := D.fin
 show (moN s 3).getD p [] = _
 unfold moN
 rw [List.getD_eq_getElem?_getD, List.getElem?_map, List.getElem?_range hp]; rfl
end
theorem moK_get {m : List Msg} {i : Nat} (h : i + 1 < m.length) : (moK m (m.length - 1)).getD i 0 = (m.getD (i + 1) msg0).1 := by
 unfold moK
 rw [List.take_of_length_le (by rw [List.length_drop]; omega), List.getD_eq_getElem?_getD, List.getElem?_map, List.getElem?_drop, Nat.add_comm 1 i]
 rw [List.getD_eq_getElem?_getD, List.getElem?_eq_getElem h]; rfl
theorem moK_full (m : List Msg) : (moK m (m.length - 1)).length = m.length - 1 := by
 unfold moK; rw [List.length_map, List.length_take, List.length_drop]; omega
end Sp
namespace Sp.Ax
open Relation
def idx (l : List Int) (n : Int) : Int := if n ∈ l then (l.idxOf n : Int) else -1
def reads (o : LOp) : Bool := decide (o.1 = 1) || decide (o.1 = 3)
def bQ (o : LOp) : Bool := decide (o.1 = 2) || decide (o.1 = 3)
def usual (o : LOp) : Bool :=
 if o.1 = 4 then decide (o.2.1 = 0) && decide (o.2.2.1 = 0)
 else if o.1 = 1 then decide (0 <= o.2.1) && decide (o.2.1 < 3) && decide (o.2.2.1 = 0)
 else if o.1 = 2 ∨ o.1 = 3 then decide (0 <= o.2.1) && decide (o.2.1 < 3) && decide (-100 <= o.2.2.1) && decide (o.2.2.1 <= 100)
 else false
def findI (p : LEv -> Bool) (l : List LEv) : Int := match l.findIdx? p with
 | some i => i
 | none => -1
def ev0 : LEv := (0, (0, 0, 0, ()), 0, ())
def ev (e : List LEv) (n : Int) : LEv := e.getD n.toNat ev0
def value (e : List LEv) (n : Int) : Int :=
 if n < 0 then 0 else if (ev e n).2.1.1 = 3 then Go.IntKind.wrap .i64 ((ev e n).2.2.1 + (ev e n).2.1.2.2.1) else (ev e n).2.1.2.2.1
end Sp.Ax
namespace Go.User.Ax
open Go.Lf Go.Proofs
def mkC (n : Nat) (fns : List (FuncId × aU)) : Ctx := { N := n, tys := cC 0, fns := fns, eqs := eqs }
def S9022 : aU := { args := [.val (.slice tI), .val tI], multi := false, res := tI, mode := .shr, pre := fun _ => True, fn := fun x => Sp.Ax.idx x.1 x.2.1 }
def C9022 : Ctx := mkC 19 []
def S90 := S9022
def C90 := C9022
def L90 (x : aO S90.args) : List aS := [
 {ι := Nat, inv := fun i => i <= x.1.length /\ x.2.1 ∉ x.1.take i, dec := fun i => x.1.length - i, ovr := fun i => [(8, .shr tI (i : Int))], keep := [0, 1, 7] }]
def S57 : aU := { args := [.val a9], multi := false, res := .bool, mode := .shr, pre := fun _ => True, fn := fun x => Sp.Ax.reads x.1 }
def C57 : Ctx := mkC 11 []
def L57 (x : aO S57.args) : List aS := []
def S58 : aU := { args := [.val a9], multi := false, res := .bool, mode := .shr, pre := fun _ => True, fn := fun x => Sp.Ax.bQ x.1 }
def C58 : Ctx := mkC 11 []
def L58 (x : aO S58.args) : List aS := []
def S89 : aU := { args := [.val a9], multi := false, res := .bool, mode := .shr, pre := fun _ => True, fn := fun x => Sp.Ax.usual x.1 }
def C89 : Ctx := mkC 46 []
def L89 (x : aO S89.args) : List aS := []
def S88 : aU := { args := [.val tLEv], multi := false, res := .bool, mode := .shr, pre := fun _ => True, fn := fun x => !Sp.Ax.usual x.1.2.1 }
def C88 : Ctx := mkC 7 [(89, S89)]
def L88 (x : aO S88.args) : List aS := []
def S99 : aU := { args := [.val (.slice tLEv), .fn [tLEv] .bool], multi := false, res := tI, mode := .shr, pre := fun x => ∀ e, x.2.1.pre (e, ()), fn := fun x => Sp.Ax.findI (fun e => x.2.1.fn (e, ())) x.1 }
def C99 : Ctx := mkC 19 []
def L99 (x : aO S99.args) : List aS := [
 {ι := Nat, inv := fun i => i <= x.1.length /\ ∀ e ∈ x.1.take i, x.2.1.fn (e, ()) = false, dec := fun i => x.1.length - i, ovr := fun i => [(8, .shr tI (i : Int))], keep := [0, 1, 7] }]
def S87 : aU := { args := [.val (.slice tLEv), .fn [tLEv] .bool], multi := false, res := .bool, mode := .shr, pre := fun x => ∀ e, x.2.1.pre (e, ()), fn := fun x => List.any x.1 (fun e => x.2.1.fn (e, ())) }
def C87 : Ctx := mkC 9 [(99, S99)]
def L87 (x : aO S87.args) : List aS := []
def S9040 : aU := { args := [.val tGr, .val tI], multi := false, res := tI, mode := .shr, pre := fun x => x.2.1 < (x.1.1.length : Int), fn := fun x => Sp.Ax.value x.1.1 x.2.1 }
def S59 := S9040
def C59 : Ctx := { mkC 38 [] with wrp := [30] }
def L59 (x : aO S59.args) : List aS := []
def S61 : aU := { args := [.val a9, .sptr tI], multi := false, res := .bool, mode := .shr, pre := fun _ => True, fn := fun x => Sp.Ax.bQ x.1 && decide (x.1.2.1 = x.2.1) }
def C61 : Ctx := mkC 12 [(58, S58)]
def L61 (x : aO S61.args) : List aS := []
def S62 : aU := { args := [.val a9], multi := false, res := .bool, mode := .shr, pre := fun _ => True, fn := fun x => decide (x.1.1 = 4) }
def C62 : Ctx := mkC 6 []
def L62 (x : aO S62.args) : List aS := []
end Go.User.Ax
namespace Sp.Ax
open Relation
def mkEv (c : Int) (o : LOp) : LEv := (c, o, 0, ())
def evs : Int -> List (List LOp) -> List LEv
 | _, [] => []
 | c, l :: ls => l.map (mkEv c) ++ evs (c + 1) ls
def sel (p : Nat -> Bool) (n : Nat) : List Int := ((List.range n).filter p).map (fun (i : Nat) => (i : Int))
def wr (e : List LEv) (x : Int) : List Int := sel (fun i => bQ (ev e i).2.1 && decide ((ev e i).2.1.2.1 = x)) e.length
def cE (r : Rel) (a b : Nat) : Bool := (r.getD a (List.replicate 6 false)).getD b false
def upd2 (r : Rel) (a b : Nat) (v : Bool) : Rel := r.set a ((r.getD a (List.replicate 6 false)).set b v)
def stepB (k a : Nat) (r : Rel) (b : Nat) : Rel := upd2 r a b (cE r a b || (cE r a k && cE r k b))
def rowB (k a : Nat) (r : Rel) (n : Nat) : Rel := (List.range n).foldl (stepB k a) r
def rowA (k : Nat) (r : Rel) (n : Nat) : Rel := (List.range n).foldl (fun r a => rowB k a r 6) r
def closeN (r : Rel) (n : Nat) : Rel := (List.range n).foldl (fun r k => rowA k r 6) r
def close (r : Rel) : Rel := closeN r 6
def round (r : Rel) : Bool := (List.range 6).any fun a => cE r a a
def mat (f : Nat -> Nat -> Bool) : Rel := (List.range 6).map fun a => (List.range 6).map fun b => f a b
def ordF (e : List LEv) (fo : List Int) (a b : Nat) : Bool :=
 (decide (a < b) && decide (b < e.length) && decide ((ev e a).1 = (ev e b).1)) || (List.range fo.length).any fun j => (List.range j).any fun i => decide (fo.getD i 0 = a) && decide (fo.getD j 0 = b)
def oA (e : List LEv) (i a b : Nat) : Bool := decide (a < i) && ordF e [] a b
def oB (e : List LEv) (i k a b : Nat) : Bool := (decide (a < i) || (decide (a = i) && decide (b < k))) && ordF e [] a b
def fo2 (fo : List Int) (p q a b : Nat) : Bool := decide (fo.getD p 0 = (a : Int)) && decide (fo.getD q 0 = (b : Int))
def oC (e : List LEv) (fo : List Int) (i a b : Nat) : Bool := ordF e [] a b || (List.range i).any fun p => (List.range fo.length).any fun q => decide (p < q) && fo2 fo p q a b
def oD (e : List LEv) (fo : List Int) (i k a b : Nat) : Bool := oC e fo i a b || (List.range k).any fun q => fo2 fo i (i + 1 + q) a b
def order (g : Gr) : Rel := mat (ordF g.1 g.2.2.2.1)
def plc (g : Gr) (n : Int) : Int × Int × Unit :=
 (idx (g.2.2.1.getD (ev g.1 n).2.1.2.1.toNat []) n, idx (g.2.2.1.getD (ev g.1 n).2.1.2.1.toNat []) (g.2.1.getD n.toNat 0), ())
def isList (l : List Int) (e : List LEv) (is : LOp -> Bool) : Bool :=
 decide (l.Nodup /\ ∀ n ∈ l, 0 <= n /\ n < e.length /\ is (ev e n).2.1 = true) && decide (∀ n < e.length, is (ev e n).2.1 = true -> (n : Int) ∈ l)
def valid (t : Lit) : Bool :=
 decide (1 <= t.1.length) && decide (t.1.length <= 4) && decide (1 <= (evs 0 t.1).length) && decide ((evs 0 t.1).length <= 6) && (evs 0 t.1).all fun x => usual x.2.1
end Sp.Ax
namespace Go.User.Ax
open Go.Lf Go.Proofs
def S55 : aU := { args := [.val tLit], multi := false, res := .slice tLEv, mode := .own .shr, pre := fun x => (Sp.Ax.evs 0 x.1.1).length <= 1000, fn := fun x => Sp.Ax.evs 0 x.1.1 }
def C55 : Ctx := mkC 31 []
def L55 (x : aO S55.args) : List aS := [
 {ι := Nat × List Sp.LEv, inv := fun i => i.1 <= x.1.1.length /\ i.2 = Sp.Ax.evs 0 (x.1.1.take i.1), dec := fun i => x.1.1.length - i.1, ovr := fun i => [(11, .shr tI (i.1 : Int)), (3, .own (.slice tLEv) (.own .shr) i.2)], keep := [1, 9, 10], sub := fun i => [
  {ι := Nat × List Sp.LEv, inv := fun k => k.1 <= (x.1.1.getD i.1 []).length /\ k.2 = Sp.Ax.evs 0 (x.1.1.take i.1) ++ ((x.1.1.getD i.1 []).take k.1).map (Sp.Ax.mkEv (i.1 : Int)), dec := fun k => (x.1.1.getD i.1 []).length - k.1, ovr := fun k => [(18, .shr tI (k.1 : Int)), (3, .own (.slice tLEv) (.own .shr) k.2)], keep := [1, 9, 10, 11, 4, 16, 17] }] }]
def S66 : aU := { args := [.val tGr, .val tI], multi := false, res := tPl, mode := .shr, pre := fun x => inN x.2.1 (List.length x.1.1) /\ inN x.2.1 (List.length x.1.2.1) /\ inN (Sp.Ax.ev x.1.1 x.2.1).2.1.2.1 (List.length x.1.2.2.1), fn := fun x => Sp.Ax.plc x.1 x.2.1 }
def C66 : Ctx := mkC 31 [(90, S90)]
def L66 (x : aO S66.args) : List aS := []
def S64 : PSpec := { τ := tRel, pre := fun _ _ => True, fn := fun r _ => Sp.Ax.close r, out := fun _ _ => () }
def C64 (q : Nat) : Ctx := { mkC 48 [] with pin := some 0, q := q }
def L64 (q : Nat) (x : S64.τ.den) (y : aO S64.args) : List aS := [
 {ι := Nat × Sp.Rel, inv := fun i => i.1 <= 6 /\ i.2 = Sp.Ax.closeN x i.1, dec := fun i => 6 - i.1, ovr := fun i => [(5, .shr tI (i.1 : Int)), (0, .box tRel .shr i.2)], keep := [], sub := fun i => [
  {ι := Nat × Sp.Rel, inv := fun a => a.1 <= 6 /\ a.2 = Sp.Ax.rowA i.1 (Sp.Ax.closeN x i.1) a.1, dec := fun a => 6 - a.1, ovr := fun a => [(8, .shr tI (a.1 : Int)), (0, .box tRel .shr a.2)], keep := [5, 2], sub := fun a => [
   {ι := Nat × Sp.Rel, inv := fun b => b.1 <= 6 /\ b.2 = Sp.Ax.rowB i.1 a.1 (Sp.Ax.rowA i.1 (Sp.Ax.closeN x i.1) a.1) b.1, dec := fun b => 6 - b.1, ovr := fun b => [(11, .shr tI (b.1 : Int)), (0, .box tRel .shr b.2)], keep := [5, 2, 8, 3] }] }] }]
def S65 : aU := { args := [.sptr tRel], multi := false, res := .bool, mode := .shr, pre := fun _ => True, fn := fun x => Sp.Ax.round x.1 }
def C65 : Ctx := mkC 15 []
def L65 (x : aO S65.args) : List aS := [
 {ι := Nat, inv := fun i => i <= 6 /\ ∀ a < i, Sp.Ax.cE x.1 a a = false, dec := fun i => 6 - i, ovr := fun i => [(4, .shr tI (i : Int))], keep := [0] }]
def S63 : aU := { args := [.val tGr], multi := false, res := tRel, mode := .shr, pre := fun x => List.length x.1.1 <= 6 /\ ∀ n ∈ (x.1.2.2.2.1 : List Int), inN n 6, fn := fun x => Sp.Ax.order x.1 }
def mRel : Md := .own (.own .shr)
def C63 : Ctx := mkC 68 []
def L63 (x : aO S63.args) : List aS := [
 {ι := Nat, inv := fun i => i <= List.length x.1.1, dec := fun i => List.length x.1.1 - i, ovr := fun i => [(13, .shr tI (i : Int)), (3, .box tRel mRel (Sp.Ax.mat (Sp.Ax.oA x.1.1 i)))], keep := [1, 2, 11, 12], sub := fun i => [
  {ι := Nat, inv := fun k => i < k /\ k <= List.length x.1.1, dec := fun k => List.length x.1.1 - k, ovr := fun k => [(5, .shr tI (k : Int)), (3, .box tRel mRel (Sp.Ax.mat (Sp.Ax.oB x.1.1 i k)))], keep := [1, 2, 11, 12, 13, 4] }] },
 {ι := Nat, inv := fun i => i <= List.length x.1.2.2.2.1, dec := fun i => List.length x.1.2.2.2.1 - i, ovr := fun i => [(46, .shr tI (i : Int)), (3, .box tRel mRel (Sp.Ax.mat (Sp.Ax.oC x.1.1 x.1.2.2.2.1 i)))], keep := [1, 2, 44, 45], sub := fun i => [
  {ι := Nat, inv := fun k => i + 1 + k <= List.length x.1.2.2.2.1, dec := fun k => List.length x.1.2.2.2.1 - k, ovr := fun k => [(57, .shr tI (k : Int)), (3, .box tRel mRel (Sp.Ax.mat (Sp.Ax.oD x.1.1 x.1.2.2.2.1 i k)))], keep := [1, 2, 44, 45, 46, 6, 7, 55, 56] }] }]
def S60 : aU := { args := [.val (.slice tI), .val (.slice tLEv), .fn [a9] .bool], multi := false, res := .bool, mode := .shr, pre := fun x => List.length x.2.1 <= 1000 /\ ∀ o, x.2.2.1.pre (o, ()), fn := fun x => Sp.Ax.isList x.1 x.2.1 (fun o => x.2.2.1.fn (o, ())) }
def C60 : Ctx := mkC 68 []
def L60 (x : aO S60.args) : List aS := [
 {ι := Nat × List Bool, inv := fun i => i.1 <= List.length x.1 /\ i.2.length = List.length x.2.1 /\ (List.take i.1 x.1).Nodup /\ (∀ n ∈ (List.take i.1 x.1 : List Int), 0 <= n /\ n < (List.length x.2.1 : Int) /\ x.2.2.1.fn ((Sp.Ax.ev x.2.1 n).2.1, ()) = true) /\ ∀ n < List.length x.2.1, (i.2.getD n false = true ↔ (n : Int) ∈ (List.take i.1 x.1 : List Int)), dec := fun i => List.length x.1 - i.1, ovr := fun i => [(16, .shr tI (i.1 : Int)), (7, .own (.slice .bool) (.own .shr) i.2)], keep := [0, 1, 2, 14, 15] },
 {ι := Nat, inv := fun i => i <= List.length x.2.1 /\ ∀ n < i, x.2.2.1.fn ((Sp.Ax.ev x.2.1 n).2.1, ()) = true -> (n : Int) ∈ (x.1 : List Int), dec := fun i => List.length x.2.1 - i, ovr := fun i => [(50, .shr tI (i : Int))], keep := [0, 1, 2, 7, 48, 49] }]
def S56 : aU := { args := [.val tLit], multi := false, res := .bool, mode := .shr, pre := fun x => (Sp.Ax.evs 0 x.1.1).length <= 1000, fn := fun x => Sp.Ax.valid x.1 }
def C56 : Ctx := mkC 31 [(55, S55), (87, S87), (88, S88)]
def L56 (x : aO S56.args) : List aS := []
end Go.User.Ax
namespace Sp.Ax
open Relation
def coh (g : Gr) (a b : Int) : Bool :=
 let low := if bQ (ev g.1 a).2.1 = true then (plc g a).1 else (plc g a).2.1
 !(reads (ev g.1 b).2.1 && decide ((plc g b).2.1 < low)) && !(bQ (ev g.1 b).2.1 && decide ((plc g b).1 <= low))
def src (e : List LEv) (g : Gr) (n : Nat) : Prop :=
 (ev g.1 n).1 = (ev e n).1 /\ (ev g.1 n).2.1 = (ev e n).2.1 /\ -1 <= g.2.1.getD n 0 /\ g.2.1.getD n 0 < (e.length : Int) /\
 (0 <= g.2.1.getD n 0 -> reads (ev e n).2.1 = true /\ bQ (ev e (g.2.1.getD n 0)).2.1 = true /\ (ev e (g.2.1.getD n 0)).2.1.2.1 = (ev e n).2.1.2.1)
instance (e : List LEv) (g : Gr) (n : Nat) : Decidable (src e g n) := by unfold src; infer_instance
def got (g : Gr) (n : Nat) : Prop := (ev g.1 n).2.2.1 = if reads (ev g.1 n).2.1 = true then value g.1 (g.2.1.getD n 0) else 0
instance (g : Gr) (n : Nat) : Decidable (got g n) := by unfold got; infer_instance
def right (t : Lit) (g : Gr) : Bool :=
 valid t && decide (g.1.length = (evs 0 t.1).length) && decide (g.2.1.length = (evs 0 t.1).length) && decide (g.2.2.1.length = 3) &&
 decide (∀ n < (evs 0 t.1).length, src (evs 0 t.1) g n) && decide (∀ n < g.1.length, got g n) &&
 ((List.range 3).all fun p => isList (g.2.2.1.getD p []) (evs 0 t.1) (fun o => bQ o && decide (o.2.1 = (p : Int)))) &&
 isList g.2.2.2.1 (evs 0 t.1) (fun o => decide (o.1 = 4))
def flowN (g : Gr) (i a b : Nat) : Bool := ordF g.1 g.2.2.2.1 a b || (decide (b < i) && decide (g.2.1.getD b 0 = (a : Int)))
def flow (g : Gr) : Rel := close (mat (flowN g g.2.1.length))
def before (g : Gr) : Rel := close (order g)
def badAdd (g : Gr) (a : Nat) : Bool := decide ((ev g.1 a).2.1.1 = 3) && !decide ((plc g a).2.1 = (plc g a).1 - 1)
def badPair (g : Gr) (a b : Nat) : Bool := cE (before g) a b && !decide ((ev g.1 b).2.1.1 = 4) && decide ((ev g.1 a).2.1.2.1 = (ev g.1 b).2.1.2.1) && !coh g a b
def okEv (g : Gr) (a : Nat) : Prop := (ev g.1 a).2.1.1 = 4 ∨ (badAdd g a = false /\ ∀ b < g.1.length, badPair g a b = false)
instance (g : Gr) (a : Nat) : Decidable (okEv g a) := by unfold okEv; infer_instance
def allowed (t : Lit) (g : Gr) : Bool := right t g && !round (flow g) && decide (∀ a < g.1.length, okEv g a)
end Sp.Ax
namespace Go.User.Ax
open Go.Lf Go.Proofs
def okAt (g : Sp.Gr) (n : Int) : Prop := inN n g.1.length /\ inN n g.2.1.length /\ inN (Sp.Ax.ev g.1 n).2.1.2.1 g.2.2.1.length
def S67 : aU := { args := [.val tGr, .val tI, .val tI], multi := false, res := .bool, mode := .shr, pre := fun x => okAt x.1 x.2.1 /\ okAt x.1 x.2.2.1, fn := fun x => Sp.Ax.coh x.1 x.2.1 x.2.2.1 }
def C67 : Ctx := mkC 54 [(66, S66), (57, S57), (58, S58)]
def L67 (x : aO S67.args) : List aS := []
def S32 : aU := { args := [.val tLit, .val tGr], multi := false, res := .bool, mode := .shr, pre := fun x => (Sp.Ax.evs 0 x.1.1).length <= 1000, fn := fun x => Sp.Ax.right x.1 x.2.1 }
def C32 : Ctx := mkC 144 [(55, S55), (56, S56), (57, S57), (58, S58), (59, S59), (60, S60), (61, S61), (62, S62)]
def L32 (x : aO S32.args) : List aS := [
 {ι := Nat, inv := fun i => i <= (Sp.Ax.evs 0 x.1.1).length /\ ∀ n < i, Sp.Ax.src (Sp.Ax.evs 0 x.1.1) x.2.1 n, dec := fun i => (Sp.Ax.evs 0 x.1.1).length - i, ovr := fun i => [(43, .shr tI (i : Int))], keep := [2, 3, 5, 41, 42] },
 {ι := Nat, inv := fun i => i <= List.length x.2.1.1 /\ ∀ n < i, Sp.Ax.got x.2.1 n, dec := fun i => List.length x.2.1.1 - i, ovr := fun i => [(107, .shr tI (i : Int))], keep := [2, 3, 5, 105, 106] },
 {ι := Nat, inv := fun i => i <= 3 /\ ∀ p < i, Sp.Ax.isList (List.getD x.2.1.2.2.1 p []) (Sp.Ax.evs 0 x.1.1) (fun o => Sp.Ax.bQ o && decide (o.2.1 = (p : Int))) = true, dec := fun i => 3 - i, ovr := fun i => [(127, .shr tI (i : Int))], keep := [2, 3, 5] }]
def S33 : aU := { args := [.val tLit, .val tGr], multi := false, res := .bool, mode := .shr, pre := fun x => (Sp.Ax.evs 0 x.1.1).length <= 1000, fn := fun x => Sp.Ax.allowed x.1 x.2.1 }
def C33 : Ctx := { mkC 103 [(32, S32), (63, S63), (65, S65), (66, S66), (67, S67)] with ptrs := [(64, S64)] }
def L33 (x : aO S33.args) : List aS := [
 {ι := Nat, inv := fun i => i <= List.length x.2.1.2.1, dec := fun i => List.length x.2.1.2.1 - i, ovr := fun i => [(24, .shr tI (i : Int)), (6, .box tRel mRel (Sp.Ax.mat (Sp.Ax.flowN x.2.1 i)))], keep := [2, 3, 5, 22, 23] },
 {ι := Nat, inv := fun i => i <= List.length x.2.1.1 /\ ∀ a < i, Sp.Ax.okEv x.2.1 a, dec := fun i => List.length x.2.1.1 - i, ovr := fun i => [(42, .shr tI (i : Int))], keep := [2, 3, 5, 40, 41], sub := fun i => [
  {ι := Nat, inv := fun k => k <= List.length x.2.1.1 /\ ∀ b < k, Sp.Ax.badPair x.2.1 i b = false, dec := fun k => List.length x.2.1.1 - k, ovr := fun k => [(69, .shr tI (k : Int))], keep := [2, 3, 5, 40, 41, 42, 9, 10, 67, 68] }] }]
end Go.User.Ax
namespace Go.User.Ax
open Go.Proofs Go.Lf
set_option maxRecDepth 100000
theorem vc90 : (bV C90 (stpQ C90) S90 L90 Try.f90) = (
let q0 : Prop := (True /\ True) /\ True;
let q1 : Prop := True /\ True /\ True;
let q2 : Int := (0 : Int);
let q3 : Prop := q1 /\ True;
let q4 : Int := (1 : Int);
∀ (x : List Int × Int × Unit),
 let q5 : Nat := x.1.length;
 let q6 : Int := (↑q5 : Int);
 let q7 : Prop := x.1 = x.1 /\ x.2.1 = x.2.1 /\ q6 = q6 /\ True;
 let q8 : Int := Sp.Ax.idx x.1 x.2.1;
 True ->
 aD tI.slice x.1 /\ aD tI x.2.1 /\ True ->
 q0 /\
 ((True /\ q1) /\ True) /\
 (∃ (x_1 : Nat), (x_1 <= q5 /\ ¬x.2.1 ∈ List.take x_1 x.1) /\ q2 = (↑x_1 : Int) /\ q7) /\
 ∀ (x_1 : Nat),
 let q9 : Bool := decide ((↑x_1 : Int) < q6);
 let q10 : Bool := x.2.1 == x.1.getD (↑x_1 : Int).toNat q2;
 let q11 : Int := (↑x_1 : Int) + q4;
 x_1 <= q5 /\ ¬x.2.1 ∈ List.take x_1 x.1 -> aD tI (↑x_1 : Int) /\ True -> q0 /\ (q9 = true -> q3 /\ ((True /\ True /\ True /\ inN (↑x_1 : Int) q5 /\ q1) /\ True) /\ (q10 = true -> q3 /\ (↑x_1 : Int) = q8) /\ (q10 = false -> ((inK IntKind.i64 q11 /\ True /\ True) /\ True) /\ ∃ (y : Nat), (y <= q5 /\ ¬x.2.1 ∈ List.take y x.1) /\ q5 - y < q5 - x_1 /\ q11 = (↑y : Int) /\ q7)) /\ (q9 = false -> q0 /\ -q4 = q8)) := by kernel_rfl
theorem vc57 : (bV C57 (stpQ C57) S57 L57 Try.f57) = (
let q0 : Prop := True /\ True /\ True;
∀ (x : Sp.LOp × Unit),
 let q1 : Bool := x.1.1 == (1 : Int);
 let q2 : Prop := (true && bif q1 then false else true) = true -> True;
 True -> aD a9 x.1 /\ True -> (q0 /\ True) /\ ((True /\ True /\ True /\ True /\ q2 /\ q2 /\ q2 /\ q0) /\ True) /\ (bif q1 then true else x.1.1 == (3 : Int)) = Sp.Ax.reads x.1) := by kernel_rfl
theorem vc58 : (bV C58 (stpQ C58) S58 L58 Try.f58) = (
let q0 : Prop := True /\ True /\ True;
∀ (x : Sp.LOp × Unit),
 let q1 : Bool := x.1.1 == (2 : Int);
 let q2 : Prop := (true && bif q1 then false else true) = true -> True;
 True -> aD a9 x.1 /\ True -> (q0 /\ True) /\ ((True /\ True /\ True /\ True /\ q2 /\ q2 /\ q2 /\ q0) /\ True) /\ (bif q1 then true else x.1.1 == (3 : Int)) = Sp.Ax.bQ x.1) := by kernel_rfl
theorem vc89 : (bV C89 (stpQ C89) S89 L89 Try.f89) = (
let q0 : Prop := True /\ True /\ True;
let q1 : Prop := q0 /\ True;
let q2 : Int := (4 : Int);
let q3 : Int := (0 : Int);
let q4 : Int := (3 : Int);
let q5 : Int := (2 : Int);
let q6 : Int := (100 : Int);
∀ (x : Sp.LOp × Unit),
 let q7 : Bool := x.1.1 == q2;
 let q8 : Bool := x.1.1 == (1 : Int);
 let q9 : Bool := decide (q3 <= x.1.2.1);
 let q10 : Prop := (true && bif q9 then true else false) = true -> True;
 let q11 : Bool := bif q9 then decide (x.1.2.1 < q4) else false;
 let q12 : Prop := (true && bif q11 then true else false) = true -> True;
 let q13 : Bool := x.1.1 == q5;
 let q14 : Prop := q13 = true;
 let q15 : Bool := bif q11 then decide (-q6 <= x.1.2.2.1) else false;
 let q16 : Prop := (true && bif q15 then true else false) = true -> True;
 let q17 : Prop := ((True /\ True /\ True /\ True /\ q10 /\ q10 /\ q10 /\ True /\ True /\ q12 /\ q12 /\ q12 /\ True /\ True /\ q16 /\ q16 /\ q16 /\ q0) /\ True) /\ (bif q15 then decide (x.1.2.2.1 <= q6) else false) = Sp.Ax.usual x.1;
 let q18 : Prop := q13 = false;
 let q19 : Prop := ((True /\ True) /\ True) /\ false = Sp.Ax.usual x.1;
 let q20 : Bool := x.1.1 == q4;
 True -> aD a9 x.1 /\ True -> q1 /\ q1 /\ q1 /\ (q7 = true -> ((True /\ True /\ q0) /\ True) /\ (decide (x.1.1 = q2) && (decide (x.1.2.1 = q3) && (decide (x.1.2.2.1 = q3) && true))) = Sp.Ax.usual x.1) /\ (q7 = false -> q1 /\ (q8 = true -> ((True /\ True /\ True /\ True /\ q10 /\ q10 /\ q10 /\ True /\ True /\ q12 /\ q12 /\ q12 /\ q0) /\ True) /\ (bif q11 then x.1.2.2.1 == q3 else false) = Sp.Ax.usual x.1) /\ (q8 = false -> q1 /\ (q14 -> (q14 -> q17) /\ (q18 -> q19)) /\ (q18 -> q1 /\ (q20 = true -> q17) /\ (q20 = false -> q19))))) := by kernel_rfl
theorem vc88 : (bV C88 (stpQ C88) S88 L88 Try.f88) = (
let q0 : Prop := True /\ True /\ True;
∀ (x : (Int × Sp.LOp × Int × Unit) × Unit),
 let q1 : Bool := !Sp.Ax.usual x.1.2.1;
 True -> aD (tI.prod (a9.prod (tI.prod Ty.unit))) x.1 /\ True -> (q0 /\ True) /\ ((True /\ True /\ True /\ q0) /\ True) /\ q1 = q1) := by kernel_rfl
theorem vc99 : (bV C99 (stpQ C99) S99 L99 Try.f99) = (
let q0 : List Ty := Go.User.tLEv :: ([] : List Ty);
let q1 : Prop := (True /\ True) /\ True;
let q2 : Prop := True /\ True /\ True;
let q3 : Int := (0 : Int);
let q4 : Prop := q0 = q0;
let q5 : Prop := q2 /\ True;
let q6 : Int × Unit := (q3, ());
let q7 : Int := (1 : Int);
∀ (x : List (Int × Sp.LOp × Int × Unit) × Fun q0 Ty.bool × Unit),
 let q8 : Nat := x.1.length;
 let q9 : Int := (↑q8 : Int);
 let q10 : Prop := x.1 = x.1 /\ (∃ (h1 : q4), ∃ (h2 : Ty.bool = Ty.bool), x.2.1 = x.2.1) /\ q9 = q9 /\ True;
 let q11 : Int := Sp.Ax.findI (fun (e : Sp.LEv) => x.2.1.2 (e, ())) x.1;
 (∀ (e : Int × Sp.LOp × Int × Unit), x.2.1.1 (e, ())) ->
 aD (tI.prod (a9.prod (tI.prod Ty.unit))).slice x.1 /\ True ->
 q1 /\
 ((True /\ q2) /\ True) /\
 (∃ (x_1 : Nat), (x_1 <= q8 /\ ∀ (e : Int × Sp.LOp × Int × Unit), e ∈ List.take x_1 x.1 -> x.2.1.2 (e, ()) = false) /\ q3 = (↑x_1 : Int) /\ q10) /\
 ∀ (x_1 : Nat),
 let q12 : Bool := decide ((↑x_1 : Int) < q9);
 let q13 : (Int × Sp.LOp × Int × Unit) × Unit := (x.1.getD (↑x_1 : Int).toNat (q3, (q3, q3, q6), q6), ());
 let q14 : Bool := x.2.1.2 q13;
 let q15 : Int := (↑x_1 : Int) + q7;
 (x_1 <= q8 /\ ∀ (e : Int × Sp.LOp × Int × Unit), e ∈ List.take x_1 x.1 -> x.2.1.2 (e, ()) = false) -> aD tI (↑x_1 : Int) /\ True -> q1 /\ (q12 = true -> q5 /\ ((True /\ True /\ True /\ inN (↑x_1 : Int) q8 /\ True /\ x.2.1.1 q13 /\ True) /\ True) /\ (q14 = true -> q5 /\ (↑x_1 : Int) = q11) /\ (q14 = false -> ((inK IntKind.i64 q15 /\ True /\ True) /\ True) /\ ∃ (y : Nat), (y <= q8 /\ ∀ (e : Int × Sp.LOp × Int × Unit), e ∈ List.take y x.1 -> x.2.1.2 (e, ()) = false) /\ q8 - y < q8 - x_1 /\ q15 = (↑y : Int) /\ q10)) /\ (q12 = false -> q1 /\ -q7 = q11)) := by kernel_rfl
theorem vc87 : (bV C87 (stpQ C87) S87 L87 Try.f87) = (
∀ (x : List (Int × Sp.LOp × Int × Unit) × Fun (Go.User.tLEv :: ([] : List Ty)) Ty.bool × Unit),
 let q0 : Prop := ∀ (e : Int × Sp.LOp × Int × Unit), x.2.1.1 (e, ());
 q0 -> aD (tI.prod (a9.prod (tI.prod Ty.unit))).slice x.1 /\ True -> ((True /\ True) /\ True) /\ ((True /\ True /\ q0 /\ True /\ True /\ True) /\ True) /\ decide (Sp.Ax.findI (fun (e : Sp.LEv) => x.2.1.2 (e, ())) x.1 ≥ (0 : Int)) = x.1.any fun (e : Go.User.tLEv.den) => x.2.1.2 (e, ())) := by kernel_rfl
theorem vc59 : (bV C59 (stpQ C59) S59 L59 Try.f59) = (
let q0 : Prop := True /\ True /\ True;
let q1 : Prop := True /\ q0;
let q2 : Int := (0 : Int);
let q3 : Prop := True /\ q1;
let q4 : Prop := True /\ q3;
let q5 : Int × Unit := (q2, ());
let q6 : Int × Sp.LOp × Int × Unit := (q2, (q2, q2, q5), q5);
∀ (x : (List (Int × Sp.LOp × Int × Unit) × List Int × List (List Int) × List Int × Unit) × Int × Unit),
 let q7 : Nat := x.1.1.length;
 let q8 : Bool := decide (x.2.1 < q2);
 let q9 : Int := Sp.Ax.value x.1.1 x.2.1;
 let q10 : Prop := inN x.2.1 q7;
 let q11 : Prop := True /\ True /\ True /\ q10 /\ q4;
 let q12 : Sp.LOp × Int × Unit := (x.1.1.getD x.2.1.toNat q6).2;
 let q13 : Sp.LOp := q12.1;
 let q14 : Bool := q13.1 == (3 : Int);
 let q15 : Int := q13.2.2.1;
 x.2.1 < (↑q7 : Int) -> aD ((tI.prod (a9.prod (tI.prod Ty.unit))).slice.prod (tI.slice.prod (tI.slice.slice.prod (tI.slice.prod Ty.unit)))) x.1 /\ aD tI x.2.1 /\ True -> (q0 /\ True) /\ (q1 /\ True) /\ (q8 = true -> ((True /\ True) /\ True) /\ q2 = q9) /\ (q8 = false -> (q11 /\ True) /\ (q14 = true -> ((True /\ True /\ True /\ q10 /\ True /\ True /\ q11) /\ True) /\ IntKind.i64.wrap (q12.2.1 + q15) = q9) /\ (q14 = false -> ((True /\ True /\ True /\ q10 /\ q3) /\ True) /\ q15 = q9))) := by kernel_rfl
theorem vc61 : (bV C61 (stpQ C61) S61 L61 Try.f61) = (
let q0 : Prop := True /\ True /\ True;
∀ (x : Sp.LOp × Int × Unit),
 let q1 : Prop := (true && bif Sp.Ax.bQ x.1 then true else false) = true -> True;
 True -> aD a9 x.1 /\ aD tI x.2.1 /\ True -> (q0 /\ True) /\ ((True /\ True /\ True /\ q1 /\ q1 /\ q1 /\ q1 /\ q0) /\ True) /\ (bif Sp.Ax.bQ x.1 then x.1.2.1 == x.2.1 else false) = (Sp.Ax.bQ x.1 && decide (x.1.2.1 = x.2.1))) := by kernel_rfl
theorem vc62 : (bV C62 (stpQ C62) S62 L62 Try.f62) = (
let q0 : Prop := True /\ True /\ True;
∀ (x : Sp.LOp × Unit), True -> aD a9 x.1 /\ True -> (q0 /\ True) /\ ((True /\ True /\ q0) /\ True) /\ (x.1.1 == (4 : Int)) = decide (x.1.1 = (4 : Go.User.tI.den))) := by kernel_rfl
theorem vc55 : (bV C55 (stpQ C55) S55 L55 Try.f55) = (
let q0 : Int := (0 : Int);
let q1 : Prop := True /\ True /\ True;
let q2 : Prop := q1 /\ True;
let q3 : Prop := (True /\ True) /\ True;
let q4 : Prop := True /\ q1;
let q5 : Prop := True /\ q4;
let q6 : Int × Unit := (q0, ());
let q7 : Sp.LOp := (q0, q0, q6);
let q8 : Int := (1 : Int);
∀ (x : Sp.Lit × Unit),
 let q9 : List (Int × Sp.LOp × Int × Unit) := Sp.Ax.evs q0 x.1.1;
 let q10 : Nat := x.1.1.length;
 let q11 : Prop := x.1 = x.1;
 let q12 : Prop := x.1.1 = x.1.1;
 let q13 : Int := (↑q10 : Int);
 let q14 : Prop := q13 = q13;
 let q15 : Prop := q11 /\ q12 /\ q14 /\ True;
 q9.length <= (1000 : Nat) ->
 aD tLit x.1 /\ True ->
 q2 /\
 q3 /\
 (q5 /\ True) /\
 (∃ (x_1 : Nat × List Sp.LEv), (x_1.1 <= q10 /\ x_1.2 = Sp.Ax.evs q0 (List.take x_1.1 x.1.1)) /\ q0 = (↑x_1.1 : Int) /\ x_1.2 = ([] : List Go.User.tLEv.den) /\ q15) /\
 ∀ (x_1 : Nat × List Sp.LEv),
 let q16 : List (Int × Sp.LOp × Int × Unit) := Sp.Ax.evs q0 (List.take x_1.1 x.1.1);
 let q17 : Int := (↑x_1.1 : Int);
 let q18 : Bool := decide (q17 < q13);
 let q19 : List Sp.LOp := x.1.1.getD x_1.1 (([] : List Go.User.a9.den));
 let q20 : Nat := q19.length;
 let q21 : Prop := q17 = q17;
 let q22 : List Sp.LOp := x.1.1.getD q17.toNat (([] : List Go.User.a9.den));
 let q23 : Nat := q22.length;
 let q24 : Int := (↑q23 : Int);
 let q25 : Prop := q11 /\ q12 /\ q14 /\ q21 /\ q21 /\ q22 = q22 /\ q24 = q24 /\ True;
 let q26 : Int := q17 + q8;
 x_1.1 <= q10 /\ x_1.2 = q16 ->
 aD tI q17 /\ aD (tI.prod (a9.prod (tI.prod Ty.unit))).slice x_1.2 /\ True ->
 q3 /\
 (q18 = true ->
 ((True /\ inN q17 q10 /\ q4) /\ True) /\
 (q4 /\ True) /\
 (∃ (x : Nat × List Sp.LEv), (x.1 <= q20 /\ x.2 = q16 ++ List.map (Sp.Ax.mkEv q17) (List.take x.1 q19)) /\ q0 = (↑x.1 : Int) /\ x_1.2 = x.2 /\ q25) /\
 ∀ (x_2 : Nat × List Sp.LEv),
 let q27 : Int := (↑x_2.1 : Int);
 let q28 : Bool := decide (q27 < q24);
 let q29 : List (Int × Sp.LOp × Int × Unit) := (q17, q22.getD q27.toNat q7, q6) :: ([] : List Go.User.tLEv.den);
 let q30 : Int := q27 + q8;
 x_2.1 <= q20 /\ x_2.2 = q16 ++ List.map (Sp.Ax.mkEv q17) (List.take x_2.1 q19) -> aD tI q27 /\ aD (tI.prod (a9.prod (tI.prod Ty.unit))).slice x_2.2 /\ True -> q3 /\ (q28 = true -> ((inN q27 q23 /\ q1) /\ True /\ True) /\ ((True /\ q5) /\ (↑(x_2.2.length + q29.length) : Int) <= aN /\ True /\ True) /\ ((inK IntKind.i64 q30 /\ True /\ True) /\ True) /\ ∃ (y : Nat × List Sp.LEv), (y.1 <= q20 /\ y.2 = q16 ++ List.map (Sp.Ax.mkEv q17) (List.take y.1 q19)) /\ q20 - y.1 < q20 - x_2.1 /\ q30 = (↑y.1 : Int) /\ x_2.2 ++ q29 = y.2 /\ q25) /\ (q28 = false -> ((inK IntKind.i64 q26 /\ True /\ True) /\ True) /\ ∃ (y : Nat × List Sp.LEv), (y.1 <= q10 /\ y.2 = Sp.Ax.evs q0 (List.take y.1 x.1.1)) /\ q10 - y.1 < q10 - x_1.1 /\ q26 = (↑y.1 : Int) /\ x_2.2 = y.2 /\ q15)) /\
 (q18 = false -> q2 /\ x_1.2 = q9)) := by kernel_rfl
theorem vc66 : (bV C66 (stpQ C66) S66 L66 Try.f66) = (
let q0 : Prop := True /\ True /\ True;
let q1 : Int := (0 : Int);
let q2 : Int × Unit := (q1, ());
let q3 : Prop := True /\ q0;
∀ (x : (List (Int × Sp.LOp × Int × Unit) × List Int × List (List Int) × List Int × Unit) × Int × Unit),
 let q4 : Prop := inN x.2.1 x.1.1.length;
 let q5 : Prop := inN x.2.1 x.1.2.1.length;
 let q6 : Nat := x.1.2.2.1.length;
 let q7 : Int := (x.1.1.getD x.2.1.toNat (q1, (q1, q1, q2), q2)).2.1.2.1;
 let q8 : List Int := x.1.2.2.1.getD q7.toNat (([] : List Go.User.tI.den));
 q4 /\ q5 /\ inN (Sp.Ax.ev x.1.1 x.2.1).2.1.2.1 q6 -> aD ((tI.prod (a9.prod (tI.prod Ty.unit))).slice.prod (tI.slice.prod (tI.slice.slice.prod (tI.slice.prod Ty.unit)))) x.1 /\ aD tI x.2.1 /\ True -> (q0 /\ True) /\ ((True /\ True /\ True /\ True /\ True /\ q4 /\ True /\ True /\ True /\ inN q7 q6 /\ q0) /\ True) /\ ((True /\ True /\ q3) /\ True /\ True) /\ ((True /\ True /\ True /\ True /\ q5 /\ q3) /\ True /\ True) /\ ((True /\ True) /\ True /\ True) /\ (Sp.Ax.idx q8 x.2.1, Sp.Ax.idx q8 (x.1.2.1.getD x.2.1.toNat q1), ()) = Sp.Ax.plc x.1 x.2.1) := by kernel_rfl
theorem vc64 : (∀ q : Nat, funP (C64 q) (stpQ (C64 q)) S64 (L64 q) Try.f64) = (
let q0 : Nat := (6 : Nat);
let q1 : Prop := (True /\ True) /\ True;
let q2 : Prop := (True /\ True /\ True) /\ True;
let q3 : List Bool := List.replicate q0 false;
let q4 : Int := (1 : Int);
∀ (q : Nat) (x : List (List Bool)) (y : Unit),
 True ->
 aD (Ty.arr q0 (Ty.arr q0 Ty.bool)) x ->
 True ->
 q1 /\
 (∃ (x_1 : Nat × Sp.Rel), (x_1.1 <= q0 /\ x_1.2 = Sp.Ax.closeN x x_1.1) /\ (0 : Int) = (↑x_1.1 : Int) /\ x = x_1.2 /\ True) /\
 ∀ (x_1 : Nat × Sp.Rel),
 let q5 : Int := (↑x_1.1 : Int);
 let q6 : Bool := decide (q5 < (6 : Int));
 let q7 : Prop := q5 = q5;
 let q8 : Prop := q7 /\ q7 /\ True;
 let q9 : Prop := inN q5 q0;
 let q10 : Nat := q5.toNat;
 let q11 : Int := q5 + q4;
 x_1.1 <= q0 /\ x_1.2 = Sp.Ax.closeN x x_1.1 ->
 aD tI q5 /\ aD (Ty.arr q0 (Ty.arr q0 Ty.bool)) x_1.2 /\ True ->
 q1 /\
 (q6 = true ->
 q2 /\
 q1 /\
 (∃ (x_2 : Nat × Sp.Rel), (x_2.1 <= q0 /\ x_2.2 = Sp.Ax.rowA x_1.1 (Sp.Ax.closeN x x_1.1) x_2.1) /\ (0 : Int) = (↑x_2.1 : Int) /\ x_1.2 = x_2.2 /\ q8) /\
 ∀ (x_2 : Nat × Sp.Rel),
 let q12 : List (List Bool) := Sp.Ax.rowA x_1.1 (Sp.Ax.closeN x x_1.1) x_2.1;
 let q13 : Int := (↑x_2.1 : Int);
 let q14 : Bool := decide (q13 < (6 : Int));
 let q15 : Prop := q13 = q13;
 let q16 : Prop := q7 /\ q7 /\ q15 /\ q15 /\ True;
 let q17 : Prop := inN q13 q0;
 let q18 : Nat := q13.toNat;
 let q19 : Int := q13 + q4;
 x_2.1 <= q0 /\ x_2.2 = q12 ->
 aD tI q13 /\ aD (Ty.arr q0 (Ty.arr q0 Ty.bool)) x_2.2 /\ True ->
 q1 /\
 (q14 = true ->
 q2 /\
 q1 /\
 (∃ (x : Nat × Sp.Rel), (x.1 <= q0 /\ x.2 = Sp.Ax.rowB x_1.1 x_2.1 q12 x.1) /\ (0 : Int) = (↑x.1 : Int) /\ x_2.2 = x.2 /\ q16) /\
 ∀ (x_3 : Nat × Sp.Rel),
 let q20 : Int := (↑x_3.1 : Int);
 let q21 : Bool := decide (q20 < (6 : Int));
 let q22 : Prop := inN q20 q0;
 let q23 : List Bool := List.getD x_3.2 q18 q3;
 let q24 : Nat := q20.toNat;
 let q25 : Bool := q23.getD q24 false;
 let q26 : Bool := true && bif q25 then false else true;
 let q27 : Prop := q26 = true;
 let q28 : Prop := q27 -> True;
 let q29 : Bool := q23.getD q10 false;
 let q30 : Prop := (q26 && bif q29 then true else false) = true;
 let q31 : Prop := q30 -> True;
 let q32 : Int := q20 + q4;
 x_3.1 <= q0 /\ x_3.2 = Sp.Ax.rowB x_1.1 x_2.1 q12 x_3.1 -> aD tI q20 /\ aD (Ty.arr q0 (Ty.arr q0 Ty.bool)) x_3.2 /\ True -> q1 /\ (q21 = true -> q2 /\ ((True /\ True /\ True /\ True /\ True /\ True /\ True /\ q17 /\ q22 /\ True /\ True /\ q28 /\ q28 /\ q28 /\ q28 /\ (q27 -> q17) /\ (q27 -> q9) /\ q28 /\ q28 /\ q31 /\ q31 /\ q31 /\ q31 /\ (q30 -> q9) /\ (q30 -> q22) /\ q31 /\ q28 /\ True /\ True /\ q17 /\ q22 /\ True) /\ True /\ True) /\ ((inK IntKind.i64 q32 /\ True /\ True) /\ True) /\ ∃ (y : Nat × Sp.Rel), (y.1 <= q0 /\ y.2 = Sp.Ax.rowB x_1.1 x_2.1 q12 y.1) /\ q0 - y.1 < q0 - x_3.1 /\ q32 = (↑y.1 : Int) /\ List.set x_3.2 q18 (q23.set q24 (bif q25 then true else bif q29 then List.getD (List.getD x_3.2 q10 q3) q24 false else false)) = y.2 /\ q16) /\ (q21 = false -> ((inK IntKind.i64 q19 /\ True /\ True) /\ True) /\ ∃ (y : Nat × Sp.Rel), (y.1 <= q0 /\ y.2 = Sp.Ax.rowA x_1.1 (Sp.Ax.closeN x x_1.1) y.1) /\ q0 - y.1 < q0 - x_2.1 /\ q19 = (↑y.1 : Int) /\ x_3.2 = y.2 /\ q8)) /\
 (q14 = false -> ((inK IntKind.i64 q11 /\ True /\ True) /\ True) /\ ∃ (y : Nat × Sp.Rel), (y.1 <= q0 /\ y.2 = Sp.Ax.closeN x y.1) /\ q0 - y.1 < q0 - x_1.1 /\ q11 = (↑y.1 : Int) /\ x_2.2 = y.2 /\ True)) /\
 (q6 = false -> x_1.2 = Sp.Ax.close x /\ (([] : List Go.ResultVar)).toArray.toList = ([] : List Go.ResultVar) /\ Ty.unit = Ty.unit)) := by kernel_rfl
theorem vc65 : (bV C65 (stpQ C65) S65 L65 Try.f65) = (
let q0 : Nat := (6 : Nat);
let q1 : Prop := (True /\ True) /\ True;
let q2 : Int := (1 : Int);
∀ (x : List (List Bool) × Unit),
 let q3 : Prop := x.1 = x.1 /\ True;
 True ->
 aD (Ty.arr q0 (Ty.arr q0 Ty.bool)) x.1 /\ True ->
 q1 /\
 q1 /\
 (∃ (x_1 : Nat), (x_1 <= q0 /\ ∀ (a : Nat), a < x_1 -> Sp.Ax.cE x.1 a a = false) /\ (0 : Int) = (↑x_1 : Int) /\ q3) /\
 ∀ (x_1 : Nat),
 let q4 : Bool := decide ((↑x_1 : Int) < (6 : Int));
 let q5 : Prop := inN (↑x_1 : Int) q0;
 let q6 : Nat := (↑x_1 : Int).toNat;
 let q7 : Bool := List.getD (x.1.getD q6 (List.replicate q0 false)) q6 false;
 let q8 : Int := (↑x_1 : Int) + q2;
 (x_1 <= q0 /\ ∀ (a : Nat), a < x_1 -> Sp.Ax.cE x.1 a a = false) -> aD tI (↑x_1 : Int) /\ True -> q1 /\ (q4 = true -> ((True /\ True /\ True) /\ True) /\ ((True /\ True /\ True /\ True /\ q5 /\ q5 /\ True /\ True) /\ True) /\ (q7 = true -> q1 /\ true = Sp.Ax.round x.1) /\ (q7 = false -> ((inK IntKind.i64 q8 /\ True /\ True) /\ True) /\ ∃ (y : Nat), (y <= q0 /\ ∀ (a : Nat), a < y -> Sp.Ax.cE x.1 a a = false) /\ q0 - y < q0 - x_1 /\ q8 = (↑y : Int) /\ q3)) /\ (q4 = false -> q1 /\ false = Sp.Ax.round x.1)) := by kernel_rfl
theorem vc63 : (bV C63 (stpQ C63) S63 L63 Try.f63) = (
let q0 : Nat := (6 : Nat);
let q1 : Prop := True /\ True /\ True;
let q2 : Prop := q1 /\ True;
let q3 : Prop := (True /\ True) /\ True;
let q4 : Prop := True /\ q1;
let q5 : Prop := True /\ q4;
let q6 : Prop := q5 /\ True;
let q7 : Int := (0 : Int);
let q8 : List Bool := List.replicate q0 false;
let q9 : List (List Bool) := List.replicate q0 q8;
let q10 : Prop := q9 = q9;
let q11 : Int := (1 : Int);
let q12 : Int × Unit := (q7, ());
let q13 : Int × Sp.LOp × Int × Unit := (q7, (q7, q7, q12), q12);
let q14 : Nat := (1 : Nat);
∀ (x : (List (Int × Sp.LOp × Int × Unit) × List Int × List (List Int) × List Int × Unit) × Unit),
 let q15 : Nat := x.1.1.length;
 let q16 : List Int := x.1.2.2.2.1;
 let q17 : Prop := x.1 = x.1;
 let q18 : Prop := x.1.1 = x.1.1;
 let q19 : Int := (↑q15 : Int);
 let q20 : Prop := q19 = q19;
 let q21 : Prop := q17 /\ q10 /\ q18 /\ q20 /\ True;
 let q22 : Nat := q16.length;
 let q23 : Prop := q16 = q16;
 let q24 : Int := (↑q22 : Int);
 let q25 : Prop := q24 = q24;
 let q26 : Prop := q17 /\ q10 /\ q23 /\ q25 /\ True;
 (q15 <= q0 /\ ∀ (n : Int), n ∈ q16 -> inN n q0) ->
 aD ((tI.prod (a9.prod (tI.prod Ty.unit))).slice.prod (tI.slice.prod (tI.slice.slice.prod (tI.slice.prod Ty.unit)))) x.1 /\ True ->
 q2 /\
 q3 /\
 q6 /\
 (∃ (x_1 : Nat), x_1 <= q15 /\ q7 = (↑x_1 : Int) /\ q9 = Sp.Ax.mat (Sp.Ax.oA x.1.1 x_1) /\ q21) /\
 ∀ (x_1 : Nat),
 let q27 : List (List Bool) := Sp.Ax.mat (Sp.Ax.oA x.1.1 x_1);
 let q28 : Bool := decide ((↑x_1 : Int) < q19);
 let q29 : Int := (↑x_1 : Int) + q11;
 let q30 : Prop := inK IntKind.i64 q29 /\ True /\ True;
 let q31 : Prop := (↑x_1 : Int) = (↑x_1 : Int);
 let q32 : Prop := q17 /\ q10 /\ q18 /\ q20 /\ q31 /\ q31 /\ True;
 let q33 : Nat := (↑x_1 : Int).toNat;
 x_1 <= q15 ->
 aD tI (↑x_1 : Int) /\ aD (Ty.arr q0 (Ty.arr q0 Ty.bool)) q27 /\ True ->
 q3 /\
 (q28 = true ->
 q2 /\
 ((True /\ q30) /\ True) /\
 (∃ (x_2 : Nat), (x_1 < x_2 /\ x_2 <= q15) /\ q29 = (↑x_2 : Int) /\ q27 = Sp.Ax.mat (Sp.Ax.oB x.1.1 x_1 x_2) /\ q32) /\
 ∀ (x_2 : Nat),
 let q34 : List (List Bool) := Sp.Ax.mat (Sp.Ax.oB x.1.1 x_1 x_2);
 let q35 : Bool := decide ((↑x_2 : Int) < q19);
 let q36 : Int := (↑x_2 : Int) + q11;
 let q37 : Nat := (↑x_2 : Int).toNat;
 x_1 < x_2 /\ x_2 <= q15 -> aD tI (↑x_2 : Int) /\ aD (Ty.arr q0 (Ty.arr q0 Ty.bool)) q34 /\ True -> ((True /\ q5) /\ True) /\ (q35 = true -> ((True /\ True /\ True /\ True /\ True /\ inN (↑x_1 : Int) q15 /\ True /\ True /\ True /\ True /\ True /\ inN (↑x_2 : Int) q15 /\ True /\ True /\ True /\ inN (↑x_1 : Int) q0 /\ inN (↑x_2 : Int) q0 /\ True) /\ True /\ True) /\ ((True /\ inK IntKind.i64 q36 /\ True /\ True) /\ True) /\ ∃ (y : Nat), (x_1 < y /\ y <= q15) /\ q15 - y < q15 - x_2 /\ q36 = (↑y : Int) /\ q34.set q33 (List.set (q34.getD q33 q8) q37 ((x.1.1.getD q33 q13).1 == (x.1.1.getD q37 q13).1)) = Sp.Ax.mat (Sp.Ax.oB x.1.1 x_1 y) /\ q32) /\ (q35 = false -> (q30 /\ True) /\ ∃ (y : Nat), y <= q15 /\ q15 - y < q15 - x_1 /\ q29 = (↑y : Int) /\ q34 = Sp.Ax.mat (Sp.Ax.oA x.1.1 y) /\ q21)) /\
 (q28 = false ->
 q6 /\
 (∃ (x_2 : Nat), x_2 <= q22 /\ q7 = (↑x_2 : Int) /\ q27 = Sp.Ax.mat (Sp.Ax.oC x.1.1 q16 x_2) /\ q26) /\
 ∀ (x_2 : Nat),
 let q38 : List (List Bool) := Sp.Ax.mat (Sp.Ax.oC x.1.1 q16 x_2);
 let q39 : Bool := decide ((↑x_2 : Int) < q24);
 let q40 : Int := (↑x_2 : Int) + q11;
 let q41 : Prop := inK IntKind.i64 q40;
 let q42 : Prop := (↑x_2 : Int) = (↑x_2 : Int);
 let q43 : Int := q16.getD (↑x_2 : Int).toNat q7;
 let q44 : List Int := win q40 q24 q16;
 let q45 : Nat := q44.length;
 let q46 : Int := (↑q45 : Int);
 let q47 : Prop := q17 /\ q10 /\ q23 /\ q25 /\ q42 /\ q42 /\ q43 = q43 /\ q44 = q44 /\ q46 = q46 /\ True;
 let q48 : Nat := q43.toNat;
 x_2 <= q22 ->
 aD tI (↑x_2 : Int) /\ aD (Ty.arr q0 (Ty.arr q0 Ty.bool)) q38 /\ True ->
 q3 /\
 (q39 = true ->
 ((True /\ inN (↑x_2 : Int) q22 /\ q4) /\ True) /\
 ((True /\ True /\ True /\ q41 /\ winI q40 q24 q22 /\ q1) /\ True) /\
 (∃ (x_3 : Nat), x_2 + q14 + x_3 <= q22 /\ q7 = (↑x_3 : Int) /\ q38 = Sp.Ax.mat (Sp.Ax.oD x.1.1 q16 x_2 x_3) /\ q47) /\
 ∀ (x_3 : Nat),
 let q49 : List (List Bool) := Sp.Ax.mat (Sp.Ax.oD x.1.1 q16 x_2 x_3);
 let q50 : Bool := decide ((↑x_3 : Int) < q46);
 let q51 : Int := q44.getD (↑x_3 : Int).toNat q7;
 let q52 : Int := (↑x_3 : Int) + q11;
 x_2 + q14 + x_3 <= q22 -> aD tI (↑x_3 : Int) /\ aD (Ty.arr q0 (Ty.arr q0 Ty.bool)) q49 /\ True -> q3 /\ (q50 = true -> ((inN (↑x_3 : Int) q45 /\ q1) /\ True) /\ ((True /\ True /\ inN q43 q0 /\ inN q51 q0 /\ True) /\ True /\ True) /\ ((inK IntKind.i64 q52 /\ True /\ True) /\ True) /\ ∃ (y : Nat), x_2 + q14 + y <= q22 /\ q22 - y < q22 - x_3 /\ q52 = (↑y : Int) /\ q49.set q48 (List.set (q49.getD q48 q8) q51.toNat true) = Sp.Ax.mat (Sp.Ax.oD x.1.1 q16 x_2 y) /\ q47) /\ (q50 = false -> ((q41 /\ True /\ True) /\ True) /\ ∃ (y : Nat), y <= q22 /\ q22 - y < q22 - x_2 /\ q40 = (↑y : Int) /\ q49 = Sp.Ax.mat (Sp.Ax.oC x.1.1 q16 y) /\ q26)) /\
 (q39 = false -> ((True /\ True) /\ True /\ True) /\ q38 = Sp.Ax.order x.1))) := by kernel_rfl
theorem vc60 : (bV C60 (stpQ C60) S60 L60 Try.f60) = (
let q0 : List Ty := Go.User.a9 :: ([] : List Ty);
let q1 : Prop := (True /\ True) /\ True;
let q2 : Prop := True /\ True /\ True;
let q3 : Prop := (True /\ q2) /\ True;
let q4 : Int := (0 : Int);
let q5 : Prop := q0 = q0;
let q6 : Int × Unit := (q4, ());
let q7 : Int × Sp.LOp × Int × Unit := (q4, (q4, q4, q6), q6);
let q8 : Int := (1 : Int);
∀ (x : List Int × List (Int × Sp.LOp × Int × Unit) × Fun q0 Ty.bool × Unit),
 let q9 : Nat := x.2.1.length;
 let q10 : Int := (↑q9 : Int);
 let q11 : Nat := x.1.length;
 let q12 : Prop := x.1 = x.1;
 let q13 : Prop := x.2.1 = x.2.1;
 let q14 : Prop := ∃ (h1 : q5), ∃ (h2 : Ty.bool = Ty.bool), x.2.2.1 = x.2.2.1;
 let q15 : Int := (↑q11 : Int);
 let q16 : Prop := q12 /\ q13 /\ q14 /\ q12 /\ q15 = q15 /\ True;
 let q17 : Bool := Sp.Ax.isList x.1 x.2.1 fun (o : Sp.LOp) => x.2.2.1.2 (o, ());
 let q18 : Prop := q1 /\ false = q17;
 let q19 : Prop := q13 /\ q10 = q10 /\ True;
 (q9 <= (1000 : Nat) /\ ∀ (o : Sp.LOp), x.2.2.1.1 (o, ())) ->
 aD tI.slice x.1 /\ aD (tI.prod (a9.prod (tI.prod Ty.unit))).slice x.2.1 /\ True ->
 q1 /\
 ((True /\ True /\ ((0 : tI.den) <= q10 /\ q10 <= q10 /\ q10 <= aN) /\ True) /\ True /\ True) /\
 q3 /\
 (∃ (x_1 : Nat × List Bool),
 let q20 : List Int := List.take x_1.1 x.1;
 (x_1.1 <= q11 /\ x_1.2.length = q9 /\ (List.take x_1.1 x.1).Nodup /\ (∀ (n : Int), n ∈ q20 -> q4 <= n /\ n < q10 /\ x.2.2.1.2 ((Sp.Ax.ev x.2.1 n).2.1, ()) = true) /\ ∀ (n : Nat), n < q9 -> (x_1.2.getD n false = true ↔ (↑n : Int) ∈ q20)) /\ q4 = (↑x_1.1 : Int) /\ List.replicate q10.toNat false = x_1.2 /\ q16) /\
 ∀ (x_1 : Nat × List Bool),
 let q21 : List Int := List.take x_1.1 x.1;
 let q22 : Int := (↑x_1.1 : Int);
 let q23 : Bool := decide (q22 < q15);
 let q24 : Int := x.1.getD q22.toNat q4;
 let q25 : Bool := decide (q24 < q4);
 let q26 : Prop := (true && bif q25 then false else true) = true -> True;
 let q27 : Bool := bif q25 then true else decide (q24 ≥ q10);
 let q28 : Prop := (true && bif q27 then false else true) = true;
 let q29 : Prop := q28 -> True;
 let q30 : Nat := x_1.2.length;
 let q31 : Prop := inN q24 q30;
 let q32 : Nat := q24.toNat;
 let q33 : Bool := bif q27 then true else x_1.2.getD q32 false;
 let q34 : Prop := (true && bif q33 then false else true) = true;
 let q35 : Prop := q34 -> True;
 let q36 : Sp.LOp × Unit := ((x.2.1.getD q32 q7).2.1, ());
 let q37 : Bool := bif q33 then true else !x.2.2.1.2 q36;
 let q38 : Int := q22 + q8;
 let q39 : Prop := q12 /\ q13 /\ q14 /\ x_1.2 = x_1.2 /\ q19;
 (x_1.1 <= q11 /\ x_1.2.length = q9 /\ (List.take x_1.1 x.1).Nodup /\ (∀ (n : Int), n ∈ q21 -> q4 <= n /\ n < q10 /\ x.2.2.1.2 ((Sp.Ax.ev x.2.1 n).2.1, ()) = true) /\ ∀ (n : Nat), n < q9 -> (x_1.2.getD n false = true ↔ (↑n : Int) ∈ q21)) ->
 aD tI q22 /\ aD Ty.bool.slice x_1.2 /\ True ->
 q1 /\
 (q23 = true ->
 ((inN q22 q11 /\ q2) /\ True) /\
 ((True /\ True /\ True /\ q26 /\ q26 /\ q26 /\ q26 /\ True /\ True /\ q29 /\ q29 /\ (q28 -> q31) /\ q29 /\ True /\ True /\ q35 /\ q35 /\ q35 /\ (q34 -> inN q24 q9) /\ q35 /\ q35 /\ (q34 -> x.2.2.1.1 q36) /\ q35 /\ True /\ True) /\ True) /\
 (q37 = true -> q18) /\
 (q37 = false ->
 ((True /\ True /\ q31 /\ True) /\ True /\ True) /\
 ((inK IntKind.i64 q38 /\ True /\ True) /\ True) /\
 ∃ (y : Nat × List Bool),
 let q40 : List Int := List.take y.1 x.1;
 (y.1 <= q11 /\ y.2.length = q9 /\ (List.take y.1 x.1).Nodup /\ (∀ (n : Int), n ∈ q40 -> q4 <= n /\ n < q10 /\ x.2.2.1.2 ((Sp.Ax.ev x.2.1 n).2.1, ()) = true) /\ ∀ (n : Nat), n < q9 -> (y.2.getD n false = true ↔ (↑n : Int) ∈ q40)) /\ q11 - y.1 < q11 - x_1.1 /\ q38 = (↑y.1 : Int) /\ x_1.2.set q32 true = y.2 /\ q16)) /\
 (q23 = false ->
 q3 /\
 (∃ (x_2 : Nat), (x_2 <= q9 /\ ∀ (n : Nat), n < x_2 -> x.2.2.1.2 ((Sp.Ax.ev x.2.1 (↑n : Int)).2.1, ()) = true -> (↑n : Int) ∈ x.1) /\ q4 = (↑x_2 : Int) /\ q39) /\
 ∀ (x_2 : Nat),
 let q41 : Bool := decide ((↑x_2 : Int) < q10);
 let q42 : Nat := (↑x_2 : Int).toNat;
 let q43 : Sp.LOp × Unit := ((x.2.1.getD q42 q7).2.1, ());
 let q44 : Bool := x.2.2.1.2 q43;
 let q45 : Prop := (true && bif q44 then true else false) = true;
 let q46 : Prop := q45 -> True;
 let q47 : Bool := bif q44 then !x_1.2.getD q42 false else false;
 let q48 : Int := (↑x_2 : Int) + q8;
 (x_2 <= q9 /\ ∀ (n : Nat), n < x_2 -> x.2.2.1.2 ((Sp.Ax.ev x.2.1 (↑n : Int)).2.1, ()) = true -> (↑n : Int) ∈ x.1) -> aD tI (↑x_2 : Int) /\ True -> q1 /\ (q41 = true -> (q2 /\ True) /\ ((True /\ True /\ True /\ inN (↑x_2 : Int) q9 /\ True /\ True /\ x.2.2.1.1 q43 /\ True /\ q46 /\ q46 /\ (q45 -> inN (↑x_2 : Int) q30) /\ q46 /\ q46 /\ True /\ True) /\ True) /\ (q47 = true -> q18) /\ (q47 = false -> ((inK IntKind.i64 q48 /\ True /\ True) /\ True) /\ ∃ (y : Nat), (y <= q9 /\ ∀ (n : Nat), n < y -> x.2.2.1.2 ((Sp.Ax.ev x.2.1 (↑n : Int)).2.1, ()) = true -> (↑n : Int) ∈ x.1) /\ q9 - y < q9 - x_2 /\ q48 = (↑y : Int) /\ q39)) /\ (q41 = false -> q1 /\ true = q17))) := by kernel_rfl
theorem vc56 : (bV C56 (stpQ C56) S56 L56 Try.f56) = (
let q0 : Int := (0 : Int);
let q1 : Nat := (1000 : Nat);
let q2 : Prop := True /\ True /\ True;
let q3 : Int := (1 : Int);
∀ (x : Sp.Lit × Unit),
 let q4 : List (Int × Sp.LOp × Int × Unit) := Sp.Ax.evs q0 x.1.1;
 let q5 : Prop := q4.length <= q1;
 let q6 : Int := (↑x.1.1.length : Int);
 let q7 : Bool := decide (q6 ≥ q3);
 let q8 : Prop := (true && bif q7 then true else false) = true -> True;
 let q9 : Bool := bif q7 then decide (q6 <= (4 : Int)) else false;
 let q10 : Prop := (true && bif q9 then true else false) = true -> True;
 let q11 : Int := (↑q4.length : Int);
 let q12 : Bool := bif q9 then decide (q11 ≥ q3) else false;
 let q13 : Prop := (true && bif q12 then true else false) = true -> True;
 let q14 : Bool := bif q12 then decide (q11 <= (6 : Int)) else false;
 let q15 : Prop := (true && bif q14 then true else false) = true;
 let q16 : Prop := q15 -> True;
 q5 -> aD tLit x.1 /\ True -> (q2 /\ True) /\ ((True /\ q5 /\ True) /\ True /\ True) /\ ((True /\ True /\ True /\ True /\ True /\ q8 /\ q8 /\ q8 /\ q8 /\ True /\ True /\ q10 /\ q10 /\ q10 /\ True /\ True /\ q13 /\ q13 /\ q13 /\ True /\ True /\ q16 /\ (q15 -> ∀ (e : Int × Sp.LOp × Int × Unit), True) /\ q16 /\ q2) /\ True) /\ (bif q14 then !q4.any fun (e : Go.User.tLEv.den) => !Sp.Ax.usual e.2.1 else false) = Sp.Ax.valid x.1) := by kernel_rfl
theorem vc67 : (bV C67 (stpQ C67) S67 L67 Try.f67) = (
let q0 : Prop := True /\ True /\ True;
let q1 : Prop := q0 /\ True;
let q2 : Prop := True /\ q0;
let q3 : Prop := q2 /\ True;
let q4 : Int := (0 : Int);
let q5 : Int × Unit := (q4, ());
let q6 : Int × Sp.LOp × Int × Unit := (q4, (q4, q4, q5), q5);
let q7 : Prop := (True /\ True) /\ True;
∀ (x : (List (Int × Sp.LOp × Int × Unit) × List Int × List (List Int) × List Int × Unit) × Int × Int × Unit),
 let q8 : Nat := x.1.1.length;
 let q9 : Nat := x.1.2.1.length;
 let q10 : Int := (Sp.Ax.ev x.1.1 x.2.1).2.1.2.1;
 let q11 : Nat := x.1.2.2.1.length;
 let q12 : Int := (Sp.Ax.ev x.1.1 x.2.2.1).2.1.2.1;
 let q13 : Nat := x.1.1.length;
 let q14 : Prop := inN x.2.1 q13;
 let q15 : Nat := x.1.2.1.length;
 let q16 : Nat := x.1.2.2.1.length;
 let q17 : Prop := inN x.2.2.1 q13;
 let q18 : Bool := Sp.Ax.bQ (x.1.1.getD x.2.1.toNat q6).2.1;
 let q19 : Nat := x.2.2.1.toNat;
 let q20 : Sp.LOp := (x.1.1.getD q19 q6).2.1;
 let q21 : Bool := Sp.Ax.reads q20;
 let q22 : Prop := (true && bif q21 then true else false) = true -> True;
 let q23 : Prop := (True /\ True /\ True /\ q22 /\ q22 /\ q22 /\ q22 /\ q0) /\ True;
 let q24 : List Int := x.1.2.2.1.getD q12.toNat (([] : List Int));
 let q25 : Int := Sp.Ax.idx q24 (x.1.2.1.getD q19 q4);
 let q26 : List Int := x.1.2.2.1.getD q10.toNat (([] : List Int));
 let q27 : Int := Sp.Ax.idx q26 x.2.1;
 let q28 : Bool := bif q21 then decide (q25 < q27) else false;
 let q29 : Bool := Sp.Ax.coh x.1 x.2.1 x.2.2.1;
 let q30 : Prop := q7 /\ false = q29;
 let q31 : Bool := Sp.Ax.bQ q20;
 let q32 : Prop := (true && bif q31 then true else false) = true -> True;
 let q33 : Prop := (True /\ True /\ True /\ q32 /\ q32 /\ q32 /\ q32 /\ q0) /\ True;
 let q34 : Int := Sp.Ax.idx q24 x.2.2.1;
 let q35 : Bool := bif q31 then decide (q34 <= q27) else false;
 let q36 : Prop := q7 /\ true = q29;
 let q37 : Int := Sp.Ax.idx q26 (x.1.2.1.getD x.2.1.toNat q4);
 let q38 : Bool := bif q21 then decide (q25 < q37) else false;
 let q39 : Bool := bif q31 then decide (q34 <= q37) else false;
 (inN x.2.1 q8 /\ inN x.2.1 q9 /\ inN q10 q11) /\ inN x.2.2.1 q8 /\ inN x.2.2.1 q9 /\ inN q12 q11 -> aD ((tI.prod (a9.prod (tI.prod Ty.unit))).slice.prod (tI.slice.prod (tI.slice.slice.prod (tI.slice.prod Ty.unit)))) x.1 /\ aD tI x.2.1 /\ aD tI x.2.2.1 /\ True -> q1 /\ ((True /\ True /\ (q14 /\ inN x.2.1 q15 /\ inN q10 q16) /\ True /\ True /\ (q17 /\ inN x.2.2.1 q15 /\ inN q12 q16) /\ q0) /\ q0) /\ (True /\ True /\ True /\ q14 /\ True /\ True /\ True /\ True /\ True /\ q17 /\ True /\ q2) /\ q3 /\ q1 /\ (q18 = true -> q3 /\ q23 /\ (q28 = true -> q30) /\ (q28 = false -> q33 /\ (q35 = true -> q30) /\ (q35 = false -> q36))) /\ (q18 = false -> q23 /\ (q38 = true -> q30) /\ (q38 = false -> q33 /\ (q39 = true -> q30) /\ (q39 = false -> q36)))) := by kernel_rfl
theorem vc32 : (bV C32 (stpQ C32) S32 L32 Try.f32) = (
let q0 : Int := (0 : Int);
let q1 : Nat := (1000 : Nat);
let q2 : Prop := True /\ True /\ True;
let q3 : Prop := True /\ q2;
let q4 : Prop := q3 /\ True;
let q5 : Int := (3 : Int);
let q6 : Prop := (True /\ True) /\ True;
let q7 : Prop := ([] : List Step) = ([] : List Step);
let q8 : Int × Unit := (q0, ());
let q9 : Int × Sp.LOp × Int × Unit := (q0, (q0, q0, q8), q8);
let q10 : Int := (1 : Int);
let q11 : Prop := (True /\ q3) /\ True;
let q12 : Nat := (3 : Nat);
∀ (x : Sp.Lit × (List (Int × Sp.LOp × Int × Unit) × List Int × List (List Int) × List Int × Unit) × Unit),
 let q13 : List (Int × Sp.LOp × Int × Unit) := Sp.Ax.evs q0 x.1.1;
 let q14 : Nat := q13.length;
 let q15 : Prop := q14 <= q1;
 let q16 : Bool := !Sp.Ax.valid x.1;
 let q17 : Prop := (true && bif q16 then false else true) = true -> True;
 let q18 : Nat := x.2.1.1.length;
 let q19 : Int := (↑q18 : Int);
 let q20 : Nat := q13.length;
 let q21 : Int := (↑q20 : Int);
 let q22 : Bool := bif q16 then true else q19 != q21;
 let q23 : Prop := (true && bif q22 then false else true) = true -> True;
 let q24 : Nat := x.2.1.2.1.length;
 let q25 : Bool := bif q22 then true else (↑q24 : Int) != q21;
 let q26 : Prop := (true && bif q25 then false else true) = true -> True;
 let q27 : List (List Int) := x.2.1.2.2.1;
 let q28 : Nat := q27.length;
 let q29 : Bool := bif q25 then true else (↑q28 : Int) != q5;
 let q30 : Bool := Sp.Ax.right x.1 x.2.1;
 let q31 : Prop := q6 /\ false = q30;
 let q32 : Prop := x.1 = x.1;
 let q33 : Prop := x.2.1 = x.2.1;
 let q34 : Prop := q13 = q13;
 let q35 : Prop := q32 /\ q33 /\ q34 /\ q7 /\ q21 = q21 /\ True;
 let q36 : Prop := q32 /\ q33 /\ q34 /\ x.2.1.1 = x.2.1.1 /\ q19 = q19 /\ True;
 let q37 : Prop := q32 /\ q33 /\ q34 /\ True;
 let q38 : Prop := True /\ (q20 <= q1 /\ ∀ (o : Sp.LOp), True) /\ True /\ True;
 q15 ->
 aD tLit x.1 /\ aD ((tI.prod (a9.prod (tI.prod Ty.unit))).slice.prod (tI.slice.prod (tI.slice.slice.prod (tI.slice.prod Ty.unit)))) x.2.1 /\ True ->
 q4 /\
 ((True /\ q15 /\ True) /\ True /\ True) /\
 ((True /\ q15 /\ True /\ True /\ q17 /\ q17 /\ q17 /\ q17 /\ q17 /\ q17 /\ True /\ True /\ q23 /\ q23 /\ q23 /\ q23 /\ q23 /\ q23 /\ True /\ True /\ q26 /\ q26 /\ q26 /\ q26 /\ True /\ True) /\ True) /\
 (q29 = true -> q31) /\
 (q29 = false ->
 q4 /\
 (∃ (x_1 : Nat), (x_1 <= q14 /\ ∀ (n : Nat), n < x_1 -> Sp.Ax.src q13 x.2.1 n) /\ q0 = (↑x_1 : Int) /\ q35) /\
 ∀ (x_1 : Nat),
 let q39 : Bool := decide ((↑x_1 : Int) < q21);
 let q40 : Nat := (↑x_1 : Int).toNat;
 let q41 : Int × Sp.LOp × Int × Unit := x.2.1.1.getD q40 q9;
 let q42 : Int × Sp.LOp × Int × Unit := q13.getD q40 q9;
 let q43 : Sp.LOp × Int × Unit := q41.2;
 let q44 : Sp.LOp := q43.1;
 let q45 : Sp.LOp := q42.2.1;
 let q46 : Int × Int × Unit := q44.2;
 let q47 : Int × Int × Unit := q45.2;
 let q48 : Int := q47.1;
 let q49 : Int := q43.2.1;
 let q50 : Bool := !(decide (q41.1 = q42.1) && (decide (q44.1 = q45.1) && (decide (q46.1 = q48) && (decide (q46.2.1 = q47.2.1) && true)) && (decide (q49 = q49) && true)));
 let q51 : Prop := (true && bif q50 then false else true) = true -> True;
 let q52 : Int := x.2.1.2.1.getD q40 q0;
 let q53 : Bool := bif q50 then true else decide (q52 < -q10);
 let q54 : Prop := (true && bif q53 then false else true) = true -> True;
 let q55 : Bool := bif q53 then true else decide (q52 ≥ q21);
 let q56 : Bool := decide (q52 ≥ q0);
 let q57 : Bool := true && bif q56 then true else false;
 let q58 : Prop := q57 = true -> True;
 let q59 : Bool := !Sp.Ax.reads q45;
 let q60 : Prop := (q57 && bif q59 then false else true) = true;
 let q61 : Prop := q60 -> True;
 let q62 : Prop := inN q52 q20;
 let q63 : Sp.LOp := (q13.getD q52.toNat q9).2.1;
 let q64 : Bool := bif q59 then true else !Sp.Ax.bQ q63;
 let q65 : Prop := (q57 && bif q64 then false else true) = true;
 let q66 : Prop := q65 -> True;
 let q67 : Bool := bif q56 then bif q64 then true else q63.2.1 != q48 else false;
 let q68 : Int := (↑x_1 : Int) + q10;
 (x_1 <= q14 /\ ∀ (n : Nat), n < x_1 -> Sp.Ax.src q13 x.2.1 n) ->
 aD tI (↑x_1 : Int) /\ True ->
 q6 /\
 (q39 = true -> ((True /\ inN (↑x_1 : Int) q20 /\ q3) /\ True /\ True) /\ ((True /\ True /\ True /\ inN (↑x_1 : Int) q18 /\ q2) /\ True /\ True) /\ ((True /\ True /\ True /\ inN (↑x_1 : Int) q24 /\ q2) /\ True) /\ (q3 /\ True /\ True) /\ ((True /\ True /\ True /\ True /\ q51 /\ q51 /\ True /\ True /\ q54 /\ q54 /\ q54 /\ q54 /\ True /\ True) /\ True) /\ (q55 = true -> q31) /\ (q55 = false -> ((True /\ True /\ True /\ q58 /\ q58 /\ q58 /\ q58 /\ q58 /\ q61 /\ q61 /\ (q60 -> q62) /\ q61 /\ q61 /\ q61 /\ q61 /\ q58 /\ q58 /\ q66 /\ q66 /\ (q65 -> q62) /\ q66 /\ q66 /\ q66 /\ q66 /\ q66 /\ q66 /\ q66 /\ q58 /\ True /\ True) /\ True) /\ (q67 = true -> q31) /\ (q67 = false -> ((inK IntKind.i64 q68 /\ True /\ True) /\ True) /\ ∃ (y : Nat), (y <= q14 /\ ∀ (n : Nat), n < y -> Sp.Ax.src q13 x.2.1 n) /\ q14 - y < q14 - x_1 /\ q68 = (↑y : Int) /\ q35))) /\
 (q39 = false ->
 q11 /\
 (∃ (x_2 : Nat), (x_2 <= q18 /\ ∀ (n : Nat), n < x_2 -> Sp.Ax.got x.2.1 n) /\ q0 = (↑x_2 : Int) /\ q36) /\
 ∀ (x_2 : Nat),
 let q69 : Bool := decide ((↑x_2 : Int) < q19);
 let q70 : Nat := (↑x_2 : Int).toNat;
 let q71 : Sp.LOp × Int × Unit := (x.2.1.1.getD q70 q9).2;
 let q72 : Bool := Sp.Ax.reads q71.1;
 let q73 : Int := x.2.1.2.1.getD q70 q0;
 let q74 : Int := q71.2.1;
 let q75 : Bool := q74 != Sp.Ax.value x.2.1.1 q73;
 let q76 : Int := (↑x_2 : Int) + q10;
 let q77 : Prop := ((inK IntKind.i64 q76 /\ True /\ True) /\ True) /\ ∃ (y : Nat), (y <= q18 /\ ∀ (n : Nat), n < y -> Sp.Ax.got x.2.1 n) /\ q18 - y < q18 - x_2 /\ q76 = (↑y : Int) /\ q36;
 let q78 : Bool := q74 != q0;
 (x_2 <= q18 /\ ∀ (n : Nat), n < x_2 -> Sp.Ax.got x.2.1 n) ->
 aD tI (↑x_2 : Int) /\ True ->
 q6 /\
 (q69 = true -> ((True /\ inN (↑x_2 : Int) q18 /\ q3) /\ True /\ True) /\ q6 /\ q4 /\ (q72 = true -> ((True /\ True /\ True /\ True /\ inN (↑x_2 : Int) q24 /\ True /\ q73 < q19 /\ True /\ True) /\ True) /\ q11 /\ (q75 = true -> q31) /\ (q75 = false -> q77)) /\ (q72 = false -> q11 /\ (q78 = true -> q31) /\ (q78 = false -> q77))) /\
 (q69 = false ->
 q6 /\
 (∃ (x : Nat), (x <= q12 /\ ∀ (p : Nat), p < x -> (Sp.Ax.isList (q27.getD p (([] : List Int))) q13 fun (o : Sp.LOp) => Sp.Ax.bQ o && decide (o.2.1 = (↑p : Int))) = true) /\ q0 = (↑x : Int) /\ q37) /\
 ∀ (x_3 : Nat),
 let q79 : Bool := decide ((↑x_3 : Int) < q5);
 let q80 : Bool := !Sp.Ax.isList (q27.getD (↑x_3 : Int).toNat (([] : List Go.User.tI.den))) q13 fun (o : Sp.LOp) => Sp.Ax.bQ o && decide (o.2.1 = (↑x_3 : Int));
 let q81 : Int := (↑x_3 : Int) + q10;
 (x_3 <= q12 /\ ∀ (p : Nat), p < x_3 -> (Sp.Ax.isList (q27.getD p (([] : List Int))) q13 fun (o : Sp.LOp) => Sp.Ax.bQ o && decide (o.2.1 = (↑p : Int))) = true) -> aD tI (↑x_3 : Int) /\ True -> q6 /\ (q79 = true -> (q2 /\ True /\ True) /\ ((True /\ True /\ True /\ inN (↑x_3 : Int) q28 /\ q2) /\ q38) /\ (q80 = true -> q31) /\ (q80 = false -> ((inK IntKind.i64 q81 /\ True /\ True) /\ True) /\ ∃ (y : Nat), (y <= q12 /\ ∀ (p : Nat), p < y -> (Sp.Ax.isList (q27.getD p (([] : List Int))) q13 fun (o : Sp.LOp) => Sp.Ax.bQ o && decide (o.2.1 = (↑p : Int))) = true) /\ q12 - y < q12 - x_3 /\ q81 = (↑y : Int) /\ q37)) /\ (q79 = false -> ((True /\ True /\ q38) /\ True) /\ (Sp.Ax.isList x.2.1.2.2.2.1 q13 fun (o : Sp.LOp) => decide (o.1 = (4 : Go.User.tI.den))) = q30))))) := by kernel_rfl
theorem vc33 : (bV C33 (stpQ C33) S33 L33 Try.f33) = (
let q0 : Int := (0 : Int);
let q1 : Nat := (1000 : Nat);
let q2 : Prop := True /\ True /\ True;
let q3 : Prop := True /\ q2;
let q4 : Prop := (True /\ True) /\ True;
let q5 : Nat := (6 : Nat);
let q6 : Prop := (True /\ q3) /\ True;
let q7 : Int := (1 : Int);
let q8 : List Bool := List.replicate q5 false;
let q9 : Int × Unit := (q0, ());
let q10 : Int × Sp.LOp × Int × Unit := (q0, (q0, q0, q9), q9);
let q11 : Int := (4 : Int);
∀ (x : Sp.Lit × (List (Int × Sp.LOp × Int × Unit) × List Int × List (List Int) × List Int × Unit) × Unit),
 let q12 : Prop := (Sp.Ax.evs q0 x.1.1).length <= q1;
 let q13 : Bool := !Sp.Ax.right x.1 x.2.1;
 let q14 : Bool := Sp.Ax.allowed x.1 x.2.1;
 let q15 : Prop := q4 /\ false = q14;
 let q16 : Nat := x.2.1.1.length;
 let q17 : Nat := x.2.1.2.1.length;
 let q18 : Prop := x.1 = x.1;
 let q19 : Prop := x.2.1 = x.2.1;
 let q20 : Int := (↑q17 : Int);
 let q21 : Prop := q18 /\ q19 /\ Sp.Ax.order x.2.1 = Sp.Ax.order x.2.1 /\ x.2.1.2.1 = x.2.1.2.1 /\ q20 = q20 /\ True;
 let q22 : List (List Bool) := Sp.Ax.close (Sp.Ax.order x.2.1);
 let q23 : Prop := q22 = q22;
 let q24 : Prop := x.2.1.1 = x.2.1.1;
 let q25 : Int := (↑q16 : Int);
 let q26 : Prop := q25 = q25;
 let q27 : Prop := q24 /\ q26 /\ True;
 let q28 : Prop := q18 /\ q19 /\ q23 /\ q27;
 let q29 : List (List Int) := x.2.1.2.2.1;
 let q30 : Nat := x.2.1.1.length;
 let q31 : Nat := x.2.1.2.1.length;
 let q32 : Nat := q29.length;
 q12 ->
 aD tLit x.1 /\ aD ((tI.prod (a9.prod (tI.prod Ty.unit))).slice.prod (tI.slice.prod (tI.slice.slice.prod (tI.slice.prod Ty.unit)))) x.2.1 /\ True ->
 (q3 /\ True) /\
 ((True /\ True /\ q12 /\ True /\ True) /\ True) /\
 (q13 = true -> q15) /\
 (q13 = false ->
 ((True /\ (q16 <= q5 /\ ∀ (n : Int), n ∈ x.2.1.2.2.2.1 -> inN n q5) /\ True /\ True) /\ True /\ True) /\
 (q2 /\ True /\ True) /\
 q6 /\
 (∃ (x_1 : Nat), x_1 <= q17 /\ q0 = (↑x_1 : Int) /\ Sp.Ax.order x.2.1 = Sp.Ax.mat (Sp.Ax.flowN x.2.1 x_1) /\ q21) /\
 ∀ (x_1 : Nat),
 let q33 : List (List Bool) := Sp.Ax.mat (Sp.Ax.flowN x.2.1 x_1);
 let q34 : Bool := decide ((↑x_1 : Int) < q20);
 let q35 : Nat := (↑x_1 : Int).toNat;
 let q36 : Int := x.2.1.2.1.getD q35 q0;
 let q37 : Bool := decide (q36 ≥ q0);
 let q38 : Int := (↑x_1 : Int) + q7;
 let q39 : Prop := (inK IntKind.i64 q38 /\ True /\ True) /\ True;
 let q40 : Nat := q36.toNat;
 let q41 : Bool := Sp.Ax.round (Sp.Ax.close q33);
 x_1 <= q17 ->
 aD tI (↑x_1 : Int) /\ aD (Ty.arr q5 (Ty.arr q5 Ty.bool)) q33 /\ True ->
 q4 /\
 (q34 = true -> ((True /\ inN (↑x_1 : Int) q17 /\ q3) /\ True) /\ (q2 /\ True) /\ (q37 = true -> ((True /\ True /\ inN q36 q5 /\ inN (↑x_1 : Int) q5 /\ True) /\ True /\ True) /\ q39 /\ ∃ (y : Nat), y <= q17 /\ q17 - y < q17 - x_1 /\ q38 = (↑y : Int) /\ q33.set q40 (List.set (q33.getD q40 q8) q35 true) = Sp.Ax.mat (Sp.Ax.flowN x.2.1 y) /\ q21) /\ (q37 = false -> q39 /\ ∃ (y : Nat), y <= q17 /\ q17 - y < q17 - x_1 /\ q38 = (↑y : Int) /\ q33 = Sp.Ax.mat (Sp.Ax.flowN x.2.1 y) /\ q21)) /\
 (q34 = false ->
 q2 /\
 q2 /\
 q4 /\
 (q41 = true -> q15) /\
 (q41 = false ->
 q6 /\
 (∃ (x_2 : Nat), (x_2 <= q16 /\ ∀ (a : Nat), a < x_2 -> Sp.Ax.okEv x.2.1 a) /\ q0 = (↑x_2 : Int) /\ q28) /\
 ∀ (x_2 : Nat),
 let q42 : Bool := decide ((↑x_2 : Int) < q25);
 let q43 : Prop := inN (↑x_2 : Int) q16;
 let q44 : Nat := (↑x_2 : Int).toNat;
 let q45 : Int × Sp.LOp × Int × Unit := x.2.1.1.getD q44 q10;
 let q46 : Sp.LOp := q45.2.1;
 let q47 : Int := q46.1;
 let q48 : Bool := q47 == q11;
 let q49 : Int := (↑x_2 : Int) + q7;
 let q50 : Prop := ((inK IntKind.i64 q49 /\ True /\ True) /\ True) /\ ∃ (y : Nat), (y <= q16 /\ ∀ (a : Nat), a < y -> Sp.Ax.okEv x.2.1 a) /\ q16 - y < q16 - x_2 /\ q49 = (↑y : Int) /\ q28;
 let q51 : Int := (Sp.Ax.ev x.2.1.1 (↑x_2 : Int)).2.1.2.1;
 let q52 : Bool := q47 == (3 : Int);
 let q53 : Prop := (true && bif q52 then true else false) = true;
 let q54 : Prop := q53 -> True;
 let q55 : List Int := q29.getD q51.toNat (([] : List Int));
 let q56 : Int := Sp.Ax.idx q55 (↑x_2 : Int) - q7;
 let q57 : Bool := bif q52 then Sp.Ax.idx q55 (x.2.1.2.1.getD q44 q0) != q56 else false;
 let q58 : Prop := (↑x_2 : Int) = (↑x_2 : Int);
 let q59 : Prop := q18 /\ q19 /\ q23 /\ q24 /\ q26 /\ q58 /\ q58 /\ q45 = q45 /\ q27;
 (x_2 <= q16 /\ ∀ (a : Nat), a < x_2 -> Sp.Ax.okEv x.2.1 a) ->
 aD tI (↑x_2 : Int) /\ True ->
 q4 /\
 (q42 = true ->
 ((True /\ q43 /\ q3) /\ True /\ True) /\
 q6 /\
 (q48 = true -> q50) /\
 (q48 = false ->
 ((True /\ True /\ (q43 /\ inN (↑x_2 : Int) q17 /\ inN q51 q29.length) /\ True /\ True) /\ True /\ True) /\
 ((True /\ True /\ True /\ True /\ True /\ q54 /\ q54 /\ q54 /\ q54 /\ (q53 -> inK IntKind.i64 q56) /\ q54 /\ True /\ True) /\ True) /\
 (q57 = true -> q15) /\
 (q57 = false ->
 q6 /\
 (∃ (x_3 : Nat), (x_3 <= q16 /\ ∀ (b : Nat), b < x_3 -> Sp.Ax.badPair x.2.1 x_2 b = false) /\ q0 = (↑x_3 : Int) /\ q59) /\
 ∀ (x_3 : Nat),
 let q60 : Bool := decide ((↑x_3 : Int) < q25);
 let q61 : Nat := (↑x_3 : Int).toNat;
 let q62 : Bool := List.getD (q22.getD q44 q8) q61 false;
 let q63 : Prop := (true && bif q62 then true else false) = true -> True;
 let q64 : Sp.LOp := (x.2.1.1.getD q61 q10).2.1;
 let q65 : Bool := bif q62 then q64.1 != q11 else false;
 let q66 : Prop := (true && bif q65 then true else false) = true -> True;
 let q67 : Bool := bif q65 then q46.2.1 == q64.2.1 else false;
 let q68 : Prop := (true && bif q67 then true else false) = true;
 let q69 : Prop := q68 -> True;
 let q70 : Bool := bif q67 then !Sp.Ax.coh x.2.1 (↑x_2 : Int) (↑x_3 : Int) else false;
 let q71 : Int := (↑x_3 : Int) + q7;
 (x_3 <= q16 /\ ∀ (b : Nat), b < x_3 -> Sp.Ax.badPair x.2.1 x_2 b = false) -> aD tI (↑x_3 : Int) /\ True -> q4 /\ (q60 = true -> ((True /\ inN (↑x_3 : Int) q16 /\ q3) /\ True /\ True) /\ ((True /\ True /\ inN (↑x_2 : Int) q5 /\ inN (↑x_3 : Int) q5 /\ True /\ True /\ q63 /\ q63 /\ q63 /\ q63 /\ True /\ True /\ q66 /\ q66 /\ q66 /\ q66 /\ q66 /\ q66 /\ q66 /\ True /\ True /\ q69 /\ q69 /\ q69 /\ (q68 -> (inN (↑x_2 : Int) q30 /\ inN (↑x_2 : Int) q31 /\ inN q51 q32) /\ inN (↑x_3 : Int) q30 /\ inN (↑x_3 : Int) q31 /\ inN (Sp.Ax.ev x.2.1.1 (↑x_3 : Int)).2.1.2.1 q32) /\ q69 /\ True /\ True) /\ True) /\ (q70 = true -> q15) /\ (q70 = false -> ((inK IntKind.i64 q71 /\ True /\ True) /\ True) /\ ∃ (y : Nat), (y <= q16 /\ ∀ (b : Nat), b < y -> Sp.Ax.badPair x.2.1 x_2 b = false) /\ q16 - y < q16 - x_3 /\ q71 = (↑y : Int) /\ q59)) /\ (q60 = false -> q50)))) /\
 (q42 = false -> q4 /\ true = q14))))) := by kernel_rfl
end Go.User.Ax
