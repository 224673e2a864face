/- The machine of views, its reference: aE and steps are as they should be. The machine of views: a step is as it should be. slices.Grow at nil: an empty slice of its caller's own. A slice is put into another one, both being their caller's own: by value. The machine of views: outcomes, the search for all of them: what is computed. Written by gen.py: what is left to show of each function. The machine of views: the outcome of a state is as it should be. The machine of views: states stay well formed; the search adds few outcomes, in order: plain facts. The machine of views: the search's list stays in order and small: plain facts. Written by genrep.py: slices.Repeat of one element, up to six times. The machine of views: valid tests, the state at first. -/
import Derived.Test.YthhclebbpbkgdaaLfi
import Derived.WalkKit
import Derived.Lib.Walk
import Derived.Lib.SliceRun
import Derived.Lib.AppendZerosOnto
import Derived.LoopN
import Derived.Laws.CopyOwn
import Derived.Laws.MakeOwn
import Derived.Shelf.Spec.SlicesInsert
set_option linter.unusedVariables false
set_option linter.unusedSimpArgs false
namespace Go.User
open Go.Lf Go.Proofs
theorem win_take' {α : Type} {l : List α} {c : Int} (h : 0 <= c) : win 0 c l = l.take c.toNat := by
 obtain ⟨n, rfl⟩ := Int.eq_ofNat_of_zero_le h
 exact Pl.win_take
theorem ok85 (h43 : FOk Try.prog 43 S43) : FOk Try.prog 85 S85 := by
 have hC : aJ Try.prog C85 := okA (aG h43 fns_nil)
 refine FOk.intro hC (aW hC) Try.call85 Try.func85 (by kernel_rfl) (by kernel_rfl) L85 (vc85.mpr ?_)
 simp only [zz, zy]
 rintro ⟨s, c, u⟩ h hx
 obtain ⟨h1, h2, h3, h4, h5, h6⟩ := h
 have h1 : Sp.aB s.1.1 <= 1000 := h1
 have h2 : 0 <= c := h2
 have h3 : c < (s.1.1.length : Int) := h3
 have h4 : s.2.1.length = s.1.1.length := h4
 have h5 : 0 <= Sp.bA s c.toNat := h5
 have h6 : Sp.bA s c.toNat <= 1000 := h6
 have hle := Sp.bR s.1.1 c.toNat
 have hw : win 0 c s.1.1 = s.1.1.take c.toNat := win_take' h2
 have hcat := Sp.cat_len (s.1.1.take c.toNat)
 have hpc : s.2.1.getD c.toNat 0 = Sp.bA s c.toNat := rfl
 refine ⟨⟨⟨by omega, h2, by show c <= (s.1.1.length : Int); omega⟩, ?_, ⟨h2, by show c < (s.2.1.length : Int); omega⟩, ?_⟩, ?_⟩
 ·show Sp.aB (win 0 c s.1.1) <= 1000
  rw [hw]; omega
 ·show inK .i64 (((Sp.cat (win 0 c s.1.1)).length : Int) + s.2.1.getD c.toNat 0)
  rw [hw, hcat, hpc];exact bE (by omega) (by omega)
 ·show ((Sp.cat (win 0 c s.1.1)).length : Int) + s.2.1.getD c.toNat 0 = _
  rw [hw, hcat, hpc]; rfl
theorem ok82 : FOk Try.prog 82 S82 := by
 refine FOk.intro (okA fns_nil) (aW (okA fns_nil)) Try.call82 Try.func82 (by kernel_rfl) (by kernel_rfl) L82 (vc82.mpr ?_)
 simp only [zz, zy]
 rintro ⟨s, c, u⟩ h hx
 obtain ⟨h1, h2, h3, h4, h5, h6⟩ := h
 have h1 : Sp.aB s.1.1 <= 1000 := h1
 have h2 : 0 <= c := h2
 have h3 : c < (s.1.1.length : Int) := h3
 have h4 : s.2.1.length = s.1.1.length := h4
 have h5 : 0 <= Sp.bA s c.toNat := h5
 have h6 : Sp.bA s c.toNat <= 1000 := h6
 have hl : s.1.1.length <= lim := hx.1.1.1.1
 refine ⟨⟨h2, by show c < (s.2.1.length : Int); omega⟩, ⟨0, by show ((0 : Nat) : Int) <= c; omega, rfl, ?_⟩, ?_⟩
 ·show s.2.1.getD c.toNat 0 = ((Sp.aB (s.1.1.take 0) : Nat) : Int) + Sp.bA s c.toNat
  simp [Sp.aB, Sp.bA]
 ·intro i hi hk
  have hi : (i : Int) <= c := hi
  have hle := Sp.bR s.1.1 i
  refine ⟨fun hlt => ?_, fun hge => ?_⟩
  ·have hlt : (i : Int) < c := hlt
   have hs := Sp.total_take_succ (p := s.1.1) (i := i) (by omega)
   have hle2 := Sp.bR s.1.1 (i + 1)
   refine ⟨⟨⟨by omega, by show (i : Int) < (s.1.1.length : Int); omega⟩, bE ?_ ?_⟩, inK_succ (n := s.1.1.length) (by omega) hl, i + 1, ?_, ?_, ?_, ?_⟩
   ·show (-1000000000 : Int) <= ((Sp.aB (s.1.1.take i) : Nat) : Int) + Sp.bA s c.toNat + ((s.1.1.getD i []).length : Int); omega
   ·show ((Sp.aB (s.1.1.take i) : Nat) : Int) + Sp.bA s c.toNat + ((s.1.1.getD i []).length : Int) <= (1000000000 : Int); omega
   ·show ((i + 1 : Nat) : Int) <= c; omega
   ·show c.toNat - (i + 1) < c.toNat - i; omega
   ·show (i : Int) + 1 = ((i + 1 : Nat) : Int); omega
   ·show ((Sp.aB (s.1.1.take i) : Nat) : Int) + Sp.bA s c.toNat + ((s.1.1.getD i []).length : Int) = ((Sp.aB (s.1.1.take (i + 1)) : Nat) : Int) + Sp.bA s c.toNat; omega
  ·have hge : ¬ (i : Int) < c := by simpa using hge
   show ((Sp.aB (s.1.1.take i) : Nat) : Int) + Sp.bA s c.toNat = ((Sp.aB (s.1.1.take c.toNat) : Nat) : Int) + Sp.bA s c.toNat
   rw [show c.toNat = i from by omega]
theorem ok31 (h53 : FOk Try.prog 53 S53) : FOk Try.prog 31 S31 := by
 have hC : aJ Try.prog C31 := okA (aG h53 fns_nil)
 refine FOk.intro hC (aW hC) Try.call31 Try.func31 (by kernel_rfl) (by kernel_rfl) L31 (vc31.mpr ?_)
 simp only [zz, zy]
 exact fun x h _ => h
theorem ok26 (h31 : FOk Try.prog 31 S31) : FOk Try.prog 26 S26 := by
 have hC : aJ Try.prog C26 := okA (aG h31 fns_nil)
 refine FOk.intro hC (aW hC) Try.call26 Try.func26 (by kernel_rfl) (by kernel_rfl) L26 (vc26.mpr ?_)
 simp only [zz, zy]
 exact fun x h _ => ⟨h, rfl⟩
theorem may_eq (o : Sp.LOp) (m : List Sp.Msg) (i : Nat) : (o.1 == 1 || ((i : Int) + 1 == (m.length : Int)) || !(m.getD ((i : Int) + 1).toNat (0, 0, false, ())).2.2.1) = Sp.may o m i := by
 unfold Sp.may
 have h1 : (o.1 == 1) = decide (o.1 = 1) := rfl
 have h2 : ((i : Int) + 1 == (m.length : Int)) = decide (i + 1 = m.length) := by
  by_cases h : i + 1 = m.length
  ·rw [decide_eq_true h]; simp; try omega
  ·rw [decide_eq_false h]; simp; try omega
 have h3 : ((i : Int) + 1).toNat = i + 1 := by omega
 rw [h1, h2, h3]; rfl
theorem may_no {o : Sp.LOp} {m : List Sp.Msg} {i : Nat} (h1 : ¬ o.1 = 1) (h2 : ¬ (i : Int) + 1 = (m.length : Int)) (h3 : (m.getD ((i : Int) + 1).toNat (0, 0, false, ())).2.2.1 = true) : Sp.may o m i = false := by
 rw [<- may_eq, h3]
 have e1 : (o.1 == 1) = false := decide_eq_false h1
 have e2 : ((i : Int) + 1 == (m.length : Int)) = false := decide_eq_false h2
 rw [e1, e2]; rfl
theorem ok53 : FOk Try.prog 53 S53 := by
 have hC : aJ Try.prog C53 := okA (aG ok84 fns_nil)
 refine FOk.intro hC (aW hC) Try.call53 Try.func53 (by kernel_rfl) (by kernel_rfl) L53 (vc53.mpr ?_)
 simp only [zz, zy]
 rintro ⟨s, u⟩ hs hx
 have hs : Sp.OkS s := hs
 refine ⟨⟨0, Nat.zero_le _, rfl, rfl⟩, ?_⟩
 intro c hc hk
 have hc : c <= s.1.1.length := hc
 have hfew := hs.few
 refine ⟨fun hlt => ?_, fun hge => ?_⟩
 ·have hlt : (c : Int) < (s.1.1.length : Int) := hlt
  have hcn : c < s.1.1.length := by omega
  have hin2 : inN (c : Int) s.2.1.length := ⟨by omega, by have := hs.pcl; omega⟩
  have hin3 : inN (c : Int) s.2.2.2.1.length := ⟨by omega, by have := hs.vwl; omega⟩
  have hsucc : inK .i64 ((c : Int) + 1) := bE (by omega) (by omega)
  have hrow : s.2.2.2.1.getD c (List.replicate 3 0) = Sp.rowOf s c := by
   unfold Sp.rowOf;rw [Pl.b8 (by have := hs.vwl; omega), Pl.b8 (by have := hs.vwl; omega)]
  have hd : ∀ r : List Sp.Cho, r = Sp.choN s (c + 1) -> ∃ y, y <= s.1.1.length /\ s.1.1.length - y < s.1.1.length - c /\ (c : Int) + 1 = (y : Int) /\ r = Sp.choN s y := fun r hr => ⟨c + 1, by omega, by omega, by omega, hr⟩
  have hlen := Sp.choN_len hs hc
  refine ⟨inN_of hlt, hin2, fun he => ⟨hsucc, hd _ ?_⟩, fun hn => ?_⟩
  ·have he : Sp.bA s c = (Sp.bJ s c).length := he
   rw [Sp.choN_succ, Sp.chC_done he, List.append_nil]
  have hn : ¬ Sp.bA s c = (Sp.bJ s c).length := hn
  obtain ⟨g1, g2, g3, g4, _⟩ := hs.op hcn hn;have hin4 : inN (Sp.aI s c).2.1 3 := ⟨g3, g4⟩;obtain ⟨hm1, hm2⟩ := hs.mem (Sp.aI s c).2.1.toNat (by omega);refine ⟨⟨hin2, ⟨g1, by show Sp.bA s c < ((Sp.bJ s c).length : Int); omega⟩⟩, fun hf => ⟨?_, hsucc, hd _ ?_⟩, fun hf => ⟨hin4, ⟨hin3, hin4⟩, ?_, ?_⟩⟩
  ·show (((Sp.choN s c).length + 1 : Nat) : Int) <= 2147483648; omega
  ·have hf : (Sp.aI s c).1 = 4 := hf
   rw [Sp.choN_succ, Sp.chC_fence hn hf]
  ·have h0 := hs.see c hcn (Sp.aI s c).2.1.toNat (by omega)
   have hpl := Sp.plc_le (Sp.aC s (Sp.aI s c).2.1.toNat) (Sp.vw s c (Sp.aI s c).2.1.toNat)
   refine ⟨(Sp.plV s c (Sp.aI s c).2.1.toNat).toNat, ⟨?_, ?_⟩, ?_, ?_⟩
   ·show Sp.plV s c (Sp.aI s c).2.1.toNat <= ((Sp.plV s c (Sp.aI s c).2.1.toNat).toNat : Int); omega
   ·show (Sp.plV s c (Sp.aI s c).2.1.toNat).toNat <= (Sp.aC s (Sp.aI s c).2.1.toNat).length
    unfold Sp.plV; omega
   ·show Sp.plc (Sp.aC s (Sp.aI s c).2.1.toNat) ((s.2.2.2.1.getD c (List.replicate 3 0)).getD (Sp.aI s c).2.1.toNat 0) = _
    rw [hrow];show Sp.plV s c (Sp.aI s c).2.1.toNat = ((Sp.plV s c (Sp.aI s c).2.1.toNat).toNat : Int);omega
   ·exact (Sp.choP_start (s := s) (c := c) (i := (Sp.plV s c (Sp.aI s c).2.1.toNat).toNat) (by omega)).symm
  ·rintro i ⟨hi1, hi2⟩ _
   have hi1 : Sp.plV s c (Sp.aI s c).2.1.toNat <= (i : Int) := hi1
   have hi2 : i <= (Sp.aC s (Sp.aI s c).2.1.toNat).length := hi2
   have hlen2 := Sp.choP_len hs (i := i) hc
   have his : inK .i64 ((i : Int) + 1) := bE (by omega) (by omega)
   refine ⟨fun hl => ⟨⟨fun _ => his, fun _ => his, fun hh => ?_⟩, fun hy => ⟨?_, his, i + 1, ?_, ?_, ?_, ?_⟩, fun hy => ⟨his, i + 1, ?_, ?_, ?_, ?_⟩⟩, fun hg => ⟨hsucc, hd _ ?_⟩⟩
   all_goals try have hl : (i : Int) < ((Sp.aC s (Sp.aI s c).2.1.toNat).length : Int) := hl
   ·obtain ⟨_, hh⟩ := hh
    have hh : ¬ (i : Int) + 1 = ((Sp.aC s (Sp.aI s c).2.1.toNat).length : Int) := hh
    show inN ((i : Int) + 1) (Sp.aC s (Sp.aI s c).2.1.toNat).length
    exact ⟨by omega, by omega⟩
   ·show (((Sp.choP s c i).length + 1 : Nat) : Int) <= 2147483648; omega
   ·exact ⟨by show _ <= ((i + 1 : Nat) : Int); omega, by show i + 1 <= (Sp.aC s (Sp.aI s c).2.1.toNat).length; omega⟩
   ·show (Sp.aC s (Sp.aI s c).2.1.toNat).length - (i + 1) < (Sp.aC s (Sp.aI s c).2.1.toNat).length - i; omega
   ·show (i : Int) + 1 = ((i + 1 : Nat) : Int); omega
   ·exact Sp.choP_yes hi1 ((may_eq _ _ _).symm.trans hy)
   ·exact ⟨by show _ <= ((i + 1 : Nat) : Int); omega, by show i + 1 <= (Sp.aC s (Sp.aI s c).2.1.toNat).length; omega⟩
   ·show (Sp.aC s (Sp.aI s c).2.1.toNat).length - (i + 1) < (Sp.aC s (Sp.aI s c).2.1.toNat).length - i; omega
   ·show (i : Int) + 1 = ((i + 1 : Nat) : Int); omega
   ·exact Sp.choP_no hi1 (may_no hy.1.1 hy.1.2 hy.2)
   ·have hg : ((Sp.aC s (Sp.aI s c).2.1.toNat).length : Int) <= (i : Int) := hg
    exact Sp.choP_end hn hf (by omega)
 ·have hge : (s.1.1.length : Int) <= (c : Int) := hge
  show Sp.choN s c = Sp.choN s s.1.1.length
  rw [show c = s.1.1.length from by omega]
theorem ok50 : FOk Try.prog 50 S50 := by
 have hC : aJ Try.prog C50 := okA (aG ok80 fns_nil)
 refine FOk.intro hC (aW hC) Try.call50 Try.func50 (by kernel_rfl) (by kernel_rfl) L50 (vc50.mpr ?_)
 simp only [zz, zy]
 rintro ⟨s, u⟩ hs hx
 have hs : Sp.OkS s := hs
 refine ⟨⟨0, Nat.zero_le _, rfl, rfl⟩, ?_⟩
 intro c hc hk
 have hc : c <= s.1.1.length := hc
 have hfew := hs.few
 refine ⟨fun hlt => ?_, fun hge => ?_⟩
 ·have hlt : (c : Int) < (s.1.1.length : Int) := hlt
  have hcn : c < s.1.1.length := by omega
  have hin2 : inN (c : Int) s.2.1.length := ⟨by omega, by have := hs.pcl; omega⟩
  have hin3 : inN (c : Int) s.2.2.2.1.length := ⟨by omega, by have := hs.vwl; omega⟩
  have hsucc : inK .i64 ((c : Int) + 1) := bE (by omega) (by omega)
  have hd : ∀ r : List Sp.Cho, r = Sp.choN s (c + 1) -> ∃ y, y <= s.1.1.length /\ s.1.1.length - y < s.1.1.length - c /\ (c : Int) + 1 = (y : Int) /\ r = Sp.choN s y := fun r hr => ⟨c + 1, by omega, by omega, by omega, hr⟩
  have hlen := Sp.choN_len hs hc
  refine ⟨⟨hin2, inN_of hlt⟩, fun he => ⟨hsucc, hd _ ?_⟩, fun hn => ?_⟩
  ·have he : ((Sp.bJ s c).length : Int) <= Sp.bA s c := he
   have he : Sp.bA s c = (Sp.bJ s c).length := by have := (hs.pc c hcn).2; omega
   rw [Sp.choN_succ, Sp.chC_done he, List.append_nil]
  have hn : Sp.bA s c < ((Sp.bJ s c).length : Int) := hn
  have hn : ¬ Sp.bA s c = (Sp.bJ s c).length := by omega
  obtain ⟨g1, g2, g3, g4, _⟩ := hs.op hcn hn;have hin4 : inN (Sp.aI s c).2.1 3 := ⟨g3, g4⟩;obtain ⟨hm1, hm2⟩ := hs.mem (Sp.aI s c).2.1.toNat (by omega);refine ⟨⟨inN_of hlt, hin2, ⟨g1, by show Sp.bA s c < ((Sp.bJ s c).length : Int); omega⟩⟩, fun hf => ⟨?_, hsucc, hd _ ?_⟩, fun hf => ⟨⟨g3, by show (Sp.aI s c).2.1 < (s.2.2.1.length : Int); have := hs.meml; omega⟩, ⟨hin3, ⟨g3, by show (Sp.aI s c).2.1 < ((Sp.rowOf s c).length : Int); have := hs.row c hcn; omega⟩⟩, ?_, ?_⟩⟩
  ·show (((Sp.choN s c).length + 1 : Nat) : Int) <= 2147483648; omega
  ·have hf : (Sp.aI s c).1 = 4 := hf
   rw [Sp.choN_succ, Sp.chC_fence hn hf]
  ·have h0 := hs.see c hcn (Sp.aI s c).2.1.toNat (by omega)
   have hpl := Sp.plc_le (Sp.aC s (Sp.aI s c).2.1.toNat) (Sp.vw s c (Sp.aI s c).2.1.toNat)
   refine ⟨(Sp.plV s c (Sp.aI s c).2.1.toNat).toNat, ⟨?_, ?_⟩, ?_, ?_⟩
   ·show Sp.plV s c (Sp.aI s c).2.1.toNat <= ((Sp.plV s c (Sp.aI s c).2.1.toNat).toNat : Int); omega
   ·show (Sp.plV s c (Sp.aI s c).2.1.toNat).toNat <= (Sp.aC s (Sp.aI s c).2.1.toNat).length
    unfold Sp.plV; omega
   ·show Sp.plc (Sp.aC s (Sp.aI s c).2.1.toNat) ((s.2.2.2.1.getD c []).getD (Sp.aI s c).2.1.toNat 0) = _
    show Sp.plV s c (Sp.aI s c).2.1.toNat = ((Sp.plV s c (Sp.aI s c).2.1.toNat).toNat : Int)
    omega
   ·exact (Sp.choP_start (s := s) (c := c) (i := (Sp.plV s c (Sp.aI s c).2.1.toNat).toNat) (by omega)).symm
  ·rintro i ⟨hi1, hi2⟩ _
   have hi1 : Sp.plV s c (Sp.aI s c).2.1.toNat <= (i : Int) := hi1
   have hi2 : i <= (Sp.aC s (Sp.aI s c).2.1.toNat).length := hi2
   have hlen2 := Sp.choP_len hs (i := i) hc
   have his : inK .i64 ((i : Int) + 1) := bE (by omega) (by omega)
   refine ⟨fun hl => ⟨⟨fun _ => his, fun _ => his, fun hh => ?_⟩, fun hy => ⟨?_, his, i + 1, ?_, ?_, ?_, ?_⟩, fun hy => ⟨his, i + 1, ?_, ?_, ?_, ?_⟩⟩, fun hg => ⟨hsucc, hd _ ?_⟩⟩
   all_goals try have hl : (i : Int) < ((Sp.aC s (Sp.aI s c).2.1.toNat).length : Int) := hl
   ·obtain ⟨_, hh⟩ := hh
    have hh : ¬ (i : Int) + 1 = ((Sp.aC s (Sp.aI s c).2.1.toNat).length : Int) := hh
    show inN ((i : Int) + 1) (Sp.aC s (Sp.aI s c).2.1.toNat).length
    exact ⟨by omega, by omega⟩
   ·show (((Sp.choP s c i).length + 1 : Nat) : Int) <= 2147483648; omega
   ·exact ⟨by show _ <= ((i + 1 : Nat) : Int); omega, by show i + 1 <= (Sp.aC s (Sp.aI s c).2.1.toNat).length; omega⟩
   ·show (Sp.aC s (Sp.aI s c).2.1.toNat).length - (i + 1) < (Sp.aC s (Sp.aI s c).2.1.toNat).length - i; omega
   ·show (i : Int) + 1 = ((i + 1 : Nat) : Int); omega
   ·exact Sp.choP_yes hi1 ((may_eq _ _ _).symm.trans hy)
   ·exact ⟨by show _ <= ((i + 1 : Nat) : Int); omega, by show i + 1 <= (Sp.aC s (Sp.aI s c).2.1.toNat).length; omega⟩
   ·show (Sp.aC s (Sp.aI s c).2.1.toNat).length - (i + 1) < (Sp.aC s (Sp.aI s c).2.1.toNat).length - i; omega
   ·show (i : Int) + 1 = ((i + 1 : Nat) : Int); omega
   ·exact Sp.choP_no hi1 (may_no hy.1.1 hy.1.2 hy.2)
   ·have hg : ((Sp.aC s (Sp.aI s c).2.1.toNat).length : Int) <= (i : Int) := hg
    exact Sp.choP_end hn hf (by omega)
 ·have hge : (s.1.1.length : Int) <= (c : Int) := hge
  show Sp.choN s c = Sp.choN s s.1.1.length
  rw [show c = s.1.1.length from by omega]

end Go.User
namespace Go.User
open Go.Lf Go.Proofs
theorem win_drop' {α : Type} {l : List α} {c : Int} (h : 0 <= c) : win c (l.length : Int) l = l.drop c.toNat := by
 obtain ⟨n, rfl⟩ := Int.eq_ofNat_of_zero_le h
 exact Pl.win_drop
theorem win_all {α : Type} {l : List α} : win 0 (l.length : Int) l = l := by
 rw [win_take' (Int.natCast_nonneg _)]; simp
theorem ok54 (h85 : FOk Try.prog 85 S85) : FOk Try.prog 54 S54 := by
 have hC : aJ Try.prog C54 := okC (aG h85 (aG ok83 (aG ok86 (aG ok84 fns_nil)))) rfl rfl rfl rfl rfl rfl rfl
 refine FOk.intro hC (aW hC) Try.call54 Try.func54 (by kernel_rfl) (by kernel_rfl) L54 (vc54.mpr ?_)
 simp only [zz, zy]
 rintro ⟨s, x, u⟩ h hx
 obtain ⟨hs, hm⟩ : Sp.OkS s /\ x ∈ Sp.aE s := h
 have X := hs.xf hm
 have hcn : x.1.toNat < s.1.1.length := X.lt
 have hc0 : 0 <= x.1 := by rw [X.eq]; exact Int.natCast_nonneg _
 have hc1 : x.1 < (s.1.1.length : Int) := by omega
 have hfew := hs.few
 have htot := hs.tot
 have hpcl := hs.pcl
 have hvwl := hs.vwl
 have hmeml := hs.meml
 have hfel := hs.fel
 have hrl := hs.rl
 have hfrl := hs.frl
 have hfol := hs.fol
 have hp0 : 0 <= Sp.bA s x.1.toNat := X.pc0
 have hp1 : (Sp.bA s x.1.toNat).toNat < (Sp.bJ s x.1.toNat).length := X.pc1
 have hev := Sp.evt_lt hc0 hc1 hp0 (by omega)
 have hpm : Sp.bA s x.1.toNat <= 1000 := by
  have e1 := Sp.total_take_succ (p := s.1.1) (i := x.1.toNat) hcn
  have e2 := Sp.bR s.1.1 (x.1.toNat + 1)
  have e3 : (Sp.bJ s x.1.toNat).length = (s.1.1.getD x.1.toNat []).length := rfl
  omega
 have iN : inN x.1 s.1.1.length := ⟨hc0, hc1⟩
 have iP : inN x.1 s.2.1.length := ⟨hc0, by omega⟩
 have iV : inN x.1 s.2.2.2.1.length := ⟨hc0, by omega⟩
 have iV' : ∀ n, inN x.1 (Sp.vwN s (Sp.ofC x) n).length := fun n => ⟨hc0, by rw [Sp.vwN_len]; omega⟩
 have hvc : Sp.ofC x < s.2.2.2.1.length := by show x.1.toNat < _; omega
 have hrow3 := hs.row _ X.lt
 have hrowE : s.2.2.2.1.getD x.1.toNat (List.replicate 3 0) = Sp.rowOf s (Sp.ofC x) := by
  unfold Sp.rowOf;show s.2.2.2.1.getD (Sp.ofC x) _ = _;rw [Pl.b8 hvc, Pl.b8 hvc]
 have iO : inN (Sp.opX s x).2.1 3 := ⟨X.pl0, X.pl1⟩
 refine ⟨⟨htot, hc0, hc1, hpcl, hp0, hpm⟩, ⟨iN, iP, hp0, ?_⟩, ⟨?_, ?_⟩, ⟨iP, bE ?_ ?_, iP⟩, fun hf => ⟨⟨0, Nat.zero_le _, rfl, ?_⟩, fun k hk _ => ⟨fun hl => ?_, fun hg => ?_⟩⟩, fun hf => ?_⟩
 ·show Sp.bA s x.1.toNat < ((Sp.bJ s x.1.toNat).length : Int); omega
 ·show s.2.1.length <= 1000000; omega
 ·show s.2.2.2.1.length <= 1000000; omega
 ·show (-1000000000 : Int) <= Sp.bA s x.1.toNat + 1; omega
 ·show Sp.bA s x.1.toNat + 1 <= (1000000000 : Int); omega
 ·exact Sp.st_eq rfl rfl (Sp.vwN_zero hvc hrow3).symm rfl rfl rfl rfl
 ·have hl : (k : Int) < 3 := hl
  have ik : inN (k : Int) 3 := ⟨by omega, hl⟩
  have hks : inK .i64 ((k : Int) + 1) := bE (by omega) (by omega)
  have hget : ((Sp.vwN s (Sp.ofC x) k).getD x.1.toNat (List.replicate 3 0)) = Sp.rowN s (Sp.ofC x) k := Sp.vwN_get k hvc _
  have hgk : (Sp.rowN s (Sp.ofC x) k).getD k 0 = Sp.vw s (Sp.ofC x) k := by rw [Sp.rowN_get _ _ _ (by omega), if_neg (by omega)]
  have hsu := Sp.rowN_succ s (Sp.ofC x) (n := k) (by omega)
  refine ⟨ik, ⟨iV' k, ik⟩, fun hlt => ⟨⟨ik, iV' k, ik⟩, hks, k + 1, by omega, by omega, by omega, ?_⟩, fun hge => ⟨hks, k + 1, by omega, by omega, by omega, ?_⟩⟩
  ·have hlt : Sp.plc (Sp.aC s k) (((Sp.vwN s (Sp.ofC x) k).getD x.1.toNat (List.replicate 3 0)).getD k 0) < Sp.plc (Sp.aC s k) (Sp.fnc s k) := hlt
   rw [hget, hgk] at hlt;refine Sp.st_eq rfl rfl ?_ rfl rfl rfl rfl;show (Sp.vwN s (Sp.ofC x) k).set (Sp.ofC x) (((Sp.vwN s (Sp.ofC x) k).getD x.1.toNat (List.replicate 3 0)).set k (Sp.fnc s k)) = _;have hla : Sp.later s (Sp.ofC x) k = Sp.fnc s k := if_pos hlt;rw [hget, Sp.vwN_set, <- hla, hsu]; rfl
  ·have hge : Sp.plc (Sp.aC s k) (Sp.fnc s k) <= Sp.plc (Sp.aC s k) (((Sp.vwN s (Sp.ofC x) k).getD x.1.toNat (List.replicate 3 0)).getD k 0) := hge
   rw [hget, hgk] at hge;refine Sp.st_eq rfl rfl ?_ rfl rfl rfl rfl;have hla : Sp.later s (Sp.ofC x) k = Sp.vw s (Sp.ofC x) k := by
    unfold Sp.later; rw [if_neg];show ¬ Sp.plc (Sp.aC s k) (Sp.vw s (Sp.ofC x) k) < _;omega
   have : Sp.rowN s (Sp.ofC x) (k + 1) = Sp.rowN s (Sp.ofC x) k := by
    rw [<- hsu, hla, <- hgk];exact Sp.set_same (by rw [Sp.rowN_len]; omega)
   unfold Sp.vwN; rw [this]
 ·have hk3 : k = 3 := by have hk : k <= 3 := hk; have hg : (3 : Int) <= (k : Int) := hg; omega
  subst hk3;have hf : (Sp.opX s x).1 = 4 := hf;have hwf : win 0 (s.2.2.2.2.2.2.2.1.length : Int) s.2.2.2.2.2.2.2.1 = s.2.2.2.2.2.2.2.1 := win_all;refine ⟨iV' 3, ⟨⟨by omega, Int.natCast_nonneg _, by show ((s.2.2.2.2.2.2.2.1.length : Nat) : Int) <= ((s.2.2.2.2.2.2.2.1.length : Nat) : Int); omega⟩, ?_, by decide⟩, Sp.st_eq rfl ?_ ?_ ?_ ?_ ?_ ?_⟩
  ·show (((win 0 (s.2.2.2.2.2.2.2.1.length : Int) s.2.2.2.2.2.2.2.1).length + 1 : Nat) : Int) <= 2147483648
   rw [hwf]; omega
  ·unfold Sp.nMem; rw [if_pos (.inl hf)]
  ·unfold Sp.nVw; rw [if_pos hf]
  ·unfold Sp.nFe; rw [if_pos hf]; exact Sp.vwN_get 3 hvc _
  ·unfold Sp.nR; rw [if_pos (.inl hf)]
  ·unfold Sp.nFr; rw [if_pos (.inl hf)]
  ·unfold Sp.nFo; rw [if_pos hf]
   show win 0 (s.2.2.2.2.2.2.2.1.length : Int) s.2.2.2.2.2.2.2.1 ++ [Sp.evt s x.1] = _
   rw [hwf]
 ·have hf : ¬ (Sp.opX s x).1 = 4 := hf
  obtain ⟨_, k0, k1, _⟩ := X.idx hf;obtain ⟨m1, m2⟩ := hs.mem (Sp.plX s x) (by have := X.pl0; have := X.pl1; unfold Sp.plX; omega);have iM : inN x.2.1 (Sp.aC s (Sp.plX s x)).length := ⟨k0, by omega⟩
  have iE : inN (Sp.evt s x.1) s.2.2.2.2.2.1.length := ⟨hev.1, by omega⟩
  have iE2 : ∀ v, inN (Sp.evt s x.1) (s.2.2.2.2.2.1.set (Sp.evt s x.1).toNat v).length := fun v => ⟨hev.1, by rw [List.length_set]; omega⟩
  have iF : inN (Sp.evt s x.1) s.2.2.2.2.2.2.1.length := ⟨hev.1, by omega⟩
  have iK : inK .i64 (x.2.1 + 1) := bE (by omega) (by omega)
  have hw0 : win 0 (x.2.1 + 1) (Sp.aC s (Sp.plX s x)) = (Sp.aC s (Sp.plX s x)).take (x.2.1.toNat + 1) := by
   rw [win_take' (by omega), show (x.2.1 + 1).toNat = x.2.1.toNat + 1 from by omega]
  have hw1 : win (x.2.1 + 1) ((Sp.aC s (Sp.plX s x)).length : Int) (Sp.aC s (Sp.plX s x)) = (Sp.aC s (Sp.plX s x)).drop (x.2.1.toNat + 1) := by
   rw [win_drop' (by omega), show (x.2.1 + 1).toNat = x.2.1.toNat + 1 from by omega]
  have hchk : ∀ mm : Sp.Msg, inK .i64 (x.2.1 + 1) /\ inK .i64 (x.2.1 + 1) /\ winI 0 (x.2.1 + 1) (Sp.aC s (Sp.plX s x)).length /\
    ((((win 0 (x.2.1 + 1) (Sp.aC s (Sp.plX s x))).length + 1 : Nat) : Int) <= aN /\ 0 < 1) /\ inK .i64 (x.2.1 + 1) /\ winI (x.2.1 + 1) ((Sp.aC s (Sp.plX s x)).length : Int) (Sp.aC s (Sp.plX s x)).length /\
    (((win 0 (x.2.1 + 1) (Sp.aC s (Sp.plX s x)) ++ [mm]).length + (win (x.2.1 + 1) ((Sp.aC s (Sp.plX s x)).length : Int) (Sp.aC s (Sp.plX s x))).length : Nat) : Int) <= aN /\ inN (Sp.opX s x).2.1 3 := by
   intro mm;have hmx : aN = 2147483648 := rfl;refine ⟨iK, iK, ⟨by omega, by omega, by omega⟩, ⟨?_, by decide⟩, iK, ⟨by omega, by omega, by omega⟩, ?_, iO⟩
   ·rw [hw0, List.length_take, hmx]; omega
   ·rw [hw0, hw1, List.length_append, List.length_take, List.length_drop, hmx]; simp only [List.length_singleton]; omega
  have hpc : s.2.1.set x.1.toNat (s.2.1.getD x.1.toNat 0 + 1) = Sp.nPc s x := rfl
  have hmsg : (Sp.aC s (Sp.plX s x)).getD x.2.1.toNat Sp.msg0 = Sp.msgX s x := rfl
  have hvw : ∀ v, s.2.2.2.1.set x.1.toNat ((s.2.2.2.1.getD x.1.toNat (List.replicate 3 0)).set (Sp.plX s x) v) = s.2.2.2.1.set (Sp.ofC x) ((Sp.rowOf s (Sp.ofC x)).set (Sp.plX s x) v) := by
   intro v; rw [hrowE]; rfl
  have hnM : ¬ (Sp.opX s x).1 = 1 -> ∀ mm, mm = Sp.newM s x -> s.2.2.1.set (Sp.plX s x) (win 0 (x.2.1 + 1) (Sp.aC s (Sp.plX s x)) ++ [mm] ++ win (x.2.1 + 1) ((Sp.aC s (Sp.plX s x)).length : Int) (Sp.aC s (Sp.plX s x))) = Sp.nMem s x := by
   rintro h1 mm rfl
   unfold Sp.nMem;rw [if_neg (fun h => h.elim hf h1), hw0, hw1]
  have hnF : Sp.nFe s x = s.2.2.2.2.1 := by unfold Sp.nFe; rw [if_neg hf]
  have hnO : Sp.nFo s x = s.2.2.2.2.2.2.2.1 := by unfold Sp.nFo; rw [if_neg hf]
  have hnV : ¬ (Sp.opX s x).1 = 1 -> s.2.2.2.1.set x.1.toNat ((s.2.2.2.1.getD x.1.toNat (List.replicate 3 0)).set (Sp.plX s x) (Sp.evt s x.1)) = Sp.nVw s x := by
   intro h1; unfold Sp.nVw; rw [if_neg hf, if_neg h1, hvw]
  refine ⟨iO, iM, fun h2 => ?_, fun h2 => ?_⟩
  ·have h2 : ¬ (Sp.opX s x).1 = 2 := h2
   have hnR : Sp.nR s x = s.2.2.2.2.2.1.set (Sp.evt s x.1).toNat (Sp.msgX s x).2.1 := by unfold Sp.nR; rw [if_neg (fun h => h.elim hf h2)]
   have hnFr : Sp.nFr s x = s.2.2.2.2.2.2.1.set (Sp.evt s x.1).toNat (Sp.msgX s x).1 := by unfold Sp.nFr; rw [if_neg (fun h => h.elim hf h2)]
   refine ⟨⟨by show s.2.2.2.2.2.1.length <= 1000000; omega, by show s.2.2.2.2.2.2.1.length <= 1000000; omega⟩, ⟨⟨iE, iE2 _⟩, iF⟩, fun h1 => ⟨⟨iV, iO⟩, Sp.st_eq rfl ?_ ?_ hnF.symm hnR.symm hnFr.symm hnO.symm⟩, fun h1 => ⟨fun h3 => ⟨hchk _, ⟨iV, iO⟩, Sp.st_eq rfl ?_ ?_ hnF.symm hnR.symm hnFr.symm hnO.symm⟩, fun h3 => ?_⟩⟩
   ·have h1 : (Sp.opX s x).1 = 1 := h1
    unfold Sp.nMem; rw [if_pos (.inr h1)]
   ·have h1 : (Sp.opX s x).1 = 1 := h1
    unfold Sp.nVw; rw [if_neg hf, if_pos h1];exact hvw _
   ·have h1 : ¬ (Sp.opX s x).1 = 1 := h1
    have h3 : (Sp.opX s x).1 = 3 := h3
    refine hnM h1 _ ?_
    unfold Sp.newM; rw [if_pos h3]; rfl
   ·exact hnV h1
   ·have h1 : ¬ (Sp.opX s x).1 = 1 := h1
    have h3 : ¬ (Sp.opX s x).1 = 3 := h3
    refine ⟨hchk _, ⟨iV, iO⟩, Sp.st_eq rfl (hnM h1 _ ?_) (hnV h1) hnF.symm hnR.symm hnFr.symm hnO.symm⟩
    unfold Sp.newM; rw [if_neg h3]; rfl
  ·have h2 : (Sp.opX s x).1 = 2 := h2
   have hn1 : ¬ (Sp.opX s x).1 = 1 := by omega
   have hn3 : ¬ (Sp.opX s x).1 = 3 := by omega
   have hnR : Sp.nR s x = s.2.2.2.2.2.1 := by unfold Sp.nR; rw [if_pos (.inr h2)]
   have hnFr : Sp.nFr s x = s.2.2.2.2.2.2.1 := by unfold Sp.nFr; rw [if_pos (.inr h2)]
   refine ⟨fun h1 => absurd h1 hn1, fun h1 => ⟨fun h3 => absurd h3 hn3, fun h3 => ⟨hchk _, ⟨iV, iO⟩, Sp.st_eq rfl (hnM hn1 _ ?_) (hnV hn1) hnF.symm hnR.symm hnFr.symm hnO.symm⟩⟩⟩
   unfold Sp.newM; rw [if_neg hn3]; rfl
end Go.User
namespace Go.User
open Go Go.Proofs Go.RowKit Go.Lib
set_option maxHeartbeats 2000000 in
set_option maxRecDepth 100000 in
theorem grow_zero (w : World) : Calls Try.prog 78 #[.slice none 0 0, .int .i64 0] w fun e w' => e = .returned (.slice none 0 0) /\ w' = w := by
 go_enter Try.func78, Try.ntmps78
 go_wp2
 go_ret
 exact ⟨rfl, rfl⟩
set_option maxHeartbeats 4000000 in
set_option maxRecDepth 100000 in
theorem grow_pos (n : Nat) (w : World) (h0 : 0 < n) (h1 : n <= 1000000) : Calls Try.prog 78 #[.slice none 0 0, .int .i64 n] w fun e w' => ∃ G, n <= G /\ e = .returned (.slice (some ⟨w.heap.size, 0, none⟩) 0 G) /\ ∃ row : Array Value, row.size = 3 * G /\ w' = w.drew.alloc (.cells row 44) := by
 have h2 : ¬ ((n : Int) < 0) := by omega
 have h4 : (n : Int) > 0 := by omega
 obtain ⟨i0, hi0, hz0, hs0, hb0⟩ : ∃ i0, Try.prog.info? 44 = some i0 /\ i0.zero = some (.agg #[.int .i64 0, .int .i64 0, .int .i64 0]) /\ i0.size = 3 /\ i0.bytes = 24 := ⟨_, rfl, rfl, rfl, rfl⟩
 have hGn : n <= grownCap w n 0 44 := grownCap_ge w _ _ _
 have hrz : ∀ ty, (Builtin.append_ #[35, 3] ty #[.slice none 0 0, .int .i64 (n : Int)]).run Try.prog w =
   .ok (.slice (some ⟨w.heap.size, 0, none⟩) n (grownCap w n 0 44)) (w.drew.alloc (.cells (#[] ++ Builtin.zeroCells (Value.agg #[.int .i64 0, .int .i64 0, .int .i64 0]).cells n ++ Builtin.zeroCells (Value.agg #[.int .i64 0, .int .i64 0, .int .i64 0]).cells (grownCap w n 0 44 - n)) 44)) := fun ty => by
  have h := Lib.run_append_grow_zeros w 35 3 ty 44 i0 _ .i64 .i64 Try.underlying35 Try.underlying3 hi0 hz0 none 0 0 [] (run_firstCells_none w.drew i0.size 0 0 0) n h0 (by omega) (by omega) (by omega) (by rw [hb0]; omega) (growslice_fits (by omega) (by rw [hb0]; omega))
  rw [Nat.zero_add] at h;exact h
 obtain ⟨G, hG⟩ : ∃ G, G = grownCap w n 0 44 := ⟨_, rfl⟩
 rw [<- hG] at hrz hGn
 obtain ⟨row, hrow⟩ : ∃ row : Array Value, row = #[] ++ Builtin.zeroCells (Value.agg #[.int .i64 0, .int .i64 0, .int .i64 0]).cells n ++ Builtin.zeroCells (Value.agg #[.int .i64 0, .int .i64 0, .int .i64 0]).cells (G - n) := ⟨_, rfl⟩
 rw [<- hrow] at hrz
 have hsz : row.size = 3 * G := by
  rw [hrow]; simp [Builtin.zeroCells, Value.cells]; omega
 have hG63 : G <= 9223372036854775807 := by
  have := grownCap_le_maxLen w n 0 44 (by unfold maxLen; omega)
  rw [<- hG] at this;unfold maxLen at this;omega
 clear hG hrow
 go_enter Try.func78, Try.ntmps78
 go_wp2_with (at_builtin; refine Lib.wpList_append_run _ rfl _ _ _ _ rfl _ _ rfl rfl _ _ (hrz _) ?_)
 go_ret
 exact ⟨G, hGn, rfl, row, hsz, rfl⟩

open Go.Lf in
theorem grow_ok : NilOK Try.prog G32 := by
 intro f e hl
 have hfe : f = 78 /\ e = a9 := by
  unfold G32 Go.Lf.look at hl;cases hb : Nat.beq 78 f
  ·rw [hb] at hl; cases hl
  ·rw [hb] at hl
   simp only [cond_true, Option.some.injEq] at hl;exact ⟨(Nat.eq_of_beq_eq_true hb).symm, hl.symm⟩
 obtain ⟨rfl, rfl⟩ := hfe
 refine ⟨Try.call78, fun w F n hF h0 h1 => ?_⟩
 obtain ⟨m, rfl⟩ := Int.eq_ofNat_of_zero_le h0
 rcases Nat.eq_zero_or_pos m with rfl | hm
 ·refine (grow_zero w).mono ?_
  rintro e w' ⟨rfl, rfl⟩
  exact ⟨_, F, none', rfl, Below.refl _ _, fun _ h => h, fun b h h' => absurd h h', fun b h => h.elim (hF b) (fun h => h.elim), fun b h => h.elim, aP.nil _ _ _ _ _⟩
 ·refine (grow_pos m w hm (by omega)).mono ?_
  rintro e w' ⟨G, hG, rfl, row, hrow, rfl⟩
  have hnew : (w.drew.alloc (.cells row 44)).heap[w.heap.size]? = some (.cells row 44 (0, 0)) := by
   show (w.heap.push _)[w.heap.size]? = _
   simp
  have hsize : (w.drew.alloc (.cells row 44)).heap.size = w.heap.size + 1 := by
   show (w.heap.push _).size = _
   simp
  refine ⟨_, F, fun b => b = w.heap.size, rfl, ((Below.refl _ w).drew).alloc (Nat.le_refl _) _, fun _ h => h, fun b h h' => absurd h h', ?_, ?_, ?_⟩
  ·rintro b (h | rfl)
   ·have := hF b h; omega
   ·omega
  ·rintro b rfl
   exact ⟨Nat.le_refl _, fun h => by have := hF _ h; omega⟩
  ·refine ⟨_, rfl, some ⟨w.heap.size, 0, none⟩, G, rfl, Nat.zero_le _, Nat.zero_le _, .inr ⟨w.heap.size, 0, row, 44, fun _ => none', rfl, rfl, hnew, ?_, fun _ _ h => h.elim, fun _ h => h.elim, fun _ _ _ _ h => h.elim, fun i x h => ?_⟩⟩
   ·show 0 + G * 3 <= row.size; omega
   ·simp at h
theorem okCat : Go.Lf.FOk Try.prog 43 S43 := ok43 grow_ok
theorem ok85c : Go.Lf.FOk Try.prog 85 S85 := ok85 okCat
theorem ok54c : Go.Lf.FOk Try.prog 54 S54 := ok54 ok85c
theorem ok31c : Go.Lf.FOk Try.prog 31 S31 := ok31 ok53
theorem ok26c : Go.Lf.FOk Try.prog 26 S26 := ok26 ok31c
end Go.User
namespace Go.Lf

def insOut {e : Ty} (x x2 : List e.den) (n : Int) : List e.den := List.take (Int.toNat n) x ++ x2 ++ List.drop (Int.toNat n) x
def InsPost (F S0 : aA) (w : World) (e : Ty) (y : List e.den) (en : Ending) (w' : World) : Prop :=
 ∃ v F' Sr, en = .returned v /\ w'.os = w.os /\ w'.tape = w.tape /\ w'.output = w.output /\ w.heap.size <= w'.heap.size /\
  (∀ k, k < w.heap.size -> ¬ S0 k -> w'.heap[k]? = w.heap[k]?) /\ Sub F F' /\ (∀ k, F' k -> ¬ F k -> w.heap.size <= k ∨ S0 k) /\ (∀ k, F' k ∨ Sr k -> k < w'.heap.size) /\
  (∀ k, Sr k -> (w.heap.size <= k ∨ S0 k) /\ ¬ F' k) /\ aP F' w' (.slice e) (.own .shr) Sr v y
def InsOK (P : Program) (I : List (FuncId × Ty)) : Prop := ∀ f e, look I f = some e -> FnDef P f /\ ∀ (w : World) (F S0 S1 : aA) (v v2 : Value) (x x2 : List e.den) (n : Int), (∀ k, F k -> k < w.heap.size) ->
 (∀ k, S0 k -> k < w.heap.size /\ ¬ F k) -> (∀ k, S1 k -> k < w.heap.size /\ ¬ F k) -> (∀ k, S0 k -> ¬ S1 k) -> aP F w (.slice e) (.own .shr) S0 v x -> aP F w (.slice e) (.own .shr) S1 v2 x2 ->
 0 <= n -> n <= (x.length : Int) -> x2.length = 1 -> x.length <= 500000000 -> Calls P f #[v, .int .i64 n, v2] w (InsPost F S0 w e (insOut x x2 n))

def insC (I : List (FuncId × Ty)) (C : Ctx) (st : St) (o : Oper) (q : Call) : Option (Prop × St) :=
 match q.callee, q.args.toList, o.dst with
 | .value (.func f), [.tmp t, y, .tmp u], some d => (match look I f, st t, (bG st y).e, st u with
  | some e, .own τ m x, .shr (.int .i64) n, .own τ2 m2 x2 => bif wrB C d && !Nat.beq t u && decide (m = .own .shr) && decide (m2 = .own .shr) then
   (match bH (τ := τ) (σ := .slice e) x, bH (τ := τ2) (σ := .slice e) x2 with
   | some (x : List e.den), some (x2 : List e.den) => some (0 <= n /\ n <= (List.length x : Int) /\ List.length x2 = 1 /\ List.length x <= 500000000, put (drop (drop st t) u) d (mkE C d (.slice e) (.own .shr) (insOut x x2 n)))
   | _, _ => none) else none
  | _, _, _, _ => none)
 | _, _, _ => none
def stpU (I G : List (FuncId × Ty)) (C : Ctx) (st : St) (o : Oper) : Option (Prop × St) := match o.op with
 | .call q => (match insC I C st o q with
  | some r => some r
  | none => stpT G C st o)
 | _ => stpT G C st o

section
variable {P : Program} {C : Ctx} {w0 : World} {F0 H : aA} {env : St} {a : Act} {w : World} {F : aA} {S : Nat -> aA}
theorem insC_ok {I : List (FuncId × Ty)} (hI : InsOK P I) (hC : aJ P C) (hi : aM P C.np w0 F0 H env a w F S) {q : Call} {o : Oper} (ho : o.op = .call q) {c : Prop} {env' : St} (h : insC I C env o q = some (c, env')) (hc : c)
  {K : Act -> World -> Prop} {Q : Exit -> Act -> World -> Prop} (hK : ∀ a' w', Inv P C.np w0 F0 H env' a' w' -> K a' w') : o.wp P a w K Q := by
 obtain ⟨callee, args, tys⟩ := q
 unfold insC at h
 simp only at h
 split at h
 ·rename_i f t y u d h3 h4
  split at h
  ·rename_i e τ m x n τ2 m2 x2 hl ht hy hu
   cases hb : (wrB C d && !Nat.beq t u && decide (m = .own .shr) && decide (m2 = .own .shr))
   ·rw [hb] at h; cases h
   rw [hb] at h;simp only [cond_true] at h;simp only [Bool.and_eq_true, decide_eq_true_eq, Bool.not_eq_true'] at hb;obtain ⟨⟨⟨hd, htu⟩, rfl⟩, rfl⟩ := hb;have htu : t ≠ u := fun e => by rw [e, Nat.beq_refl] at htu; cases htu
   have hd := wrB_iff hd
   split at h
   ·rename_i x1 x3 hx hx2
    have h5 := aR hx
    injection h5 with e1 e2;subst e1; cases e2;have h6 := aR hx2;injection h6 with e1 e2;subst e1; cases e2;simp only [Option.some.injEq, Prod.mk.injEq] at h;obtain ⟨rfl, rfl⟩ := h;have ht1 := hi.ent t;rw [ht] at ht1;obtain ⟨pl, S0, cs, hr⟩ := ht1;obtain ⟨_, _, e3, e4, e5⟩ := hr.own_inj;subst e4;have hO : aP F w (.slice e) (.own .shr) (S t) (a.tmps.getD t undef) x1 := ⟨cs, e5, hr.2.2⟩;have hu1 := hi.ent u;rw [hu] at hu1;obtain ⟨pl2, S2, cs2, hr2⟩ := hu1;obtain ⟨_, _, e6, e7, e8⟩ := hr2.own_inj;subst e7;have hO2 : aP F w (.slice e) (.own .shr) (S u) (a.tmps.getD u undef) x3 := ⟨cs2, e8, hr2.2.2⟩;have hn : a.eval y = .int .i64 n := by
     have := (bC hi y).ent (by rw [hy]; rfl) 0 (by rw [hy]; simp [Ent.root])
     rw [hy] at this;exact (aP.int_eq (show aP F w (.int .i64) .shr none' (a.eval y) n from this)).1
    obtain ⟨k1, k2⟩ := hI f e hl;have hcall := k2 w F (S t) (S u) _ _ x1 x3 n hi.fb (fun k hk => ⟨(hi.sb t k hk).2.1, (hi.sb t k hk).2.2⟩) (fun k hk => ⟨(hi.sb u k hk).2.1, (hi.sb u k hk).2.2⟩) (fun k g1 g2 => hi.sd t u htu k g1 g2) hO hO2 hc.1 hc.2.1 hc.2.2.1 hc.2.2.2
    have hav : (args.toList.map a.eval).toArray = #[a.tmps.getD t undef, .int .i64 n, a.tmps.getD u undef] := by
     rw [h3];simp only [List.map_cons, List.map_nil, hn]
     rfl
    have hrun : (execOp a.eval o).run P w = .ok (.enter f #[a.tmps.getD t undef, .int .i64 n, a.tmps.getD u undef]) w := by
     simp only [execOp, ho, resolve, Sem.run_bind, Act.eval, Deferred.ofValue, Sem.run_pure, Result.andThen, invoke];have := k1 ((args.toList.map a.eval).toArray) w;rw [<- hav, <- this]
     congr 1
     congr 1
     apply Array.ext'
     simp
    have hi1 := (hi.drop t).drop u
    unfold Oper.wp;rw [hrun, Oper.upon_enter];refine hcall.mono ?_;intro en w' hpost;obtain ⟨v, F', Sr, rfl, q1, q2, q3, q4, q5, q6, q7, q8, q9, q10⟩ := hpost;have hnt : ∀ k, S t k -> ∀ s, ¬ (fun s => if s = u then none' else (fun s => if s = t then none' else S s) s) s k := by
     intro k hk s hs;by_cases hsu : s = u
     ·simp only [hsu, if_true] at hs; exact hs
     ·simp only [hsu, if_false] at hs
      by_cases hst : s = t
      ·simp only [hst, if_true] at hs; exact hs
      ·simp only [hst, if_false] at hs; exact hi.sd s t hst k hs hk
    have hi2 := hi1.worldZ (Z := S t) q1 q2 q3 q4 q5 (fun k hk => ⟨(hi.sb t k hk).1, (hi.sb t k hk).2.2, hnt k hk⟩) q6 (fun b hb => q8 b (.inl hb)) q7
    obtain ⟨F2, S2, hh⟩ := hi2.putNew (C := C) (d := d) hd (RowKit.Below.refl _ _) (fun _ h => h) (fun k hk => q8 k (.inl hk)) (fun k g1 g2 => absurd g1 g2) (by
     intro b hb;obtain ⟨g1, g2⟩ := q9 b hb;refine ⟨?_, q8 b (.inr hb), g2, ?_⟩
     ·rcases g1 with g1 | g1
      ·exact .inl (Nat.le_trans hi.size g1)
      ·exact (hi.sb t b g1).1
     ·intro s hs
      rcases g1 with g1 | g1
      ·have := (hi1.sb s b hs).2.1; omega
      ·exact hnt b g1 s hs) q10
    rw [h4];exact hK _ _ ⟨F2, S2, hh⟩
   ·cases h
  ·cases h
 ·cases h
theorem stpU_ok {I G : List (FuncId × Ty)} (hI : InsOK P I) (hG : NilOK P G) (hC : aJ P C) : StpOK P C (stpU I G C) := by
 intro w0 F0 H env env' a w o c hi h hc K Q hK
 unfold stpU at h
 split at h
 ·rename_i q hop
  split at h
  ·rename_i r hr
   simp only [Option.some.injEq] at h;subst h;obtain ⟨F, S, hi⟩ := hi;exact insC_ok hI hC hi hop hr hc hK
  ·exact stpT_ok hG hC hi h hc K Q hK
 ·exact stpT_ok hG hC hi h hc K Q hK
end
end Go.Lf
namespace Sp
def outN (l : List LOp) (r : List Int) (n : Nat) : List Int := (List.range n).flatMap fun (e : Nat) => if (l.getD e op0).1 = 1 ∨ (l.getD e op0).1 = 3 then [r.getD e 0] else []
def lastV (m : List Msg) : Int := (m.getD (m.length - 1) msg0).2.1
def lastN (s : VSt) (n : Nat) : List Int := (List.range n).map fun (x : Nat) => lastV (aC s x)
def outR (s : VSt) : List Int := outN (cat s.1.1) s.2.2.2.2.2.1 (aB s.1.1)
def outcome (s : VSt) : Out := (outR s, lastN s 3, ())
def insO (l : List Out) (o : Out) : List Out := if foundO l o = true then l else l.take (below l o) ++ [o] ++ l.drop (below l o)
def visit : Nat -> VSt -> List Out -> List Out
 | 0, s, l => insO l (outcome s)
 | n + 1, s, l => if aE s = [] then insO l (outcome s) else (aE s).foldl (fun l x => visit n (next s x) l) l
def visitN (n : Nat) (s : VSt) (l : List Out) (i : Nat) : List Out := ((aE s).take i).foldl (fun l x => visit n (next s x) l) l
def left (s : VSt) : Nat := ((List.range s.1.1.length).map fun (c : Nat) => (bJ s c).length - (bA s c).toNat).sum
structure Good (s : VSt) : Prop where
 ok : OkS s
 few : s.1.1.length <= 4
 tot : aB s.1.1 <= 8
 mem : ∀ x, x < 3 -> (aC s x).length + left s <= 1 + aB s.1.1
 fol : s.2.2.2.2.2.2.2.1.length + left s <= aB s.1.1
def okV (n : Nat) (l : List Out) (s : VSt) : Prop := Good s /\ aB s.1.1 <= 6 /\ left s = n /\ sortedO l /\ l.length + 28 ^ n <= 500000000
end Sp
namespace Go.User
open Go.Lf
abbrev mOut : Md := .pair (.own .shr) (.pair (.own .shr) .shr)
def S72 : aU := { args := [.val tVSt], multi := false, res := bO, mode := .shr, pre := fun x => Sp.OkS x.1, fn := fun x => (Sp.outR x.1, Sp.lastN x.1 3, ()) }
def C72 : Ctx := { mkS 56 [(43, S43)] with mds := [(3, mOut), (2, .pair .shr (.pair .shr .shr))], fzs := [3] }
def L72 (x : aO S72.args) : List aS := [
 {ι := Nat, inv := fun n => n <= Sp.aB x.1.1.1, dec := fun n => Sp.aB x.1.1.1 - n, ovr := fun n => [(13, .shr tI (n : Int)), (3, .box bO mOut (Sp.outN (Sp.cat x.1.1.1) x.1.2.2.2.2.2.1 n, [], ()))], keep := [1, 2, 11, 12] },
 {ι := Nat, inv := fun n => n <= 3, dec := fun n => 3 - n, ovr := fun n => [(39, .shr tI (n : Int)), (3, .box bO mOut (Sp.outN (Sp.cat x.1.1.1) x.1.2.2.2.2.2.1 (Sp.aB x.1.1.1), Sp.lastN x.1 n, ()))], keep := [1, 2, 38] }]
def p71 : Nat := 2
def t71 (q n : Nat) : KSpec := { f := 71, l := [.self, .own q, .fn 68], τ := .slice bO, m := .own .shr, args := [.val tVSt], pre := fun x y => Sp.okV n x y.1, fn := fun x y => Sp.visit n y.1 x }
def t71k (q n : Nat) : KSpec := { f := 71, l := [.self, .own q, .fn 68], τ := .slice bO, m := .own .shr, args := [.val tVSt], pre := fun x y => 1 <= n /\ Sp.okV (n - 1) x y.1, fn := fun x y => Sp.visit (n - 1) y.1 x }
def C71 (q n : Nat) : Ctx := { mkS 44 [(53, S53), (54, S54), (72, S72), (73, S73)] with tys := cC q, clo := some tCmp, pin := some 2, q := q, kno := some (t71k q n), mvs := [39] }
def I32 : List (FuncId × Ty) := [(74, bO)]
def L71 (q n : Nat) (x : List Sp.Out) (y : aO (t71 q n).args) : List aS := [
 {ι := Nat, inv := fun i => i <= List.length (Sp.aE y.1), dec := fun i => List.length (Sp.aE y.1) - i, ovr := fun i => [(15, .shr tI (i : Int)), (2, .box (.slice bO) (.own .shr) (Sp.visitN (n - 1) y.1 x i))], keep := [1, 3, 4, 5, 13, 14] }]
end Go.User
namespace Go.User
open Go.Proofs Go.Lf
set_option maxRecDepth 100000
theorem vc72 : (bV C72 (stpS C72) S72 L72 Try.f72) = (
let q0 : Nat := (3 : Nat);
let q1 : Prop := True /\ True /\ True;
let q2 : Prop := (True /\ True) /\ True;
let q3 : Int := (0 : Int);
let q4 : List Int × Unit := (([] : List tI.den), ());
let q5 : Sp.Out := (([] : List tI.den), q4);
let q6 : Prop := q5 = q5;
let q7 : Prop := True /\ q1;
let q8 : Int := (1 : Int);
let q9 : Int := (3 : Int);
let q10 : List Step := Step.fst :: ([] : List Step);
let q11 : List Step := List.append._f (([] : List Step)) PUnit.unit q10;
let q12 : Sp.Msg := (q3, q3, false, ());
let q13 : List Step := List.append._f (([] : List Step)) PUnit.unit (Step.snd :: q10);
∀ (x : Sp.VSt × Unit),
 let q14 : Nat := Sp.aB x.1.1.1;
 let q15 : List Sp.LOp := Sp.cat x.1.1.1;
 let q16 : List Int := x.1.2.2.2.2.2.1;
 let q17 : Prop := x.1 = x.1;
 let q18 : Nat := q15.length;
 let q19 : Int := (↑q18 : Int);
 let q20 : Prop := q17 /\ q6 /\ q15 = q15 /\ q19 = q19 /\ True;
 let q21 : List Int := Sp.outN q15 q16 q14;
 let q22 : Prop := q17 /\ q6 /\ x.1.2.2.1 = x.1.2.2.1 /\ True;
 Sp.OkS x.1 ->
 aD (tLit.prod (tI.slice.prod ((Ty.arr q0 tMsg.slice).prod ((Ty.arr q0 tI).slice.prod ((Ty.arr q0 tI).prod (tI.slice.prod bO)))))) x.1 /\ True ->
 (q1 /\ True) /\
 q2 /\
 ((True /\ True /\ True /\ q14 <= (1000 : Nat) /\ q1) /\ True) /\
 (∃ (x : Nat), x <= q14 /\ q3 = (↑x : Int) /\ q5 = (Sp.outN q15 q16 x, q4) /\ q20) /\
 ∀ (x_1 : Nat),
 let q23 : Sp.Out := (Sp.outN q15 q16 x_1, q4);
 let q24 : Bool := decide ((↑x_1 : Int) < q19);
 let q25 : Nat := (↑x_1 : Int).toNat;
 let q26 : Int := (q15.getD q25 (q3, q3, q3, ())).1;
 let q27 : Bool := q26 == q8;
 let q28 : Prop := (true && bif q27 then false else true) = true -> True;
 let q29 : Bool := bif q27 then true else q26 == q9;
 let q30 : List Int := q16.getD q25 q3 :: ([] : List tI.den);
 let q31 : Int := (↑x_1 : Int) + q8;
 let q32 : Prop := (inK IntKind.i64 q31 /\ True /\ True) /\ True;
 x_1 <= q14 ->
 aD tI (↑x_1 : Int) /\ aD bO q23 /\ True ->
 q2 /\
 (q24 = true -> ((True /\ inN (↑x_1 : Int) q18 /\ q7) /\ True /\ True) /\ ((True /\ True /\ True /\ True /\ q28 /\ q28 /\ q28 /\ True /\ True) /\ True) /\ (q29 = true -> ((True /\ True /\ True /\ True /\ True /\ inN (↑x_1 : Int) q16.length /\ q1) /\ (↑((Sp.outN q15 q16 x_1).length + q30.length) : Int) <= aN /\ True /\ q11 = q11 /\ True) /\ q32 /\ ∃ (y : Nat), y <= q14 /\ q14 - y < q14 - x_1 /\ q31 = (↑y : Int) /\ (Sp.outN q15 q16 x_1 ++ q30, q4) = (Sp.outN q15 q16 y, q4) /\ q20) /\ (q29 = false -> q32 /\ ∃ (y : Nat), y <= q14 /\ q14 - y < q14 - x_1 /\ q31 = (↑y : Int) /\ q23 = (Sp.outN q15 q16 y, q4) /\ q20)) /\
 (q24 = false ->
 (q7 /\ True) /\
 (∃ (x_2 : Nat), x_2 <= q0 /\ q3 = (↑x_2 : Int) /\ q23 = (q21, Sp.lastN x.1 x_2, ()) /\ q22) /\
 ∀ (x_2 : Nat),
 let q33 : Sp.Out := (q21, Sp.lastN x.1 x_2, ());
 let q34 : Bool := decide ((↑x_2 : Int) < q9);
 let q35 : List Sp.Msg := x.1.2.2.1.getD (↑x_2 : Int).toNat (([] : List tMsg.den));
 let q36 : Nat := q35.length;
 let q37 : Int := (↑q36 : Int) - q8;
 let q38 : List Int := (q35.getD q37.toNat q12).2.1 :: ([] : List tI.den);
 let q39 : Int := (↑x_2 : Int) + q8;
 x_2 <= q0 -> aD tI (↑x_2 : Int) /\ aD bO q33 /\ True -> q2 /\ (q34 = true -> ((inN (↑x_2 : Int) q0 /\ True /\ True) /\ True) /\ ((True /\ True /\ True /\ True /\ True /\ inK IntKind.i64 q37 /\ inN q37 q36 /\ q7) /\ (↑((Sp.lastN x.1 x_2).length + q38.length) : Int) <= aN /\ True /\ q13 = q13 /\ True) /\ ((inK IntKind.i64 q39 /\ True /\ True) /\ True) /\ ∃ (y : Nat), y <= q0 /\ q0 - y < q0 - x_2 /\ q39 = (↑y : Int) /\ (q21, Sp.lastN x.1 x_2 ++ q38, ()) = (q21, Sp.lastN x.1 y, ()) /\ q22) /\ (q34 = false -> ((True /\ True) /\ True /\ True) /\ q33 = (Sp.outR x.1, Sp.lastN x.1 q0, ())))) := by kernel_rfl
end Go.User
namespace Sp
theorem outN_succ (l : List LOp) (r : List Int) (n : Nat) : outN l r (n + 1) = outN l r n ++ (if (l.getD n op0).1 = 1 ∨ (l.getD n op0).1 = 3 then [r.getD n 0] else []) := by
 unfold outN; rw [List.range_succ, List.flatMap_append]; simp
theorem outN_len (l : List LOp) (r : List Int) : ∀ n, (outN l r n).length <= n
 | 0 => Nat.le_refl _
 | n + 1 => by
  rw [outN_succ, List.length_append];have := outN_len l r n;split
  ·simp; omega
  ·simp; omega
theorem lastN_succ (s : VSt) (n : Nat) : lastN s (n + 1) = lastN s n ++ [lastV (aC s n)] := by
 unfold lastN; rw [List.range_succ, List.map_append]; rfl
theorem lastN_len (s : VSt) (n : Nat) : (lastN s n).length = n := by simp [lastN]
end Sp
namespace Go.User
open Go.Lf Go.Proofs
theorem ok72 : FOk Try.prog 72 S72 := by
 have hC : aJ Try.prog C72 := okC (aG okCat fns_nil) rfl rfl rfl rfl rfl rfl rfl
 refine FOk.intro hC (aW hC) Try.call72 Try.func72 (by kernel_rfl) (by kernel_rfl) L72 (vc72.mpr ?_)
 simp only [zz, zy]
 rintro ⟨s, u⟩ hs hx
 have hs : Sp.OkS s := hs
 have htot := hs.tot
 have hcl := Sp.cat_len s.1.1
 have hrl := hs.rl
 refine ⟨by show Sp.aB s.1.1 <= 1000; exact htot, ⟨0, Nat.zero_le _, rfl, rfl⟩, fun n hn _ => ⟨fun hlt => ?_, fun hge => ?_⟩⟩
 ·have hn : n <= Sp.aB s.1.1 := hn
  have hlt : (n : Int) < ((Sp.cat s.1.1).length : Int) := hlt
  have hle := Sp.outN_len (Sp.cat s.1.1) s.2.2.2.2.2.1 n
  have his : inK .i64 ((n : Int) + 1) := bE (by omega) (by omega)
  refine ⟨inN_of hlt, fun hy => ⟨⟨⟨by omega, by show (n : Int) < (s.2.2.2.2.2.1.length : Int); omega⟩, ?_⟩, his, n + 1, ?_, ?_, ?_, ?_⟩, fun hy => ⟨his, n + 1, ?_, ?_, ?_, ?_⟩⟩
  ·show (((Sp.outN (Sp.cat s.1.1) s.2.2.2.2.2.1 n).length + 1 : Nat) : Int) <= 2147483648; omega
  ·show n + 1 <= Sp.aB s.1.1; omega
  ·show Sp.aB s.1.1 - (n + 1) < Sp.aB s.1.1 - n; omega
  ·show (n : Int) + 1 = ((n + 1 : Nat) : Int); omega
  ·have hy : ((Sp.cat s.1.1).getD n Sp.op0).1 = 1 ∨ ((Sp.cat s.1.1).getD n Sp.op0).1 = 3 := by simpa [Sp.op0] using hy
   show (Sp.outN (Sp.cat s.1.1) s.2.2.2.2.2.1 n ++ [s.2.2.2.2.2.1.getD n 0], ([] : List Int), ()) = (Sp.outN (Sp.cat s.1.1) s.2.2.2.2.2.1 (n + 1), [], ())
   rw [Sp.outN_succ, if_pos hy]
  ·show n + 1 <= Sp.aB s.1.1; omega
  ·show Sp.aB s.1.1 - (n + 1) < Sp.aB s.1.1 - n; omega
  ·show (n : Int) + 1 = ((n + 1 : Nat) : Int); omega
  ·have hy : ¬ (((Sp.cat s.1.1).getD n Sp.op0).1 = 1 ∨ ((Sp.cat s.1.1).getD n Sp.op0).1 = 3) := by simpa [Sp.op0] using hy
   show (Sp.outN (Sp.cat s.1.1) s.2.2.2.2.2.1 n, ([] : List Int), ()) = (Sp.outN (Sp.cat s.1.1) s.2.2.2.2.2.1 (n + 1), [], ())
   rw [Sp.outN_succ, if_neg hy, List.append_nil]
 ·have hn : n <= Sp.aB s.1.1 := hn
  have hge : ((Sp.cat s.1.1).length : Int) <= (n : Int) := hge
  have hn : n = Sp.aB s.1.1 := by omega
  subst hn;refine ⟨⟨0, by omega, rfl, rfl⟩, fun k hk _ => ⟨fun hl => ?_, fun hg => ?_⟩⟩
  ·have hl : (k : Int) < 3 := hl
   obtain ⟨m1, m2⟩ := hs.mem k (by omega);have hll := Sp.lastN_len s k;refine ⟨⟨by omega, hl⟩, ⟨⟨bE ?_ ?_, ?_, ?_⟩, ?_⟩, bE (by omega) (by omega), k + 1, by omega, by omega, by omega, ?_⟩
   ·show (-1000000000 : Int) <= ((Sp.aC s k).length : Int) - 1; omega
   ·show ((Sp.aC s k).length : Int) - 1 <= (1000000000 : Int); omega
   ·show (0 : Int) <= ((Sp.aC s k).length : Int) - 1; omega
   ·show ((Sp.aC s k).length : Int) - 1 < ((Sp.aC s k).length : Int); omega
   ·show (((Sp.lastN s k).length + 1 : Nat) : Int) <= 2147483648; omega
   ·show (Sp.outN (Sp.cat s.1.1) s.2.2.2.2.2.1 (Sp.aB s.1.1), Sp.lastN s k ++ [((Sp.aC s k).getD (((Sp.aC s k).length : Int) - 1).toNat Sp.msg0).2.1], ()) = (Sp.outN (Sp.cat s.1.1) s.2.2.2.2.2.1 (Sp.aB s.1.1), Sp.lastN s (k + 1), ())
    rw [Sp.lastN_succ, show (((Sp.aC s k).length : Int) - 1).toNat = (Sp.aC s k).length - 1 from by omega]; rfl
  ·have hk : k <= 3 := hk
   have hg : (3 : Int) <= (k : Int) := hg
   have hk : k = 3 := by omega
   subst hk; rfl
end Go.User
namespace Sp
open Go.Lf
theorem plc_nn {m : List Msg} {e : Int} : 0 <= plc m e ↔ ∃ x ∈ m, x.1 = e := by
 unfold plc findM
 cases h : m.findIdx? (fun m => decide (m.1 = e)) with
 | none =>
  simp only
  constructor
  ·intro h; omega
  ·rintro ⟨x, h1, h2⟩
   have := List.findIdx?_eq_none_iff.1 h x h1
   simp [h2] at this
 | some i =>
  obtain ⟨h1, h2, _⟩ := List.findIdx?_eq_some_iff_getElem.1 h;exact ⟨fun _ => ⟨m[i], List.getElem_mem _, of_decide_eq_true h2⟩, fun _ => Int.natCast_nonneg _⟩
theorem sum_one {n c : Nat} {f g : Nat -> Nat} (hc : c < n) (h1 : g c + 1 = f c) (h2 : ∀ k, k ≠ c -> g k = f k) : ((List.range n).map g).sum + 1 = ((List.range n).map f).sum := by
 induction n with
 | zero => omega
 | succ n ih =>
  rw [List.range_succ, List.map_append, List.map_append, List.sum_append, List.sum_append];simp only [List.map_cons, List.map_nil, List.sum_cons, List.sum_nil, Nat.add_zero];by_cases hcn : c = n
  ·subst hcn
   have : (List.range c).map g = (List.range c).map f := by
    refine List.map_congr_left fun k hk => h2 k ?_
    have := List.mem_range.1 hk; omega
   rw [this]; omega
  ·have := ih (by omega)
   rw [h2 n (fun h => hcn h.symm)]; omega
theorem pc_next (s : VSt) {x : Cho} (h : ofC x < s.2.1.length) (c : Nat) : bA (next s x) c = if c = ofC x then bA s (ofC x) + 1 else bA s c := by
 show (s.2.1.set (ofC x) (bA s (ofC x) + 1)).getD c 0 = _
 rw [Pl.bY c h]; rfl
theorem left_next {s : VSt} (h : OkS s) {x : Cho} (hx : x ∈ aE s) : left (next s x) + 1 = left s := by
 have X := h.xf hx
 have hl : ofC x < s.2.1.length := by rw [h.pcl]; exact X.lt
 unfold left
 refine sum_one (c := ofC x) X.lt ?_ ?_
 ·show (bJ s (ofC x)).length - (bA (next s x) (ofC x)).toNat + 1 = _
  rw [pc_next s hl, if_pos rfl];have := X.pc0;have := X.pc1;omega
 ·intro k hk
  show (bJ s k).length - (bA (next s x) k).toNat = _
  rw [pc_next s hl, if_neg hk]
theorem left_pos {s : VSt} (h : OkS s) {x : Cho} (hx : x ∈ aE s) : 1 <= left s := by
 have := left_next h hx; omega
theorem nMem_len {s : VSt} (h : OkS s) {x : Cho} (hx : x ∈ aE s) (p : Nat) :
  (aC (next s x) p).length = (aC s p).length ∨ (aC (next s x) p).length = (aC s p).length + 1 := by
 have X := h.xf hx
 have hm : aC (next s x) p = (nMem s x).getD p [] := rfl
 rw [hm]
 unfold nMem
 by_cases h4 : (opX s x).1 = 4 ∨ (opX s x).1 = 1
 ·rw [if_pos h4]; exact .inl rfl
 ·rw [if_neg h4]
  have hp : plX s x < s.2.2.1.length := by rw [h.meml]; have := X.pl0; have := X.pl1; unfold plX; omega
  rw [Pl.bY p hp];by_cases hpp : p = plX s x
  ·rw [if_pos hpp]
   obtain ⟨_, k0, k1, _⟩ := X.idx (fun h => h4 (.inl h))
   right
   rw [hpp, List.length_append, List.length_append, List.length_take, List.length_drop];simp only [List.length_singleton]; omega
  ·rw [if_neg hpp]; exact .inl rfl
theorem mem_next {s : VSt} (h : OkS s) {x : Cho} (hx : x ∈ aE s) {p : Nat} {m : Msg} (hm : m ∈ aC s p) : m ∈ aC (next s x) p := by
 have X := h.xf hx
 show m ∈ List.getD (nMem s x) p []
 unfold nMem
 by_cases h4 : (opX s x).1 = 4 ∨ (opX s x).1 = 1
 ·rw [if_pos h4]; exact hm
 ·rw [if_neg h4]
  have hp : plX s x < s.2.2.1.length := by rw [h.meml]; have := X.pl0; have := X.pl1; unfold plX; omega
  rw [Pl.bY p hp];by_cases hpp : p = plX s x
  ·rw [if_pos hpp]
   rw [hpp, <- List.take_append_drop (x.2.1.toNat + 1) (aC s (plX s x))] at hm;rcases List.mem_append.1 hm with hm | hm
   ·exact List.mem_append_left _ (List.mem_append_left _ hm)
   ·exact List.mem_append_right _ hm
  ·rw [if_neg hpp]; exact hm
theorem mem_new {s : VSt} (h : OkS s) {x : Cho} (hx : x ∈ aE s) (h4 : ¬ ((opX s x).1 = 4 ∨ (opX s x).1 = 1)) : newM s x ∈ aC (next s x) (plX s x) := by
 have X := h.xf hx
 show newM s x ∈ List.getD (nMem s x) (plX s x) []
 unfold nMem
 rw [if_neg h4]
 have hp : plX s x < s.2.2.1.length := by rw [h.meml]; have := X.pl0; have := X.pl1; unfold plX; omega
 rw [Pl.bY _ hp, if_pos rfl]
 exact List.mem_append_left _ (List.mem_append_right _ (List.mem_singleton.2 rfl))
theorem newM_e (s : VSt) (x : Cho) : (newM s x).1 = evt s x.1 := by
 unfold newM; split <;> rfl
theorem vw_next {s : VSt} (h : OkS s) {x : Cho} (hx : x ∈ aE s) {c p : Nat} (hc : c < s.1.1.length) (hp : p < 3) :
  vw (next s x) c p = vw s c p ∨ vw (next s x) c p = fnc s p ∨ (p = plX s x /\ (opX s x).1 ≠ 4 /\ ((opX s x).1 = 1 /\ vw (next s x) c p = (msgX s x).1 ∨ (opX s x).1 ≠ 1 /\ vw (next s x) c p = evt s x.1)) := by
 have X := h.xf hx
 have hvc : ofC x < s.2.2.2.1.length := by rw [h.vwl]; exact X.lt
 have hr := h.row _ X.lt
 have hrow : rowOf (next s x) c = (nVw s x).getD c [] := rfl
 unfold vw
 rw [hrow]
 unfold nVw
 by_cases h4 : (opX s x).1 = 4
 ·rw [if_pos h4]
  unfold vwN;rw [Pl.bY c hvc];by_cases hcc : c = ofC x
  ·rw [if_pos hcc, rowN_get _ _ _ hp, if_pos hp]
   unfold later;subst hcc;split
   ·exact .inr (.inl rfl)
   ·exact .inl rfl
  ·rw [if_neg hcc]; exact .inl rfl
 ·rw [if_neg h4]
  by_cases h1 : (opX s x).1 = 1
  ·rw [if_pos h1, Pl.bY c hvc]
   by_cases hcc : c = ofC x
   ·have hpl : plX s x < (rowOf s (ofC x)).length := by rw [hr]; have := X.pl0; have := X.pl1; unfold plX; omega
    rw [if_pos hcc, Pl.bY p hpl];by_cases hpp : p = plX s x
    ·rw [if_pos hpp]; exact .inr (.inr ⟨hpp, h4, .inl ⟨h1, rfl⟩⟩)
    ·rw [if_neg hpp, hcc]; exact .inl rfl
   ·rw [if_neg hcc]; exact .inl rfl
  ·rw [if_neg h1, Pl.bY c hvc]
   by_cases hcc : c = ofC x
   ·have hpl : plX s x < (rowOf s (ofC x)).length := by rw [hr]; have := X.pl0; have := X.pl1; unfold plX; omega
    rw [if_pos hcc, Pl.bY p hpl];by_cases hpp : p = plX s x
    ·rw [if_pos hpp]; exact .inr (.inr ⟨hpp, h4, .inr ⟨h1, rfl⟩⟩)
    ·rw [if_neg hpp, hcc]; exact .inl rfl
   ·rw [if_neg hcc]; exact .inl rfl
theorem fnc_next {s : VSt} (h : OkS s) {x : Cho} (hx : x ∈ aE s) {p : Nat} (hp : p < 3) : fnc (next s x) p = fnc s p ∨ fnc (next s x) p = vw s (ofC x) p := by
 have hm : fnc (next s x) p = (nFe s x).getD p 0 := rfl
 rw [hm]
 unfold nFe
 split
 ·rw [rowN_get _ _ _ hp, if_pos hp]
  unfold later;split
  ·exact .inl rfl
  ·exact .inr rfl
 ·exact .inl rfl
theorem plc_next {s : VSt} (h : OkS s) {x : Cho} (hx : x ∈ aE s) {p : Nat} {e : Int} (he : 0 <= plc (aC s p) e) : 0 <= plc (aC (next s x) p) e := by
 obtain ⟨m, h1, h2⟩ := plc_nn.1 he
 exact plc_nn.2 ⟨m, mem_next h hx h1, h2⟩
theorem Good.next {s : VSt} (g : Good s) {x : Cho} (hx : x ∈ aE s) : Good (next s x) := by
 have h := g.ok
 have X := h.xf hx
 have hln := left_next h hx
 have hl : ofC x < s.2.1.length := by rw [h.pcl]; exact X.lt
 have hmem : ∀ p, p < 3 -> (aC (Sp.next s x) p).length + left (Sp.next s x) <= 1 + aB s.1.1 := by
  intro p hp;have := g.mem p hp;rcases nMem_len h hx p with h1 | h1 <;> omega
 have hfol : (Sp.next s x).2.2.2.2.2.2.2.1.length + left (Sp.next s x) <= aB s.1.1 := by
  have := g.fol
  show (nFo s x).length + left (Sp.next s x) <= aB s.1.1
  unfold nFo;split
  ·rw [List.length_append]; simp only [List.length_singleton]; omega
  ·omega
 have htot := g.tot
 refine ⟨⟨h.few, h.tot, ?_, ?_, h.ops, ?_, ?_, ?_, ?_, ?_, ?_, ?_, ?_, ?_, ?_⟩, g.few, g.tot, hmem, hfol⟩
 ·show (nPc s x).length = _
  unfold nPc; rw [List.length_set]; exact h.pcl
 ·intro c hc
  rw [pc_next s hl];show 0 <= _ /\ _ <= ((bJ s c).length : Int);have hpc := h.pc c hc;by_cases hcc : c = ofC x
  ·rw [if_pos hcc, hcc]
   have := X.pc0
   have := X.pc1
   omega
  ·rw [if_neg hcc]; exact hpc
 ·show (nMem s x).length = 3
  unfold nMem;split
  ·exact h.meml
  ·rw [List.length_set]; exact h.meml
 ·intro p hp
  have h1 := hmem p hp
  have h2 := (h.mem p hp).1
  rcases nMem_len h hx p with h3 | h3 <;> omega
 ·show (nVw s x).length = _
  unfold nVw;split
  ·rw [vwN_len]; exact h.vwl
  ·split
   ·rw [List.length_set]; exact h.vwl
   ·rw [List.length_set]; exact h.vwl
 ·intro c hc
  have hc : c < s.1.1.length := hc
  have hvc : ofC x < s.2.2.2.1.length := by rw [h.vwl]; exact X.lt
  have hr := h.row _ X.lt
  have hrc := h.row c hc
  show ((nVw s x).getD c []).length = 3
  unfold nVw;split
  ·unfold vwN
   rw [Pl.bY c hvc];split
   ·exact rowN_len _ _ _
   ·exact hrc
  ·split
   ·rw [Pl.bY c hvc]
    split
    ·rw [List.length_set]; exact hr
    ·exact hrc
   ·rw [Pl.bY c hvc]
    split
    ·rw [List.length_set]; exact hr
    ·exact hrc
 ·intro c hc p hp
  have hc : c < s.1.1.length := hc
  show 0 <= plc (aC (Sp.next s x) p) (vw (Sp.next s x) c p)
  rcases vw_next h hx hc hp with e | e | ⟨hpp, h4, ⟨h1, e⟩ | ⟨h1, e⟩⟩
  ·rw [e]; exact plc_next h hx (h.see c hc p hp)
  ·rw [e]; exact plc_next h hx (h.fes p hp)
  ·rw [e, hpp]
   obtain ⟨_, k0, k1, _⟩ := X.idx h4;exact plc_nn.2 ⟨_, mem_next h hx (Pl.bK k1 _), rfl⟩
  ·rw [e, hpp]
   exact plc_nn.2 ⟨_, mem_new h hx (fun h => h.elim h4 h1), newM_e s x⟩
 ·show (nFe s x).length = 3
  unfold nFe;split
  ·exact rowN_len _ _ _
  ·exact h.fel
 ·intro p hp
  rcases fnc_next h hx hp with e | e
  ·rw [e]; exact plc_next h hx (h.fes p hp)
  ·rw [e]; exact plc_next h hx (h.see _ X.lt p hp)
 ·show (nR s x).length = _
  unfold nR;split
  ·exact h.rl
  ·rw [List.length_set]; exact h.rl
 ·show (nFr s x).length = _
  unfold nFr;split
  ·exact h.frl
  ·rw [List.length_set]; exact h.frl
 ·omega
end Sp
namespace Sp
open Go.Lf
theorem cmpI_swap : ∀ (a b : List Int), cmpI a b = - cmpI b a
 | [], [] => rfl
 | [], _ :: _ => rfl
 | _ :: _, [] => rfl
 | x :: a, y :: b => by
  unfold cmpI;have ih := cmpI_swap a b;by_cases h1 : x < y
  ·rw [if_pos h1, if_neg (by omega), if_pos h1]
  ·rw [if_neg h1]
   by_cases h2 : y < x
   ·rw [if_pos h2, if_pos h2]; rfl
   ·rw [if_neg h2, if_neg h2, if_neg h1]; exact ih
theorem cmpO_swap (a b : Out) : cmpO a b = - cmpO b a := by
 unfold cmpO
 have h1 := cmpI_swap a.1 b.1
 have h2 := cmpI_swap a.2.1 b.2.1
 by_cases h : cmpI a.1 b.1 = 0
 ·rw [if_pos h, if_pos (by omega), h2]
 ·rw [if_neg h, if_neg (by omega), h1]
theorem below_spec {l : List Out} (hs : sortedO l) (o : Out) : below l o <= l.length /\ (∀ i, i < below l o -> cmpO (l.getD i out0) o < 0) /\ (∀ i, below l o <= i -> i < l.length -> ¬ cmpO (l.getD i out0) o < 0) := by
 obtain ⟨k, hk⟩ : ∃ k, k = (l.takeWhile fun e => decide (cmpO e o < 0)).length := ⟨_, rfl⟩
 have hkl : k <= l.length := by rw [hk]; exact Pl.tw_le _ _
 have h1 : ∀ i, i < k -> decide (cmpO (l.getD i out0) o < 0) = true := fun i hi => Pl.tw_get (d := out0) (by rw [<- hk]; exact hi)
 have h2 : ∀ i, k <= i -> i < l.length -> decide (cmpO (l.getD i out0) o < 0) = false := by
  intro i hi hl;have hst := Pl.tw_stop (p := fun e => decide (cmpO e o < 0)) (l := l) (d := out0) (by rw [<- hk]; omega)
  rw [<- hk] at hst;rcases Nat.eq_or_lt_of_le hi with h | h
  ·rw [<- h]; exact hst
  ·refine decide_eq_false fun hlt => ?_
   exact of_decide_eq_false hst (cmpO_trans (hs k i h hl) hlt)
 have hb : below l o = k := Pl.countP_at (d := out0) hkl h1 h2
 rw [hb]
 exact ⟨hkl, fun i hi => of_decide_eq_true (h1 i hi), fun i hi hl => of_decide_eq_false (h2 i hi hl)⟩
theorem ins_get {l : List Out} {k : Nat} (hk : k <= l.length) (o : Out) (i : Nat) : (l.take k ++ [o] ++ l.drop k).getD i out0 = if i < k then l.getD i out0 else if i = k then o else l.getD (i - 1) out0 := by
 have hl : (l.take k).length = k := by rw [List.length_take]; omega
 rw [List.getD_eq_getElem?_getD, List.append_assoc]
 by_cases h1 : i < k
 ·rw [if_pos h1, List.getElem?_append_left (by omega), List.getElem?_take, if_pos h1, List.getD_eq_getElem?_getD]
 ·rw [if_neg h1, List.getElem?_append_right (by omega), hl]
  by_cases h2 : i = k
  ·rw [if_pos h2, h2, Nat.sub_self]; rfl
  ·rw [if_neg h2]
   obtain ⟨j, hj⟩ : ∃ j, i - k = j + 1 := ⟨i - k - 1, by omega⟩
   rw [hj, List.singleton_append, List.getElem?_cons_succ, List.getElem?_drop, List.getD_eq_getElem?_getD]
   congr 2; omega
theorem ins_len {l : List Out} {k : Nat} (hk : k <= l.length) (o : Out) : (l.take k ++ [o] ++ l.drop k).length = l.length + 1 := by
 rw [List.length_append, List.length_append, List.length_take, List.length_drop]; simp only [List.length_singleton]; omega
theorem insO_len (l : List Out) (o : Out) (hs : sortedO l) : (insO l o).length <= l.length + 1 := by
 unfold insO
 split
 ·omega
 ·rw [ins_len (below_spec hs o).1]; exact Nat.le_refl _
theorem insO_sorted {l : List Out} (hs : sortedO l) (o : Out) : sortedO (insO l o) := by
 unfold insO
 split
 ·exact hs
 ·rename_i hf
  obtain ⟨b1, b2, b3⟩ := below_spec hs o;have hgt : ∀ i, below l o <= i -> i < l.length -> cmpO o (l.getD i out0) < 0 := by
   intro i hi hl;have hk : cmpO o (l.getD (below l o) out0) < 0 := by
    have h1 := b3 (below l o) (Nat.le_refl _) (by omega)
    have h2 : ¬ cmpO (l.getD (below l o) out0) o = 0 := by
     intro h;refine hf ?_;unfold foundO;rw [decide_eq_true (show below l o < l.length by omega), decide_eq_true h]; rfl
    have := cmpO_swap o (l.getD (below l o) out0)
    omega
   rcases Nat.eq_or_lt_of_le hi with h | h
   ·rw [<- h]; exact hk
   ·exact cmpO_trans hk (hs _ _ h hl)
  intro i j hij hj;rw [ins_len b1] at hj;rw [ins_get b1, ins_get b1];by_cases i1 : i < below l o
  ·rw [if_pos i1]
   by_cases j1 : j < below l o
   ·rw [if_pos j1]; exact hs i j hij (by omega)
   ·rw [if_neg j1]
    by_cases j2 : j = below l o
    ·rw [if_pos j2]; exact b2 i i1
    ·rw [if_neg j2]; exact hs i (j - 1) (by omega) (by omega)
  ·rw [if_neg i1, if_neg (by omega : ¬ j < below l o)]
   by_cases i2 : i = below l o
   ·rw [if_pos i2, if_neg (by omega)]; exact hgt _ (by omega) (by omega)
   ·rw [if_neg i2, if_neg (by omega)]; exact hs _ _ (by omega) (by omega)
theorem choices_len {s : VSt} (g : Good s) (h6 : aB s.1.1 <= 6) : (aE s).length <= 28 := by
 have h := g.ok
 have key : ∀ n, n <= s.1.1.length -> (choN s n).length <= 7 * n := by
  intro n
  induction n with
  | zero => intro _; exact Nat.le_refl _
  | succ n ih =>
   intro hn;rw [choN_succ, List.length_append];have := ih (by omega);have : (chC s n).length <= 7 := by
    by_cases h1 : bA s n = (bJ s n).length
    ·rw [chC_done h1]; simp
    ·by_cases h2 : (aI s n).1 = 4
     ·rw [chC_fence h1 h2]; simp
     ·rw [chC_other h1 h2]
      obtain ⟨_, _, g3, g4, _⟩ := h.op (by omega) h1;have := chI_len (aI s n) (aC s (aI s n).2.1.toNat) (plV s n (aI s n).2.1.toNat) n (aC s (aI s n).2.1.toNat).length;have := g.mem (aI s n).2.1.toNat (by omega);omega
   omega
 have := key _ (Nat.le_refl _)
 have := g.few
 unfold aE; omega
theorem visit_ok : ∀ (n : Nat) {s : VSt}, Good s -> aB s.1.1 <= 6 -> left s = n -> ∀ l, sortedO l -> sortedO (visit n s l) /\ (visit n s l).length <= l.length + 28 ^ n
 | 0, s, g, h6, hl, l, hs => by
  unfold visit;exact ⟨insO_sorted hs _, by have := insO_len l (outcome s) hs; simpa using this⟩
 | n + 1, s, g, h6, hl, l, hs => by
  unfold visit;have hpos : 1 <= 28 ^ (n + 1) := Nat.one_le_pow _ _ (by omega);by_cases h0 : aE s = []
  ·rw [if_pos h0]
   exact ⟨insO_sorted hs _, by have := insO_len l (outcome s) hs; omega⟩
  ·rw [if_neg h0]
   have key : ∀ (xs : List Cho), (∀ x ∈ xs, x ∈ aE s) -> ∀ l, sortedO l -> sortedO (xs.foldl (fun l x => visit n (next s x) l) l) /\ (xs.foldl (fun l x => visit n (next s x) l) l).length <= l.length + xs.length * 28 ^ n := by
    intro xs
    induction xs with
    | nil => intro _ l hl; exact ⟨hl, by simp⟩
    | cons x xs ih =>
     intro hx l hl';have hxm := hx x List.mem_cons_self;have hln := left_next g.ok hxm;obtain ⟨a1, a2⟩ := visit_ok n (g.next hxm) h6 (by omega) l hl';obtain ⟨b1, b2⟩ := ih (fun y hy => hx y (List.mem_cons_of_mem _ hy)) _ a1
     refine ⟨b1, ?_⟩
     rw [List.foldl_cons, List.length_cons, Nat.succ_mul];omega
   obtain ⟨a1, a2⟩ := key (aE s) (fun _ h => h) l hs
   refine ⟨a1, Nat.le_trans a2 ?_⟩
   have hc := choices_len g h6
   have : (aE s).length * 28 ^ n <= 28 ^ (n + 1) := by
    rw [Nat.pow_succ, Nat.mul_comm (28 ^ n)];exact Nat.mul_le_mul_right _ hc
   omega
theorem visitN_zero (n : Nat) (s : VSt) (l : List Out) : visitN n s l 0 = l := rfl
theorem visitN_succ (n : Nat) (s : VSt) (l : List Out) {i : Nat} (h : i < (aE s).length) : visit n (next s ((aE s).getD i (0, 0, ()))) (visitN n s l i) = visitN n s l (i + 1) := by
 unfold visitN
 rw [Pl.take_succ h (0, 0, ()), List.foldl_append]; rfl
theorem visitN_ok {n : Nat} {s : VSt} (g : Good s) (h6 : aB s.1.1 <= 6) (hl : left s = n + 1) {l : List Out} (hs : sortedO l) : ∀ i, i <= (aE s).length -> sortedO (visitN n s l i) /\ (visitN n s l i).length <= l.length + i * 28 ^ n
 | 0, _ => ⟨hs, by rw [visitN_zero]; omega⟩
 | i + 1, hi => by
  obtain ⟨a1, a2⟩ := visitN_ok g h6 hl hs i (by omega);have hxm : (aE s).getD i (0, 0, ()) ∈ aE s := Pl.bK (by omega) _;have hln := left_next g.ok hxm;obtain ⟨b1, b2⟩ := visit_ok n (g.next hxm) h6 (by omega) _ a1;rw [<- visitN_succ n s l (by omega)];refine ⟨b1, ?_⟩;rw [Nat.succ_mul]; omega
theorem visit_end {n : Nat} {s : VSt} {l : List Out} (h : aE s = []) : visit n s l = insO l (outcome s) := by
 cases n with
 | zero => rfl
 | succ n => unfold visit; rw [if_pos h]
theorem visit_more {n : Nat} {s : VSt} {l : List Out} (h : aE s ≠ []) : visit (n + 1) s l = visitN n s l (aE s).length := by
 unfold visit visitN; rw [if_neg h, List.take_length]
end Sp
namespace Go.User
open Go Go.Proofs Go.RowKit Go.Lib
theorem run_copy_k {P : Program} (w : World) (dT sT ty elem : TypeId) (g o dLen dCap : Nat) (a : Addr) (sLen sCap es : Nat) (cur : Array Value) (t : TypeId) (cs : List Value)
  (hu : P.underlying dT = some (.slice elem)) (hs : (P.info? elem).map (·.size) = some es)
  (hg : w.heap[g]? = some (.cells cur t (0, 0))) (hn : cs.length = Nat.min sLen dLen * es)
  (hsrc : ∀ j v, cs[j]? = some v -> w.cell? (a.add j) = some v) (hfit : o + cs.length <= cur.size) (h1 : ∀ v ∈ cs, v.oneCell' = true) :
  (Builtin.copy_ #[dT, sT] ty #[.slice (some ⟨g, o, none⟩) dLen dCap, .slice (some a) sLen sCap]).run P w =
   .ok (goInt (Nat.min sLen dLen)) (w.setRow g (cur.toList.take o ++ cs ++ cur.toList.drop (o + cs.length)).toArray) := by
 have hl := run_loadCells_list (P := P) w a cs hsrc
 have hst := run_storeCells_at P g o t cs 0 cur w hg (by simpa using hfit) h1
 cases hq : P.info? elem with
 | none => simp [hq] at hs
 | some i =>
  have hi : i.size = es := by simpa [hq] using hs
  simp [Builtin.copy_, run_underlying hu, Builtin.lenOf, Builtin.firstCells, Go.sizeOf, typeInfo, hq, hi, <- hn, hl, hst]
theorem bW {P : Program} (W : World) (dT sT elem : TypeId) (g o dLen dCap : Nat) (a : Addr) (sLen sCap es k : Nat) (cur : List Value) (t : TypeId) (cs : List Value)
  (hu : P.underlying dT = some (.slice elem)) (hs : (P.info? elem).map (·.size) = some es) (hk : Nat.min sLen dLen = k)
  (hg : W.heap[g]? = some (.cells cur.toArray t (0, 0))) (hn : cs.length = k * es)
  (hsrc : ∀ j v, cs[j]? = some v -> W.cell? (a.add j) = some v) (hfit : o + cs.length <= cur.length) (h1 : ∀ v ∈ cs, v.oneCell' = true) :
  ∃ W', (∀ ty, (Builtin.copy_ #[dT, sT] ty #[.slice (some ⟨g, o, none⟩) dLen dCap, .slice (some a) sLen sCap]).run P W = .ok (goInt k) W') /\ W'.heap[g]? = some (.cells (cur.take o ++ cs ++ cur.drop (o + cs.length)).toArray t (0, 0)) /\
   W'.heap.size = W.heap.size /\ Below g W W' := by
 subst hk
 refine ⟨_, fun ty => run_copy_k W dT sT ty elem g o dLen dCap a sLen sCap es cur.toArray t cs hu hs hg hn hsrc (by simpa using hfit) h1, ?_, ?_, ?_⟩
 ·simpa using setRow_heap W g _ _ t _ hg
 ·simp [World.setRow]
 ·exact below_setRow (Below.refl _ _) (Nat.le_refl _) _
theorem row_cell {W : World} {g : Nat} {cur cs : List Value} {t : TypeId} (hg : W.heap[g]? = some (.cells cur.toArray t (0, 0))) (h : ∃ r, cur = cs ++ r) : ∀ j u, cs[j]? = some u -> W.cell? ((⟨g, 0, none⟩ : Addr).add j) = some u := by
 intro j u hj
 obtain ⟨r, rfl⟩ := h
 have hlt : j < cs.length := (List.getElem?_eq_some_iff.1 hj).1
 have : (⟨g, 0, none⟩ : Addr).add j = ⟨g, j, none⟩ := by unfold Addr.add; split <;> simp_all
 rw [this]
 simp only [World.cell?, hg]
 simp only [List.getElem?_toArray]
 rw [List.getElem?_append_left hlt]; exact hj
set_option maxHeartbeats 4000000 in
set_option maxRecDepth 100000 in
theorem mul_1 (w : World) : Calls Try.prog 79 #[.int .u64 1, .int .u64 1] w fun e w' => e = .returned (.tuple #[.int .u64 0, .int .u64 1]) /\ w = w' := by
 go_enter Try.func79, Try.ntmps79
 go_wp2
 go_ret2
 refine ⟨?_, rfl⟩
 kernel_rfl
set_option maxHeartbeats 4000000 in
set_option maxRecDepth 100000 in
theorem mul_2 (w : World) : Calls Try.prog 79 #[.int .u64 1, .int .u64 2] w fun e w' => e = .returned (.tuple #[.int .u64 0, .int .u64 2]) /\ w = w' := by
 go_enter Try.func79, Try.ntmps79
 go_wp2
 go_ret2
 refine ⟨?_, rfl⟩
 kernel_rfl
set_option maxHeartbeats 4000000 in
set_option maxRecDepth 100000 in
theorem mul_3 (w : World) : Calls Try.prog 79 #[.int .u64 1, .int .u64 3] w fun e w' => e = .returned (.tuple #[.int .u64 0, .int .u64 3]) /\ w = w' := by
 go_enter Try.func79, Try.ntmps79
 go_wp2
 go_ret2
 refine ⟨?_, rfl⟩
 kernel_rfl
set_option maxHeartbeats 4000000 in
set_option maxRecDepth 100000 in
theorem mul_4 (w : World) : Calls Try.prog 79 #[.int .u64 1, .int .u64 4] w fun e w' => e = .returned (.tuple #[.int .u64 0, .int .u64 4]) /\ w = w' := by
 go_enter Try.func79, Try.ntmps79
 go_wp2
 go_ret2
 refine ⟨?_, rfl⟩
 kernel_rfl
set_option maxHeartbeats 4000000 in
set_option maxRecDepth 100000 in
theorem mul_5 (w : World) : Calls Try.prog 79 #[.int .u64 1, .int .u64 5] w fun e w' => e = .returned (.tuple #[.int .u64 0, .int .u64 5]) /\ w = w' := by
 go_enter Try.func79, Try.ntmps79
 go_wp2
 go_ret2
 refine ⟨?_, rfl⟩
 kernel_rfl
set_option maxHeartbeats 4000000 in
set_option maxRecDepth 100000 in
theorem mul_6 (w : World) : Calls Try.prog 79 #[.int .u64 1, .int .u64 6] w fun e w' => e = .returned (.tuple #[.int .u64 0, .int .u64 6]) /\ w = w' := by
 go_enter Try.func79, Try.ntmps79
 go_wp2
 go_ret2
 refine ⟨?_, rfl⟩
 kernel_rfl
set_option maxHeartbeats 8000000 in
set_option maxRecDepth 100000 in
theorem rep45_1 (w : World) (xb xo xc : Nat) (v : Int) (hv : ∀ j u, ([.int .i64 v] : List Value)[j]? = some u -> w.cell? ((⟨xb, xo, none⟩ : Addr).add j) = some u) (hxb : xb < w.heap.size) :
  Calls Try.prog 45 #[.slice (some ⟨xb, xo, none⟩) 1 xc, .int .i64 1] w fun e w' => e = .returned (.slice (some ⟨w.heap.size, 0, none⟩) 1 1) /\ Below w.heap.size w w' /\ w'.heap[w.heap.size]? = some (.cells ([.int .i64 v] : List Value).toArray 3 (0, 0)) /\ w'.heap.size = w.heap.size + 1 := by
 obtain ⟨i0, hi0, hz0, hs0, hb0⟩ : ∃ i0, Try.prog.info? 3 = some i0 /\ i0.zero = some (.int .i64 0) /\ i0.size = 1 /\ i0.bytes = 8 := ⟨_, rfl, rfl, rfl, rfl⟩
 have hi : (Try.prog.info? 3).map (·.size) = some 1 := by rw [hi0]; simp [hs0]
 have hmk := run_make (P := Try.prog) w 39 3 i0 (.int .i64 0) Try.underlying39 hi0 hz0 .i64 .i64 1 1 (by omega) (by omega) (by rw [hb0]; omega) (by omega)
 rw [hs0] at hmk
 obtain ⟨W1, hW1⟩ : ∃ W1, W1 = w.alloc (.cells (madeCells ((.int .i64 0) : Value).cells ((1 : Int).toNat * 1)) 3) := ⟨_, rfl⟩
 rw [<- hW1] at hmk
 have h1 : W1.heap[w.heap.size]? = some (.cells ([.int .i64 0] : List Value).toArray 3 (0, 0)) := by
  have e : madeCells ((.int .i64 0) : Value).cells ((1 : Int).toNat * 1) = ([.int .i64 0] : List Value).toArray := by kernel_rfl
  rw [hW1, e]; show (w.heap.push _)[w.heap.size]? = _; simp
 have hsz1 : W1.heap.size = w.heap.size + 1 := by rw [hW1]; show (w.heap.push _).size = _; simp
 have hb1 : Below w.heap.size w W1 := by rw [hW1]; exact (Below.refl _ w).alloc (Nat.le_refl _) _
 have hv1 : ∀ j u, ([.int .i64 v] : List Value)[j]? = some u -> W1.cell? ((⟨xb, xo, none⟩ : Addr).add j) = some u := by
  intro j u hj;have := hv j u hj;have e : (⟨xb, xo, none⟩ : Addr).add j = ⟨xb, xo + j, none⟩ := by unfold Addr.add; split <;> simp_all
  rw [e] at this ⊢;rw [hW1, World.cell?_alloc_past (w := w) _ xb (xo + j) hxb]; exact this
 clear hW1 hv
 obtain ⟨W2, hc2, h2, hsz2, hb2⟩ := bW (P := Try.prog) W1 39 39 3 w.heap.size 0 1 1 ⟨xb, xo, none⟩ 1 xc 1 1 _ 3 ([.int .i64 v] : List Value) Try.underlying39 hi rfl h1 rfl hv1 (by simp) (by simp [Value.oneCell'])
 have mixed : Try.prog.follows .mixedOrders = true := (okA fns_nil : Go.Lf.aJ Try.prog (mkC 0 [])).mixed
 go_enter Try.func45, Try.ntmps45
 go_wp2_with (first | (go_at_call 79; refine (mul_1 _).mono ?_; rintro e w' ⟨rfl, rfl⟩) | (at_builtin; refine wpList_copy_runI _ rfl _ _ 39 39 rfl _ _ rfl rfl (hc2 _) ?_))
 refine wp_loop_rounds 1 ?_
 rw [rounds_succ]
 go_wp2
 go_ret
 refine ⟨rfl, (hb1.trans hb2), ?_, ?_⟩
 ·simpa using h2
 ·have d : ∀ x : World, x.drew.heap.size = x.heap.size := fun _ => rfl
  skip
  omega
set_option maxHeartbeats 8000000 in
set_option maxRecDepth 100000 in
theorem rep45_2 (w : World) (xb xo xc : Nat) (v : Int) (hv : ∀ j u, ([.int .i64 v] : List Value)[j]? = some u -> w.cell? ((⟨xb, xo, none⟩ : Addr).add j) = some u) (hxb : xb < w.heap.size) :
  Calls Try.prog 45 #[.slice (some ⟨xb, xo, none⟩) 1 xc, .int .i64 2] w fun e w' => e = .returned (.slice (some ⟨w.heap.size, 0, none⟩) 2 2) /\ Below w.heap.size w w' /\ w'.heap[w.heap.size]? = some (.cells ([.int .i64 v, .int .i64 v] : List Value).toArray 3 (0, 0)) /\ w'.heap.size = w.heap.size + 1 := by
 obtain ⟨i0, hi0, hz0, hs0, hb0⟩ : ∃ i0, Try.prog.info? 3 = some i0 /\ i0.zero = some (.int .i64 0) /\ i0.size = 1 /\ i0.bytes = 8 := ⟨_, rfl, rfl, rfl, rfl⟩
 have hi : (Try.prog.info? 3).map (·.size) = some 1 := by rw [hi0]; simp [hs0]
 have hmk := run_make (P := Try.prog) w 39 3 i0 (.int .i64 0) Try.underlying39 hi0 hz0 .i64 .i64 2 2 (by omega) (by omega) (by rw [hb0]; omega) (by omega)
 rw [hs0] at hmk
 obtain ⟨W1, hW1⟩ : ∃ W1, W1 = w.alloc (.cells (madeCells ((.int .i64 0) : Value).cells ((2 : Int).toNat * 1)) 3) := ⟨_, rfl⟩
 rw [<- hW1] at hmk
 have h1 : W1.heap[w.heap.size]? = some (.cells ([.int .i64 0, .int .i64 0] : List Value).toArray 3 (0, 0)) := by
  have e : madeCells ((.int .i64 0) : Value).cells ((2 : Int).toNat * 1) = ([.int .i64 0, .int .i64 0] : List Value).toArray := by kernel_rfl
  rw [hW1, e]; show (w.heap.push _)[w.heap.size]? = _; simp
 have hsz1 : W1.heap.size = w.heap.size + 1 := by rw [hW1]; show (w.heap.push _).size = _; simp
 have hb1 : Below w.heap.size w W1 := by rw [hW1]; exact (Below.refl _ w).alloc (Nat.le_refl _) _
 have hv1 : ∀ j u, ([.int .i64 v] : List Value)[j]? = some u -> W1.cell? ((⟨xb, xo, none⟩ : Addr).add j) = some u := by
  intro j u hj;have := hv j u hj;have e : (⟨xb, xo, none⟩ : Addr).add j = ⟨xb, xo + j, none⟩ := by unfold Addr.add; split <;> simp_all
  rw [e] at this ⊢;rw [hW1, World.cell?_alloc_past (w := w) _ xb (xo + j) hxb]; exact this
 clear hW1 hv
 obtain ⟨W2, hc2, h2, hsz2, hb2⟩ := bW (P := Try.prog) W1 39 39 3 w.heap.size 0 2 2 ⟨xb, xo, none⟩ 1 xc 1 1 _ 3 ([.int .i64 v] : List Value) Try.underlying39 hi rfl h1 rfl hv1 (by simp) (by simp [Value.oneCell'])
 have h2' : W2.drew.heap[w.heap.size]? = some (.cells ([.int .i64 v, .int .i64 0] : List Value).toArray 3 (0, 0)) := by show W2.heap[w.heap.size]? = _; simpa using h2
 obtain ⟨W3, hc3, h3, hsz3, hb3⟩ := bW (P := Try.prog) W2.drew 39 39 3 w.heap.size 1 1 1 ⟨w.heap.size, 0, none⟩ 1 2 1 1 _ 3 ([.int .i64 v] : List Value) Try.underlying39 hi rfl h2' rfl (row_cell h2' ⟨_, rfl⟩) (by simp) (by simp [Value.oneCell'])
 have mixed : Try.prog.follows .mixedOrders = true := (okA fns_nil : Go.Lf.aJ Try.prog (mkC 0 [])).mixed
 go_enter Try.func45, Try.ntmps45
 go_wp2_with (first | (go_at_call 79; refine (mul_2 _).mono ?_; rintro e w' ⟨rfl, rfl⟩) | (at_builtin; refine wpList_copy_runI _ rfl _ _ 39 39 rfl _ _ rfl rfl (hc2 _) ?_))
 refine wp_loop_rounds 2 ?_
 rw [rounds_succ]
 go_wp2
 go_region_law_o (refine step_copy_runI rfl _ _ 39 39 rfl _ _ (by simp [Act.eval, Act.put]) (by simp [Act.eval, Act.put]) (hc3 _) ?_)
 go_wp2
 rw [rounds_succ]
 go_wp2
 go_ret
 refine ⟨rfl, (Below.trans (Below.drew (hb1.trans hb2)) hb3), ?_, ?_⟩
 ·simpa using h3
 ·have d : ∀ x : World, x.drew.heap.size = x.heap.size := fun _ => rfl
  simp only [d] at hsz3;omega
set_option maxHeartbeats 8000000 in
set_option maxRecDepth 100000 in
theorem rep45_3 (w : World) (xb xo xc : Nat) (v : Int) (hv : ∀ j u, ([.int .i64 v] : List Value)[j]? = some u -> w.cell? ((⟨xb, xo, none⟩ : Addr).add j) = some u) (hxb : xb < w.heap.size) :
  Calls Try.prog 45 #[.slice (some ⟨xb, xo, none⟩) 1 xc, .int .i64 3] w fun e w' => e = .returned (.slice (some ⟨w.heap.size, 0, none⟩) 3 3) /\ Below w.heap.size w w' /\ w'.heap[w.heap.size]? = some (.cells ([.int .i64 v, .int .i64 v, .int .i64 v] : List Value).toArray 3 (0, 0)) /\ w'.heap.size = w.heap.size + 1 := by
 obtain ⟨i0, hi0, hz0, hs0, hb0⟩ : ∃ i0, Try.prog.info? 3 = some i0 /\ i0.zero = some (.int .i64 0) /\ i0.size = 1 /\ i0.bytes = 8 := ⟨_, rfl, rfl, rfl, rfl⟩
 have hi : (Try.prog.info? 3).map (·.size) = some 1 := by rw [hi0]; simp [hs0]
 have hmk := run_make (P := Try.prog) w 39 3 i0 (.int .i64 0) Try.underlying39 hi0 hz0 .i64 .i64 3 3 (by omega) (by omega) (by rw [hb0]; omega) (by omega)
 rw [hs0] at hmk
 obtain ⟨W1, hW1⟩ : ∃ W1, W1 = w.alloc (.cells (madeCells ((.int .i64 0) : Value).cells ((3 : Int).toNat * 1)) 3) := ⟨_, rfl⟩
 rw [<- hW1] at hmk
 have h1 : W1.heap[w.heap.size]? = some (.cells ([.int .i64 0, .int .i64 0, .int .i64 0] : List Value).toArray 3 (0, 0)) := by
  have e : madeCells ((.int .i64 0) : Value).cells ((3 : Int).toNat * 1) = ([.int .i64 0, .int .i64 0, .int .i64 0] : List Value).toArray := by kernel_rfl
  rw [hW1, e]; show (w.heap.push _)[w.heap.size]? = _; simp
 have hsz1 : W1.heap.size = w.heap.size + 1 := by rw [hW1]; show (w.heap.push _).size = _; simp
 have hb1 : Below w.heap.size w W1 := by rw [hW1]; exact (Below.refl _ w).alloc (Nat.le_refl _) _
 have hv1 : ∀ j u, ([.int .i64 v] : List Value)[j]? = some u -> W1.cell? ((⟨xb, xo, none⟩ : Addr).add j) = some u := by
  intro j u hj;have := hv j u hj;have e : (⟨xb, xo, none⟩ : Addr).add j = ⟨xb, xo + j, none⟩ := by unfold Addr.add; split <;> simp_all
  rw [e] at this ⊢;rw [hW1, World.cell?_alloc_past (w := w) _ xb (xo + j) hxb]; exact this
 clear hW1 hv
 obtain ⟨W2, hc2, h2, hsz2, hb2⟩ := bW (P := Try.prog) W1 39 39 3 w.heap.size 0 3 3 ⟨xb, xo, none⟩ 1 xc 1 1 _ 3 ([.int .i64 v] : List Value) Try.underlying39 hi rfl h1 rfl hv1 (by simp) (by simp [Value.oneCell'])
 have h2' : W2.drew.heap[w.heap.size]? = some (.cells ([.int .i64 v, .int .i64 0, .int .i64 0] : List Value).toArray 3 (0, 0)) := by show W2.heap[w.heap.size]? = _; simpa using h2
 obtain ⟨W3, hc3, h3, hsz3, hb3⟩ := bW (P := Try.prog) W2.drew 39 39 3 w.heap.size 1 2 2 ⟨w.heap.size, 0, none⟩ 1 3 1 1 _ 3 ([.int .i64 v] : List Value) Try.underlying39 hi rfl h2' rfl (row_cell h2' ⟨_, rfl⟩) (by simp) (by simp [Value.oneCell'])
 have h3' : W3.drew.heap[w.heap.size]? = some (.cells ([.int .i64 v, .int .i64 v, .int .i64 0] : List Value).toArray 3 (0, 0)) := by show W3.heap[w.heap.size]? = _; simpa using h3
 obtain ⟨W4, hc4, h4, hsz4, hb4⟩ := bW (P := Try.prog) W3.drew 39 39 3 w.heap.size 2 1 1 ⟨w.heap.size, 0, none⟩ 2 3 1 1 _ 3 ([.int .i64 v] : List Value) Try.underlying39 hi rfl h3' rfl (row_cell h3' ⟨_, rfl⟩) (by simp) (by simp [Value.oneCell'])
 have mixed : Try.prog.follows .mixedOrders = true := (okA fns_nil : Go.Lf.aJ Try.prog (mkC 0 [])).mixed
 go_enter Try.func45, Try.ntmps45
 go_wp2_with (first | (go_at_call 79; refine (mul_3 _).mono ?_; rintro e w' ⟨rfl, rfl⟩) | (at_builtin; refine wpList_copy_runI _ rfl _ _ 39 39 rfl _ _ rfl rfl (hc2 _) ?_))
 refine wp_loop_rounds 3 ?_
 rw [rounds_succ]
 go_wp2
 go_region_law_o (refine step_copy_runI rfl _ _ 39 39 rfl _ _ (by simp [Act.eval, Act.put]) (by simp [Act.eval, Act.put]) (hc3 _) ?_)
 go_wp2
 rw [rounds_succ]
 go_wp2
 go_region_law_o (refine step_copy_runI rfl _ _ 39 39 rfl _ _ (by simp [Act.eval, Act.put]) (by simp [Act.eval, Act.put]) (hc4 _) ?_)
 go_wp2
 rw [rounds_succ]
 go_wp2
 go_ret
 refine ⟨rfl, (Below.trans (Below.drew (Below.trans (Below.drew (hb1.trans hb2)) hb3)) hb4), ?_, ?_⟩
 ·simpa using h4
 ·have d : ∀ x : World, x.drew.heap.size = x.heap.size := fun _ => rfl
  simp only [d] at hsz3 hsz4;omega
set_option maxHeartbeats 8000000 in
set_option maxRecDepth 100000 in
theorem rep45_4 (w : World) (xb xo xc : Nat) (v : Int) (hv : ∀ j u, ([.int .i64 v] : List Value)[j]? = some u -> w.cell? ((⟨xb, xo, none⟩ : Addr).add j) = some u) (hxb : xb < w.heap.size) :
  Calls Try.prog 45 #[.slice (some ⟨xb, xo, none⟩) 1 xc, .int .i64 4] w fun e w' => e = .returned (.slice (some ⟨w.heap.size, 0, none⟩) 4 4) /\ Below w.heap.size w w' /\ w'.heap[w.heap.size]? = some (.cells ([.int .i64 v, .int .i64 v, .int .i64 v, .int .i64 v] : List Value).toArray 3 (0, 0)) /\ w'.heap.size = w.heap.size + 1 := by
 obtain ⟨i0, hi0, hz0, hs0, hb0⟩ : ∃ i0, Try.prog.info? 3 = some i0 /\ i0.zero = some (.int .i64 0) /\ i0.size = 1 /\ i0.bytes = 8 := ⟨_, rfl, rfl, rfl, rfl⟩
 have hi : (Try.prog.info? 3).map (·.size) = some 1 := by rw [hi0]; simp [hs0]
 have hmk := run_make (P := Try.prog) w 39 3 i0 (.int .i64 0) Try.underlying39 hi0 hz0 .i64 .i64 4 4 (by omega) (by omega) (by rw [hb0]; omega) (by omega)
 rw [hs0] at hmk
 obtain ⟨W1, hW1⟩ : ∃ W1, W1 = w.alloc (.cells (madeCells ((.int .i64 0) : Value).cells ((4 : Int).toNat * 1)) 3) := ⟨_, rfl⟩
 rw [<- hW1] at hmk
 have h1 : W1.heap[w.heap.size]? = some (.cells ([.int .i64 0, .int .i64 0, .int .i64 0, .int .i64 0] : List Value).toArray 3 (0, 0)) := by
  have e : madeCells ((.int .i64 0) : Value).cells ((4 : Int).toNat * 1) = ([.int .i64 0, .int .i64 0, .int .i64 0, .int .i64 0] : List Value).toArray := by kernel_rfl
  rw [hW1, e]; show (w.heap.push _)[w.heap.size]? = _; simp
 have hsz1 : W1.heap.size = w.heap.size + 1 := by rw [hW1]; show (w.heap.push _).size = _; simp
 have hb1 : Below w.heap.size w W1 := by rw [hW1]; exact (Below.refl _ w).alloc (Nat.le_refl _) _
 have hv1 : ∀ j u, ([.int .i64 v] : List Value)[j]? = some u -> W1.cell? ((⟨xb, xo, none⟩ : Addr).add j) = some u := by
  intro j u hj;have := hv j u hj;have e : (⟨xb, xo, none⟩ : Addr).add j = ⟨xb, xo + j, none⟩ := by unfold Addr.add; split <;> simp_all
  rw [e] at this ⊢;rw [hW1, World.cell?_alloc_past (w := w) _ xb (xo + j) hxb]; exact this
 clear hW1 hv
 obtain ⟨W2, hc2, h2, hsz2, hb2⟩ := bW (P := Try.prog) W1 39 39 3 w.heap.size 0 4 4 ⟨xb, xo, none⟩ 1 xc 1 1 _ 3 ([.int .i64 v] : List Value) Try.underlying39 hi rfl h1 rfl hv1 (by simp) (by simp [Value.oneCell'])
 have h2' : W2.drew.heap[w.heap.size]? = some (.cells ([.int .i64 v, .int .i64 0, .int .i64 0, .int .i64 0] : List Value).toArray 3 (0, 0)) := by show W2.heap[w.heap.size]? = _; simpa using h2
 obtain ⟨W3, hc3, h3, hsz3, hb3⟩ := bW (P := Try.prog) W2.drew 39 39 3 w.heap.size 1 3 3 ⟨w.heap.size, 0, none⟩ 1 4 1 1 _ 3 ([.int .i64 v] : List Value) Try.underlying39 hi rfl h2' rfl (row_cell h2' ⟨_, rfl⟩) (by simp) (by simp [Value.oneCell'])
 have h3' : W3.drew.heap[w.heap.size]? = some (.cells ([.int .i64 v, .int .i64 v, .int .i64 0, .int .i64 0] : List Value).toArray 3 (0, 0)) := by show W3.heap[w.heap.size]? = _; simpa using h3
 obtain ⟨W4, hc4, h4, hsz4, hb4⟩ := bW (P := Try.prog) W3.drew 39 39 3 w.heap.size 2 2 2 ⟨w.heap.size, 0, none⟩ 2 4 1 2 _ 3 ([.int .i64 v, .int .i64 v] : List Value) Try.underlying39 hi rfl h3' rfl (row_cell h3' ⟨_, rfl⟩) (by simp) (by simp [Value.oneCell'])
 have mixed : Try.prog.follows .mixedOrders = true := (okA fns_nil : Go.Lf.aJ Try.prog (mkC 0 [])).mixed
 go_enter Try.func45, Try.ntmps45
 go_wp2_with (first | (go_at_call 79; refine (mul_4 _).mono ?_; rintro e w' ⟨rfl, rfl⟩) | (at_builtin; refine wpList_copy_runI _ rfl _ _ 39 39 rfl _ _ rfl rfl (hc2 _) ?_))
 refine wp_loop_rounds 3 ?_
 rw [rounds_succ]
 go_wp2
 go_region_law_o (refine step_copy_runI rfl _ _ 39 39 rfl _ _ (by simp [Act.eval, Act.put]) (by simp [Act.eval, Act.put]) (hc3 _) ?_)
 go_wp2
 rw [rounds_succ]
 go_wp2
 go_region_law_o (refine step_copy_runI rfl _ _ 39 39 rfl _ _ (by simp [Act.eval, Act.put]) (by simp [Act.eval, Act.put]) (hc4 _) ?_)
 go_wp2
 rw [rounds_succ]
 go_wp2
 go_ret
 refine ⟨rfl, (Below.trans (Below.drew (Below.trans (Below.drew (hb1.trans hb2)) hb3)) hb4), ?_, ?_⟩
 ·simpa using h4
 ·have d : ∀ x : World, x.drew.heap.size = x.heap.size := fun _ => rfl
  simp only [d] at hsz3 hsz4;omega
set_option maxHeartbeats 8000000 in
set_option maxRecDepth 100000 in
theorem rep45_5 (w : World) (xb xo xc : Nat) (v : Int) (hv : ∀ j u, ([.int .i64 v] : List Value)[j]? = some u -> w.cell? ((⟨xb, xo, none⟩ : Addr).add j) = some u) (hxb : xb < w.heap.size) :
  Calls Try.prog 45 #[.slice (some ⟨xb, xo, none⟩) 1 xc, .int .i64 5] w fun e w' => e = .returned (.slice (some ⟨w.heap.size, 0, none⟩) 5 5) /\ Below w.heap.size w w' /\ w'.heap[w.heap.size]? = some (.cells ([.int .i64 v, .int .i64 v, .int .i64 v, .int .i64 v, .int .i64 v] : List Value).toArray 3 (0, 0)) /\ w'.heap.size = w.heap.size + 1 := by
 obtain ⟨i0, hi0, hz0, hs0, hb0⟩ : ∃ i0, Try.prog.info? 3 = some i0 /\ i0.zero = some (.int .i64 0) /\ i0.size = 1 /\ i0.bytes = 8 := ⟨_, rfl, rfl, rfl, rfl⟩
 have hi : (Try.prog.info? 3).map (·.size) = some 1 := by rw [hi0]; simp [hs0]
 have hmk := run_make (P := Try.prog) w 39 3 i0 (.int .i64 0) Try.underlying39 hi0 hz0 .i64 .i64 5 5 (by omega) (by omega) (by rw [hb0]; omega) (by omega)
 rw [hs0] at hmk
 obtain ⟨W1, hW1⟩ : ∃ W1, W1 = w.alloc (.cells (madeCells ((.int .i64 0) : Value).cells ((5 : Int).toNat * 1)) 3) := ⟨_, rfl⟩
 rw [<- hW1] at hmk
 have h1 : W1.heap[w.heap.size]? = some (.cells ([.int .i64 0, .int .i64 0, .int .i64 0, .int .i64 0, .int .i64 0] : List Value).toArray 3 (0, 0)) := by
  have e : madeCells ((.int .i64 0) : Value).cells ((5 : Int).toNat * 1) = ([.int .i64 0, .int .i64 0, .int .i64 0, .int .i64 0, .int .i64 0] : List Value).toArray := by kernel_rfl
  rw [hW1, e]; show (w.heap.push _)[w.heap.size]? = _; simp
 have hsz1 : W1.heap.size = w.heap.size + 1 := by rw [hW1]; show (w.heap.push _).size = _; simp
 have hb1 : Below w.heap.size w W1 := by rw [hW1]; exact (Below.refl _ w).alloc (Nat.le_refl _) _
 have hv1 : ∀ j u, ([.int .i64 v] : List Value)[j]? = some u -> W1.cell? ((⟨xb, xo, none⟩ : Addr).add j) = some u := by
  intro j u hj;have := hv j u hj;have e : (⟨xb, xo, none⟩ : Addr).add j = ⟨xb, xo + j, none⟩ := by unfold Addr.add; split <;> simp_all
  rw [e] at this ⊢;rw [hW1, World.cell?_alloc_past (w := w) _ xb (xo + j) hxb]; exact this
 clear hW1 hv
 obtain ⟨W2, hc2, h2, hsz2, hb2⟩ := bW (P := Try.prog) W1 39 39 3 w.heap.size 0 5 5 ⟨xb, xo, none⟩ 1 xc 1 1 _ 3 ([.int .i64 v] : List Value) Try.underlying39 hi rfl h1 rfl hv1 (by simp) (by simp [Value.oneCell'])
 have h2' : W2.drew.heap[w.heap.size]? = some (.cells ([.int .i64 v, .int .i64 0, .int .i64 0, .int .i64 0, .int .i64 0] : List Value).toArray 3 (0, 0)) := by show W2.heap[w.heap.size]? = _; simpa using h2
 obtain ⟨W3, hc3, h3, hsz3, hb3⟩ := bW (P := Try.prog) W2.drew 39 39 3 w.heap.size 1 4 4 ⟨w.heap.size, 0, none⟩ 1 5 1 1 _ 3 ([.int .i64 v] : List Value) Try.underlying39 hi rfl h2' rfl (row_cell h2' ⟨_, rfl⟩) (by simp) (by simp [Value.oneCell'])
 have h3' : W3.drew.heap[w.heap.size]? = some (.cells ([.int .i64 v, .int .i64 v, .int .i64 0, .int .i64 0, .int .i64 0] : List Value).toArray 3 (0, 0)) := by show W3.heap[w.heap.size]? = _; simpa using h3
 obtain ⟨W4, hc4, h4, hsz4, hb4⟩ := bW (P := Try.prog) W3.drew 39 39 3 w.heap.size 2 3 3 ⟨w.heap.size, 0, none⟩ 2 5 1 2 _ 3 ([.int .i64 v, .int .i64 v] : List Value) Try.underlying39 hi rfl h3' rfl (row_cell h3' ⟨_, rfl⟩) (by simp) (by simp [Value.oneCell'])
 have h4' : W4.drew.heap[w.heap.size]? = some (.cells ([.int .i64 v, .int .i64 v, .int .i64 v, .int .i64 v, .int .i64 0] : List Value).toArray 3 (0, 0)) := by show W4.heap[w.heap.size]? = _; simpa using h4
 obtain ⟨W5, hc5, h5, hsz5, hb5⟩ := bW (P := Try.prog) W4.drew 39 39 3 w.heap.size 4 1 1 ⟨w.heap.size, 0, none⟩ 4 5 1 1 _ 3 ([.int .i64 v] : List Value) Try.underlying39 hi rfl h4' rfl (row_cell h4' ⟨_, rfl⟩) (by simp) (by simp [Value.oneCell'])
 have mixed : Try.prog.follows .mixedOrders = true := (okA fns_nil : Go.Lf.aJ Try.prog (mkC 0 [])).mixed
 go_enter Try.func45, Try.ntmps45
 go_wp2_with (first | (go_at_call 79; refine (mul_5 _).mono ?_; rintro e w' ⟨rfl, rfl⟩) | (at_builtin; refine wpList_copy_runI _ rfl _ _ 39 39 rfl _ _ rfl rfl (hc2 _) ?_))
 refine wp_loop_rounds 4 ?_
 rw [rounds_succ]
 go_wp2
 go_region_law_o (refine step_copy_runI rfl _ _ 39 39 rfl _ _ (by simp [Act.eval, Act.put]) (by simp [Act.eval, Act.put]) (hc3 _) ?_)
 go_wp2
 rw [rounds_succ]
 go_wp2
 go_region_law_o (refine step_copy_runI rfl _ _ 39 39 rfl _ _ (by simp [Act.eval, Act.put]) (by simp [Act.eval, Act.put]) (hc4 _) ?_)
 go_wp2
 rw [rounds_succ]
 go_wp2
 go_region_law_o (refine step_copy_runI rfl _ _ 39 39 rfl _ _ (by simp [Act.eval, Act.put]) (by simp [Act.eval, Act.put]) (hc5 _) ?_)
 go_wp2
 rw [rounds_succ]
 go_wp2
 go_ret
 refine ⟨rfl, (Below.trans (Below.drew (Below.trans (Below.drew (Below.trans (Below.drew (hb1.trans hb2)) hb3)) hb4)) hb5), ?_, ?_⟩
 ·simpa using h5
 ·have d : ∀ x : World, x.drew.heap.size = x.heap.size := fun _ => rfl
  simp only [d] at hsz3 hsz4 hsz5;omega
set_option maxHeartbeats 8000000 in
set_option maxRecDepth 100000 in
theorem rep45_6 (w : World) (xb xo xc : Nat) (v : Int) (hv : ∀ j u, ([.int .i64 v] : List Value)[j]? = some u -> w.cell? ((⟨xb, xo, none⟩ : Addr).add j) = some u) (hxb : xb < w.heap.size) :
  Calls Try.prog 45 #[.slice (some ⟨xb, xo, none⟩) 1 xc, .int .i64 6] w fun e w' => e = .returned (.slice (some ⟨w.heap.size, 0, none⟩) 6 6) /\ Below w.heap.size w w' /\ w'.heap[w.heap.size]? = some (.cells ([.int .i64 v, .int .i64 v, .int .i64 v, .int .i64 v, .int .i64 v, .int .i64 v] : List Value).toArray 3 (0, 0)) /\ w'.heap.size = w.heap.size + 1 := by
 obtain ⟨i0, hi0, hz0, hs0, hb0⟩ : ∃ i0, Try.prog.info? 3 = some i0 /\ i0.zero = some (.int .i64 0) /\ i0.size = 1 /\ i0.bytes = 8 := ⟨_, rfl, rfl, rfl, rfl⟩
 have hi : (Try.prog.info? 3).map (·.size) = some 1 := by rw [hi0]; simp [hs0]
 have hmk := run_make (P := Try.prog) w 39 3 i0 (.int .i64 0) Try.underlying39 hi0 hz0 .i64 .i64 6 6 (by omega) (by omega) (by rw [hb0]; omega) (by omega)
 rw [hs0] at hmk
 obtain ⟨W1, hW1⟩ : ∃ W1, W1 = w.alloc (.cells (madeCells ((.int .i64 0) : Value).cells ((6 : Int).toNat * 1)) 3) := ⟨_, rfl⟩
 rw [<- hW1] at hmk
 have h1 : W1.heap[w.heap.size]? = some (.cells ([.int .i64 0, .int .i64 0, .int .i64 0, .int .i64 0, .int .i64 0, .int .i64 0] : List Value).toArray 3 (0, 0)) := by
  have e : madeCells ((.int .i64 0) : Value).cells ((6 : Int).toNat * 1) = ([.int .i64 0, .int .i64 0, .int .i64 0, .int .i64 0, .int .i64 0, .int .i64 0] : List Value).toArray := by kernel_rfl
  rw [hW1, e]; show (w.heap.push _)[w.heap.size]? = _; simp
 have hsz1 : W1.heap.size = w.heap.size + 1 := by rw [hW1]; show (w.heap.push _).size = _; simp
 have hb1 : Below w.heap.size w W1 := by rw [hW1]; exact (Below.refl _ w).alloc (Nat.le_refl _) _
 have hv1 : ∀ j u, ([.int .i64 v] : List Value)[j]? = some u -> W1.cell? ((⟨xb, xo, none⟩ : Addr).add j) = some u := by
  intro j u hj;have := hv j u hj;have e : (⟨xb, xo, none⟩ : Addr).add j = ⟨xb, xo + j, none⟩ := by unfold Addr.add; split <;> simp_all
  rw [e] at this ⊢;rw [hW1, World.cell?_alloc_past (w := w) _ xb (xo + j) hxb]; exact this
 clear hW1 hv
 obtain ⟨W2, hc2, h2, hsz2, hb2⟩ := bW (P := Try.prog) W1 39 39 3 w.heap.size 0 6 6 ⟨xb, xo, none⟩ 1 xc 1 1 _ 3 ([.int .i64 v] : List Value) Try.underlying39 hi rfl h1 rfl hv1 (by simp) (by simp [Value.oneCell'])
 have h2' : W2.drew.heap[w.heap.size]? = some (.cells ([.int .i64 v, .int .i64 0, .int .i64 0, .int .i64 0, .int .i64 0, .int .i64 0] : List Value).toArray 3 (0, 0)) := by show W2.heap[w.heap.size]? = _; simpa using h2
 obtain ⟨W3, hc3, h3, hsz3, hb3⟩ := bW (P := Try.prog) W2.drew 39 39 3 w.heap.size 1 5 5 ⟨w.heap.size, 0, none⟩ 1 6 1 1 _ 3 ([.int .i64 v] : List Value) Try.underlying39 hi rfl h2' rfl (row_cell h2' ⟨_, rfl⟩) (by simp) (by simp [Value.oneCell'])
 have h3' : W3.drew.heap[w.heap.size]? = some (.cells ([.int .i64 v, .int .i64 v, .int .i64 0, .int .i64 0, .int .i64 0, .int .i64 0] : List Value).toArray 3 (0, 0)) := by show W3.heap[w.heap.size]? = _; simpa using h3
 obtain ⟨W4, hc4, h4, hsz4, hb4⟩ := bW (P := Try.prog) W3.drew 39 39 3 w.heap.size 2 4 4 ⟨w.heap.size, 0, none⟩ 2 6 1 2 _ 3 ([.int .i64 v, .int .i64 v] : List Value) Try.underlying39 hi rfl h3' rfl (row_cell h3' ⟨_, rfl⟩) (by simp) (by simp [Value.oneCell'])
 have h4' : W4.drew.heap[w.heap.size]? = some (.cells ([.int .i64 v, .int .i64 v, .int .i64 v, .int .i64 v, .int .i64 0, .int .i64 0] : List Value).toArray 3 (0, 0)) := by show W4.heap[w.heap.size]? = _; simpa using h4
 obtain ⟨W5, hc5, h5, hsz5, hb5⟩ := bW (P := Try.prog) W4.drew 39 39 3 w.heap.size 4 2 2 ⟨w.heap.size, 0, none⟩ 4 6 1 2 _ 3 ([.int .i64 v, .int .i64 v] : List Value) Try.underlying39 hi rfl h4' rfl (row_cell h4' ⟨_, rfl⟩) (by simp) (by simp [Value.oneCell'])
 have mixed : Try.prog.follows .mixedOrders = true := (okA fns_nil : Go.Lf.aJ Try.prog (mkC 0 [])).mixed
 go_enter Try.func45, Try.ntmps45
 go_wp2_with (first | (go_at_call 79; refine (mul_6 _).mono ?_; rintro e w' ⟨rfl, rfl⟩) | (at_builtin; refine wpList_copy_runI _ rfl _ _ 39 39 rfl _ _ rfl rfl (hc2 _) ?_))
 refine wp_loop_rounds 4 ?_
 rw [rounds_succ]
 go_wp2
 go_region_law_o (refine step_copy_runI rfl _ _ 39 39 rfl _ _ (by simp [Act.eval, Act.put]) (by simp [Act.eval, Act.put]) (hc3 _) ?_)
 go_wp2
 rw [rounds_succ]
 go_wp2
 go_region_law_o (refine step_copy_runI rfl _ _ 39 39 rfl _ _ (by simp [Act.eval, Act.put]) (by simp [Act.eval, Act.put]) (hc4 _) ?_)
 go_wp2
 rw [rounds_succ]
 go_wp2
 go_region_law_o (refine step_copy_runI rfl _ _ 39 39 rfl _ _ (by simp [Act.eval, Act.put]) (by simp [Act.eval, Act.put]) (hc5 _) ?_)
 go_wp2
 rw [rounds_succ]
 go_wp2
 go_ret
 refine ⟨rfl, (Below.trans (Below.drew (Below.trans (Below.drew (Below.trans (Below.drew (hb1.trans hb2)) hb3)) hb4)) hb5), ?_, ?_⟩
 ·simpa using h5
 ·have d : ∀ x : World, x.drew.heap.size = x.heap.size := fun _ => rfl
  simp only [d] at hsz3 hsz4 hsz5;omega
set_option maxHeartbeats 8000000 in
set_option maxRecDepth 100000 in
theorem rep44_1 (w : World) (xb xo xc : Nat) (v v1 v2 : Int) (hv : ∀ j u, ([.int .i64 v, .int .i64 v1, .int .i64 v2] : List Value)[j]? = some u -> w.cell? ((⟨xb, xo, none⟩ : Addr).add j) = some u) (hxb : xb < w.heap.size) :
  Calls Try.prog 44 #[.slice (some ⟨xb, xo, none⟩) 1 xc, .int .i64 1] w fun e w' => e = .returned (.slice (some ⟨w.heap.size, 0, none⟩) 1 1) /\ Below w.heap.size w w' /\ w'.heap[w.heap.size]? = some (.cells ([.int .i64 v, .int .i64 v1, .int .i64 v2] : List Value).toArray 40 (0, 0)) /\ w'.heap.size = w.heap.size + 1 := by
 obtain ⟨i0, hi0, hz0, hs0, hb0⟩ : ∃ i0, Try.prog.info? 40 = some i0 /\ i0.zero = some (.agg #[.int .i64 0, .int .i64 0, .int .i64 0]) /\ i0.size = 3 /\ i0.bytes = 24 := ⟨_, rfl, rfl, rfl, rfl⟩
 have hi : (Try.prog.info? 40).map (·.size) = some 3 := by rw [hi0]; simp [hs0]
 have hmk := run_make (P := Try.prog) w 50 40 i0 (.agg #[.int .i64 0, .int .i64 0, .int .i64 0]) Try.underlying50 hi0 hz0 .i64 .i64 1 1 (by omega) (by omega) (by rw [hb0]; omega) (by omega)
 rw [hs0] at hmk
 obtain ⟨W1, hW1⟩ : ∃ W1, W1 = w.alloc (.cells (madeCells ((.agg #[.int .i64 0, .int .i64 0, .int .i64 0]) : Value).cells ((1 : Int).toNat * 3)) 40) := ⟨_, rfl⟩
 rw [<- hW1] at hmk
 have h1 : W1.heap[w.heap.size]? = some (.cells ([.int .i64 0, .int .i64 0, .int .i64 0] : List Value).toArray 40 (0, 0)) := by
  have e : madeCells ((.agg #[.int .i64 0, .int .i64 0, .int .i64 0]) : Value).cells ((1 : Int).toNat * 3) = ([.int .i64 0, .int .i64 0, .int .i64 0] : List Value).toArray := by kernel_rfl
  rw [hW1, e]; show (w.heap.push _)[w.heap.size]? = _; simp
 have hsz1 : W1.heap.size = w.heap.size + 1 := by rw [hW1]; show (w.heap.push _).size = _; simp
 have hb1 : Below w.heap.size w W1 := by rw [hW1]; exact (Below.refl _ w).alloc (Nat.le_refl _) _
 have hv1 : ∀ j u, ([.int .i64 v, .int .i64 v1, .int .i64 v2] : List Value)[j]? = some u -> W1.cell? ((⟨xb, xo, none⟩ : Addr).add j) = some u := by
  intro j u hj;have := hv j u hj;have e : (⟨xb, xo, none⟩ : Addr).add j = ⟨xb, xo + j, none⟩ := by unfold Addr.add; split <;> simp_all
  rw [e] at this ⊢;rw [hW1, World.cell?_alloc_past (w := w) _ xb (xo + j) hxb]; exact this
 clear hW1 hv
 obtain ⟨W2, hc2, h2, hsz2, hb2⟩ := bW (P := Try.prog) W1 50 50 40 w.heap.size 0 1 1 ⟨xb, xo, none⟩ 1 xc 3 1 _ 40 ([.int .i64 v, .int .i64 v1, .int .i64 v2] : List Value) Try.underlying50 hi rfl h1 rfl hv1 (by simp) (by simp [Value.oneCell'])
 have mixed : Try.prog.follows .mixedOrders = true := (okA fns_nil : Go.Lf.aJ Try.prog (mkC 0 [])).mixed
 go_enter Try.func44, Try.ntmps44
 go_wp2_with (first | (go_at_call 79; refine (mul_1 _).mono ?_; rintro e w' ⟨rfl, rfl⟩) | (at_builtin; refine wpList_copy_runI _ rfl _ _ 50 50 rfl _ _ rfl rfl (hc2 _) ?_))
 refine wp_loop_rounds 1 ?_
 rw [rounds_succ]
 go_wp2
 go_ret
 refine ⟨rfl, (hb1.trans hb2), ?_, ?_⟩
 ·simpa using h2
 ·have d : ∀ x : World, x.drew.heap.size = x.heap.size := fun _ => rfl
  skip
  omega
set_option maxHeartbeats 8000000 in
set_option maxRecDepth 100000 in
theorem rep44_2 (w : World) (xb xo xc : Nat) (v v1 v2 : Int) (hv : ∀ j u, ([.int .i64 v, .int .i64 v1, .int .i64 v2] : List Value)[j]? = some u -> w.cell? ((⟨xb, xo, none⟩ : Addr).add j) = some u) (hxb : xb < w.heap.size) :
  Calls Try.prog 44 #[.slice (some ⟨xb, xo, none⟩) 1 xc, .int .i64 2] w fun e w' => e = .returned (.slice (some ⟨w.heap.size, 0, none⟩) 2 2) /\ Below w.heap.size w w' /\ w'.heap[w.heap.size]? = some (.cells ([.int .i64 v, .int .i64 v1, .int .i64 v2, .int .i64 v, .int .i64 v1, .int .i64 v2] : List Value).toArray 40 (0, 0)) /\ w'.heap.size = w.heap.size + 1 := by
 obtain ⟨i0, hi0, hz0, hs0, hb0⟩ : ∃ i0, Try.prog.info? 40 = some i0 /\ i0.zero = some (.agg #[.int .i64 0, .int .i64 0, .int .i64 0]) /\ i0.size = 3 /\ i0.bytes = 24 := ⟨_, rfl, rfl, rfl, rfl⟩
 have hi : (Try.prog.info? 40).map (·.size) = some 3 := by rw [hi0]; simp [hs0]
 have hmk := run_make (P := Try.prog) w 50 40 i0 (.agg #[.int .i64 0, .int .i64 0, .int .i64 0]) Try.underlying50 hi0 hz0 .i64 .i64 2 2 (by omega) (by omega) (by rw [hb0]; omega) (by omega)
 rw [hs0] at hmk
 obtain ⟨W1, hW1⟩ : ∃ W1, W1 = w.alloc (.cells (madeCells ((.agg #[.int .i64 0, .int .i64 0, .int .i64 0]) : Value).cells ((2 : Int).toNat * 3)) 40) := ⟨_, rfl⟩
 rw [<- hW1] at hmk
 have h1 : W1.heap[w.heap.size]? = some (.cells ([.int .i64 0, .int .i64 0, .int .i64 0, .int .i64 0, .int .i64 0, .int .i64 0] : List Value).toArray 40 (0, 0)) := by
  have e : madeCells ((.agg #[.int .i64 0, .int .i64 0, .int .i64 0]) : Value).cells ((2 : Int).toNat * 3) = ([.int .i64 0, .int .i64 0, .int .i64 0, .int .i64 0, .int .i64 0, .int .i64 0] : List Value).toArray := by kernel_rfl
  rw [hW1, e]; show (w.heap.push _)[w.heap.size]? = _; simp
 have hsz1 : W1.heap.size = w.heap.size + 1 := by rw [hW1]; show (w.heap.push _).size = _; simp
 have hb1 : Below w.heap.size w W1 := by rw [hW1]; exact (Below.refl _ w).alloc (Nat.le_refl _) _
 have hv1 : ∀ j u, ([.int .i64 v, .int .i64 v1, .int .i64 v2] : List Value)[j]? = some u -> W1.cell? ((⟨xb, xo, none⟩ : Addr).add j) = some u := by
  intro j u hj;have := hv j u hj;have e : (⟨xb, xo, none⟩ : Addr).add j = ⟨xb, xo + j, none⟩ := by unfold Addr.add; split <;> simp_all
  rw [e] at this ⊢;rw [hW1, World.cell?_alloc_past (w := w) _ xb (xo + j) hxb]; exact this
 clear hW1 hv
 obtain ⟨W2, hc2, h2, hsz2, hb2⟩ := bW (P := Try.prog) W1 50 50 40 w.heap.size 0 2 2 ⟨xb, xo, none⟩ 1 xc 3 1 _ 40 ([.int .i64 v, .int .i64 v1, .int .i64 v2] : List Value) Try.underlying50 hi rfl h1 rfl hv1 (by simp) (by simp [Value.oneCell'])
 have h2' : W2.drew.heap[w.heap.size]? = some (.cells ([.int .i64 v, .int .i64 v1, .int .i64 v2, .int .i64 0, .int .i64 0, .int .i64 0] : List Value).toArray 40 (0, 0)) := by show W2.heap[w.heap.size]? = _; simpa using h2
 obtain ⟨W3, hc3, h3, hsz3, hb3⟩ := bW (P := Try.prog) W2.drew 50 50 40 w.heap.size 3 1 1 ⟨w.heap.size, 0, none⟩ 1 2 3 1 _ 40 ([.int .i64 v, .int .i64 v1, .int .i64 v2] : List Value) Try.underlying50 hi rfl h2' rfl (row_cell h2' ⟨_, rfl⟩) (by simp) (by simp [Value.oneCell'])
 have mixed : Try.prog.follows .mixedOrders = true := (okA fns_nil : Go.Lf.aJ Try.prog (mkC 0 [])).mixed
 go_enter Try.func44, Try.ntmps44
 go_wp2_with (first | (go_at_call 79; refine (mul_2 _).mono ?_; rintro e w' ⟨rfl, rfl⟩) | (at_builtin; refine wpList_copy_runI _ rfl _ _ 50 50 rfl _ _ rfl rfl (hc2 _) ?_))
 refine wp_loop_rounds 2 ?_
 rw [rounds_succ]
 go_wp2
 go_region_law_o (refine step_copy_runI rfl _ _ 50 50 rfl _ _ (by simp [Act.eval, Act.put]) (by simp [Act.eval, Act.put]) (hc3 _) ?_)
 go_wp2
 rw [rounds_succ]
 go_wp2
 go_ret
 refine ⟨rfl, (Below.trans (Below.drew (hb1.trans hb2)) hb3), ?_, ?_⟩
 ·simpa using h3
 ·have d : ∀ x : World, x.drew.heap.size = x.heap.size := fun _ => rfl
  simp only [d] at hsz3;omega
set_option maxHeartbeats 8000000 in
set_option maxRecDepth 100000 in
theorem rep44_3 (w : World) (xb xo xc : Nat) (v v1 v2 : Int) (hv : ∀ j u, ([.int .i64 v, .int .i64 v1, .int .i64 v2] : List Value)[j]? = some u -> w.cell? ((⟨xb, xo, none⟩ : Addr).add j) = some u) (hxb : xb < w.heap.size) :
  Calls Try.prog 44 #[.slice (some ⟨xb, xo, none⟩) 1 xc, .int .i64 3] w fun e w' => e = .returned (.slice (some ⟨w.heap.size, 0, none⟩) 3 3) /\ Below w.heap.size w w' /\ w'.heap[w.heap.size]? = some (.cells ([.int .i64 v, .int .i64 v1, .int .i64 v2, .int .i64 v, .int .i64 v1, .int .i64 v2, .int .i64 v, .int .i64 v1, .int .i64 v2] : List Value).toArray 40 (0, 0)) /\ w'.heap.size = w.heap.size + 1 := by
 obtain ⟨i0, hi0, hz0, hs0, hb0⟩ : ∃ i0, Try.prog.info? 40 = some i0 /\ i0.zero = some (.agg #[.int .i64 0, .int .i64 0, .int .i64 0]) /\ i0.size = 3 /\ i0.bytes = 24 := ⟨_, rfl, rfl, rfl, rfl⟩
 have hi : (Try.prog.info? 40).map (·.size) = some 3 := by rw [hi0]; simp [hs0]
 have hmk := run_make (P := Try.prog) w 50 40 i0 (.agg #[.int .i64 0, .int .i64 0, .int .i64 0]) Try.underlying50 hi0 hz0 .i64 .i64 3 3 (by omega) (by omega) (by rw [hb0]; omega) (by omega)
 rw [hs0] at hmk
 obtain ⟨W1, hW1⟩ : ∃ W1, W1 = w.alloc (.cells (madeCells ((.agg #[.int .i64 0, .int .i64 0, .int .i64 0]) : Value).cells ((3 : Int).toNat * 3)) 40) := ⟨_, rfl⟩
 rw [<- hW1] at hmk
 have h1 : W1.heap[w.heap.size]? = some (.cells ([.int .i64 0, .int .i64 0, .int .i64 0, .int .i64 0, .int .i64 0, .int .i64 0, .int .i64 0, .int .i64 0, .int .i64 0] : List Value).toArray 40 (0, 0)) := by
  have e : madeCells ((.agg #[.int .i64 0, .int .i64 0, .int .i64 0]) : Value).cells ((3 : Int).toNat * 3) = ([.int .i64 0, .int .i64 0, .int .i64 0, .int .i64 0, .int .i64 0, .int .i64 0, .int .i64 0, .int .i64 0, .int .i64 0] : List Value).toArray := by kernel_rfl
  rw [hW1, e]; show (w.heap.push _)[w.heap.size]? = _; simp
 have hsz1 : W1.heap.size = w.heap.size + 1 := by rw [hW1]; show (w.heap.push _).size = _; simp
 have hb1 : Below w.heap.size w W1 := by rw [hW1]; exact (Below.refl _ w).alloc (Nat.le_refl _) _
 have hv1 : ∀ j u, ([.int .i64 v, .int .i64 v1, .int .i64 v2] : List Value)[j]? = some u -> W1.cell? ((⟨xb, xo, none⟩ : Addr).add j) = some u := by
  intro j u hj;have := hv j u hj;have e : (⟨xb, xo, none⟩ : Addr).add j = ⟨xb, xo + j, none⟩ := by unfold Addr.add; split <;> simp_all
  rw [e] at this ⊢;rw [hW1, World.cell?_alloc_past (w := w) _ xb (xo + j) hxb]; exact this
 clear hW1 hv
 obtain ⟨W2, hc2, h2, hsz2, hb2⟩ := bW (P := Try.prog) W1 50 50 40 w.heap.size 0 3 3 ⟨xb, xo, none⟩ 1 xc 3 1 _ 40 ([.int .i64 v, .int .i64 v1, .int .i64 v2] : List Value) Try.underlying50 hi rfl h1 rfl hv1 (by simp) (by simp [Value.oneCell'])
 have h2' : W2.drew.heap[w.heap.size]? = some (.cells ([.int .i64 v, .int .i64 v1, .int .i64 v2, .int .i64 0, .int .i64 0, .int .i64 0, .int .i64 0, .int .i64 0, .int .i64 0] : List Value).toArray 40 (0, 0)) := by show W2.heap[w.heap.size]? = _; simpa using h2
 obtain ⟨W3, hc3, h3, hsz3, hb3⟩ := bW (P := Try.prog) W2.drew 50 50 40 w.heap.size 3 2 2 ⟨w.heap.size, 0, none⟩ 1 3 3 1 _ 40 ([.int .i64 v, .int .i64 v1, .int .i64 v2] : List Value) Try.underlying50 hi rfl h2' rfl (row_cell h2' ⟨_, rfl⟩) (by simp) (by simp [Value.oneCell'])
 have h3' : W3.drew.heap[w.heap.size]? = some (.cells ([.int .i64 v, .int .i64 v1, .int .i64 v2, .int .i64 v, .int .i64 v1, .int .i64 v2, .int .i64 0, .int .i64 0, .int .i64 0] : List Value).toArray 40 (0, 0)) := by show W3.heap[w.heap.size]? = _; simpa using h3
 obtain ⟨W4, hc4, h4, hsz4, hb4⟩ := bW (P := Try.prog) W3.drew 50 50 40 w.heap.size 6 1 1 ⟨w.heap.size, 0, none⟩ 2 3 3 1 _ 40 ([.int .i64 v, .int .i64 v1, .int .i64 v2] : List Value) Try.underlying50 hi rfl h3' rfl (row_cell h3' ⟨_, rfl⟩) (by simp) (by simp [Value.oneCell'])
 have mixed : Try.prog.follows .mixedOrders = true := (okA fns_nil : Go.Lf.aJ Try.prog (mkC 0 [])).mixed
 go_enter Try.func44, Try.ntmps44
 go_wp2_with (first | (go_at_call 79; refine (mul_3 _).mono ?_; rintro e w' ⟨rfl, rfl⟩) | (at_builtin; refine wpList_copy_runI _ rfl _ _ 50 50 rfl _ _ rfl rfl (hc2 _) ?_))
 refine wp_loop_rounds 3 ?_
 rw [rounds_succ]
 go_wp2
 go_region_law_o (refine step_copy_runI rfl _ _ 50 50 rfl _ _ (by simp [Act.eval, Act.put]) (by simp [Act.eval, Act.put]) (hc3 _) ?_)
 go_wp2
 rw [rounds_succ]
 go_wp2
 go_region_law_o (refine step_copy_runI rfl _ _ 50 50 rfl _ _ (by simp [Act.eval, Act.put]) (by simp [Act.eval, Act.put]) (hc4 _) ?_)
 go_wp2
 rw [rounds_succ]
 go_wp2
 go_ret
 refine ⟨rfl, (Below.trans (Below.drew (Below.trans (Below.drew (hb1.trans hb2)) hb3)) hb4), ?_, ?_⟩
 ·simpa using h4
 ·have d : ∀ x : World, x.drew.heap.size = x.heap.size := fun _ => rfl
  simp only [d] at hsz3 hsz4;omega
set_option maxHeartbeats 8000000 in
set_option maxRecDepth 100000 in
theorem rep44_4 (w : World) (xb xo xc : Nat) (v v1 v2 : Int) (hv : ∀ j u, ([.int .i64 v, .int .i64 v1, .int .i64 v2] : List Value)[j]? = some u -> w.cell? ((⟨xb, xo, none⟩ : Addr).add j) = some u) (hxb : xb < w.heap.size) :
  Calls Try.prog 44 #[.slice (some ⟨xb, xo, none⟩) 1 xc, .int .i64 4] w fun e w' => e = .returned (.slice (some ⟨w.heap.size, 0, none⟩) 4 4) /\ Below w.heap.size w w' /\ w'.heap[w.heap.size]? = some (.cells ([.int .i64 v, .int .i64 v1, .int .i64 v2, .int .i64 v, .int .i64 v1, .int .i64 v2, .int .i64 v, .int .i64 v1, .int .i64 v2, .int .i64 v, .int .i64 v1, .int .i64 v2] : List Value).toArray 40 (0, 0)) /\ w'.heap.size = w.heap.size + 1 := by
 obtain ⟨i0, hi0, hz0, hs0, hb0⟩ : ∃ i0, Try.prog.info? 40 = some i0 /\ i0.zero = some (.agg #[.int .i64 0, .int .i64 0, .int .i64 0]) /\ i0.size = 3 /\ i0.bytes = 24 := ⟨_, rfl, rfl, rfl, rfl⟩
 have hi : (Try.prog.info? 40).map (·.size) = some 3 := by rw [hi0]; simp [hs0]
 have hmk := run_make (P := Try.prog) w 50 40 i0 (.agg #[.int .i64 0, .int .i64 0, .int .i64 0]) Try.underlying50 hi0 hz0 .i64 .i64 4 4 (by omega) (by omega) (by rw [hb0]; omega) (by omega)
 rw [hs0] at hmk
 obtain ⟨W1, hW1⟩ : ∃ W1, W1 = w.alloc (.cells (madeCells ((.agg #[.int .i64 0, .int .i64 0, .int .i64 0]) : Value).cells ((4 : Int).toNat * 3)) 40) := ⟨_, rfl⟩
 rw [<- hW1] at hmk
 have h1 : W1.heap[w.heap.size]? = some (.cells ([.int .i64 0, .int .i64 0, .int .i64 0, .int .i64 0, .int .i64 0, .int .i64 0, .int .i64 0, .int .i64 0, .int .i64 0, .int .i64 0, .int .i64 0, .int .i64 0] : List Value).toArray 40 (0, 0)) := by
  have e : madeCells ((.agg #[.int .i64 0, .int .i64 0, .int .i64 0]) : Value).cells ((4 : Int).toNat * 3) = ([.int .i64 0, .int .i64 0, .int .i64 0, .int .i64 0, .int .i64 0, .int .i64 0, .int .i64 0, .int .i64 0, .int .i64 0, .int .i64 0, .int .i64 0, .int .i64 0] : List Value).toArray := by kernel_rfl
  rw [hW1, e]; show (w.heap.push _)[w.heap.size]? = _; simp
 have hsz1 : W1.heap.size = w.heap.size + 1 := by rw [hW1]; show (w.heap.push _).size = _; simp
 have hb1 : Below w.heap.size w W1 := by rw [hW1]; exact (Below.refl _ w).alloc (Nat.le_refl _) _
 have hv1 : ∀ j u, ([.int .i64 v, .int .i64 v1, .int .i64 v2] : List Value)[j]? = some u -> W1.cell? ((⟨xb, xo, none⟩ : Addr).add j) = some u := by
  intro j u hj;have := hv j u hj;have e : (⟨xb, xo, none⟩ : Addr).add j = ⟨xb, xo + j, none⟩ := by unfold Addr.add; split <;> simp_all
  rw [e] at this ⊢;rw [hW1, World.cell?_alloc_past (w := w) _ xb (xo + j) hxb]; exact this
 clear hW1 hv
 obtain ⟨W2, hc2, h2, hsz2, hb2⟩ := bW (P := Try.prog) W1 50 50 40 w.heap.size 0 4 4 ⟨xb, xo, none⟩ 1 xc 3 1 _ 40 ([.int .i64 v, .int .i64 v1, .int .i64 v2] : List Value) Try.underlying50 hi rfl h1 rfl hv1 (by simp) (by simp [Value.oneCell'])
 have h2' : W2.drew.heap[w.heap.size]? = some (.cells ([.int .i64 v, .int .i64 v1, .int .i64 v2, .int .i64 0, .int .i64 0, .int .i64 0, .int .i64 0, .int .i64 0, .int .i64 0, .int .i64 0, .int .i64 0, .int .i64 0] : List Value).toArray 40 (0, 0)) := by show W2.heap[w.heap.size]? = _; simpa using h2
 obtain ⟨W3, hc3, h3, hsz3, hb3⟩ := bW (P := Try.prog) W2.drew 50 50 40 w.heap.size 3 3 3 ⟨w.heap.size, 0, none⟩ 1 4 3 1 _ 40 ([.int .i64 v, .int .i64 v1, .int .i64 v2] : List Value) Try.underlying50 hi rfl h2' rfl (row_cell h2' ⟨_, rfl⟩) (by simp) (by simp [Value.oneCell'])
 have h3' : W3.drew.heap[w.heap.size]? = some (.cells ([.int .i64 v, .int .i64 v1, .int .i64 v2, .int .i64 v, .int .i64 v1, .int .i64 v2, .int .i64 0, .int .i64 0, .int .i64 0, .int .i64 0, .int .i64 0, .int .i64 0] : List Value).toArray 40 (0, 0)) := by show W3.heap[w.heap.size]? = _; simpa using h3
 obtain ⟨W4, hc4, h4, hsz4, hb4⟩ := bW (P := Try.prog) W3.drew 50 50 40 w.heap.size 6 2 2 ⟨w.heap.size, 0, none⟩ 2 4 3 2 _ 40 ([.int .i64 v, .int .i64 v1, .int .i64 v2, .int .i64 v, .int .i64 v1, .int .i64 v2] : List Value) Try.underlying50 hi rfl h3' rfl (row_cell h3' ⟨_, rfl⟩) (by simp) (by simp [Value.oneCell'])
 have mixed : Try.prog.follows .mixedOrders = true := (okA fns_nil : Go.Lf.aJ Try.prog (mkC 0 [])).mixed
 go_enter Try.func44, Try.ntmps44
 go_wp2_with (first | (go_at_call 79; refine (mul_4 _).mono ?_; rintro e w' ⟨rfl, rfl⟩) | (at_builtin; refine wpList_copy_runI _ rfl _ _ 50 50 rfl _ _ rfl rfl (hc2 _) ?_))
 refine wp_loop_rounds 3 ?_
 rw [rounds_succ]
 go_wp2
 go_region_law_o (refine step_copy_runI rfl _ _ 50 50 rfl _ _ (by simp [Act.eval, Act.put]) (by simp [Act.eval, Act.put]) (hc3 _) ?_)
 go_wp2
 rw [rounds_succ]
 go_wp2
 go_region_law_o (refine step_copy_runI rfl _ _ 50 50 rfl _ _ (by simp [Act.eval, Act.put]) (by simp [Act.eval, Act.put]) (hc4 _) ?_)
 go_wp2
 rw [rounds_succ]
 go_wp2
 go_ret
 refine ⟨rfl, (Below.trans (Below.drew (Below.trans (Below.drew (hb1.trans hb2)) hb3)) hb4), ?_, ?_⟩
 ·simpa using h4
 ·have d : ∀ x : World, x.drew.heap.size = x.heap.size := fun _ => rfl
  simp only [d] at hsz3 hsz4;omega
end Go.User
namespace Sp
def valid (t : Lit) : Bool := decide (1 <= t.1.length) && decide (t.1.length <= 4) && decide (1 <= aB t.1) && decide (aB t.1 <= 6) && !((cat t.1).any fun o => !usual o)
def m0 : Msg := (-1, 0, false, ())
def v0 : List Int := [-1, -1, -1]
def memI (x : Nat) : List (List Msg) := (List.range 3).map fun (j : Nat) => if j < x then [m0] else []
def zeros (n : Nat) : List Int := List.replicate n 0
def views (n : Nat) : List (List Int) := List.replicate n v0
def froms (n : Nat) : List Int := List.replicate n (-1)
def stI (t : Lit) (x : Nat) : VSt := (t, zeros t.1.length, memI x, views t.1.length, v0, zeros (aB t.1), froms (aB t.1), [], ())
def start (t : Lit) : VSt := stI t 3
def stZ : VSt := (([], ()), [], [[], [], []], [], [0, 0, 0], [], [], [], ())
def stA (t : Lit) : VSt := if valid t = true then start t else stZ
def errA (t : Lit) : Int := if valid t = true then 0 else 300
end Sp
namespace Go.User
open Go.Lf
def S45 : aU := { args := [.val (.slice tI), .val tI], multi := false, res := .slice tI, mode := .own .shr, pre := fun x => List.length x.1 = 1 /\ 1 <= x.2.1 /\ x.2.1 <= 6, fn := fun x => List.replicate (Int.toNat x.2.1) (List.getD x.1 0 0) }
def S44 : aU := { args := [.val (.slice tV3), .val tI], multi := false, res := .slice tV3, mode := .own .shr, pre := fun x => List.length x.1 = 1 /\ 1 <= x.2.1 /\ x.2.1 <= 4, fn := fun x => List.replicate (Int.toNat x.2.1) (List.getD x.1 0 []) }
def S42 : aU := { args := [.val tLit], multi := false, res := .bool, mode := .shr, pre := fun x => Sp.aB x.1.1 <= 1000, fn := fun x => Sp.valid x.1 }
def C42 : Ctx := { mkS 36 [(43, S43), (76, S76), (77, S77)] with fzs := [4] }
def L42 (x : aO S42.args) : List aS := []
def S19 : aU := { args := [.val tLit], multi := true, res := .prod tVSt (.prod tI .unit), mode := .shr, pre := fun x => Sp.aB x.1.1 <= 1000, fn := fun x => (Sp.stA x.1, Sp.errA x.1, ()) }
def C19 : Ctx := { mkS 45 [(42, S42), (43, S43), (44, S44), (45, S45)] with frz := [21, 23, 27, 30, 31, 33, 40], mds := [(2, mV0), (6, mV0), (34, mV0)] }
def L19 (x : aO S19.args) : List aS := [
 {ι := Nat, inv := fun n => n <= 3, dec := fun n => 3 - n, ovr := fun n => [(35, .shr tI (n : Int)), (6, .box tVSt .shr (x.1, Sp.zeros (List.length x.1.1), Sp.memI n, Sp.views (List.length x.1.1), Sp.v0, Sp.zeros (Sp.aB x.1.1), Sp.froms (Sp.aB x.1.1), [], ()))], keep := [2, 3] }]
end Go.User
