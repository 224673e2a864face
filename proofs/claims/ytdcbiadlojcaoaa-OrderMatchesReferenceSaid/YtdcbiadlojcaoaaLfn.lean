/- Orders: plain facts. -/
import Derived.Test.YtdcbiadlojcaoaaLfm
import Derived.Lib.SlicesCompact
set_option linter.unusedVariables false
set_option linter.unusedSimpArgs false
namespace Sp
theorem mem_take_succ {l : List Int} {n : Int} {i : Nat} {d : Int} (hi : (i : Int) < (l.length : Int)) : n ∈ l.take (i + 1) ↔ n ∈ l.take i ∨ l.getD i d = n := by
 have h1 : i < l.length := by omega
 rw [List.take_add_one, List.getElem?_eq_getElem h1, List.getD_eq_getElem?_getD, List.getElem?_eq_getElem h1]
 simp only [Option.toList_some, List.mem_append, List.mem_singleton, Option.getD_some]
 exact or_congr Iff.rfl eq_comm
theorem mem_getD {l : List Int} {i : Nat} {d : Int} (hi : (i : Int) < (l.length : Int)) : l.getD i d ∈ l := by
 have h1 : i < l.length := by omega
 rw [List.getD_eq_getElem?_getD, List.getElem?_eq_getElem h1]
 exact List.getElem_mem h1
theorem idxL_at {l : List Int} {n d : Int} {i : Nat} (hi : (i : Int) < (l.length : Int)) (h : n ∉ l.take i) (e : n = l.getD i d) : (i : Int) = idxL l n := by
 unfold idxL
 have h1 : i < l.length := by omega
 have hm : n ∈ l := by rw [e]; exact mem_getD hi
 rw [if_pos hm]
 have : l.idxOf n = i := by
  have hle : l.idxOf n <= i := by
   rcases Nat.lt_or_ge i (l.idxOf n) with hlt | hge
   ·exfalso
    have := List.not_of_lt_findIdx (p := (· == n)) (xs := l) (i := i) hlt
    rw [List.getD_eq_getElem?_getD, List.getElem?_eq_getElem h1] at e;simp only [Option.getD_some] at e;rw [<- e] at this;simp at this
   ·exact hge
  rcases Nat.lt_or_ge (l.idxOf n) i with hlt | hge
  ·exfalso
   apply h
   have hl : l.idxOf n < l.length := by omega
   have : l[l.idxOf n]'hl = n := List.getElem_idxOf hl
   rw [List.mem_take_iff_getElem];exact ⟨l.idxOf n, by omega, this⟩
  ·omega
 rw [this]
theorem tw_lt {p : Int -> Bool} : ∀ {l : List Int} {i : Nat}, i <= (l.takeWhile p).length -> i < l.length -> p (l.getD i 0) = true -> i < (l.takeWhile p).length
 | [], i, _, h, _ => by simp at h
 | a :: l, i, h1, h2, h3 => by
  cases hp : p a
  ·rw [List.takeWhile_cons_of_neg (by rw [hp]; decide)] at h1
   have : i = 0 := by simp at h1; exact h1
   subst this;have h3 : p a = true := h3;rw [hp] at h3; cases h3
  ·rw [List.takeWhile_cons_of_pos hp] at h1 ⊢
   cases i with
   | zero => simp
   | succ i =>
    simp only [List.length_cons] at h1 h2 ⊢;exact Nat.succ_lt_succ (tw_lt (by omega) (by omega) h3)
theorem tw_end {p : Int -> Bool} : ∀ {l : List Int} {i : Nat}, i <= (l.takeWhile p).length -> (i < l.length -> p (l.getD i 0) = false) -> l.take i = l.takeWhile p /\ l.drop i = l.dropWhile p
 | [], i, _, _ => by simp
 | a :: l, i, h1, h2 => by
  cases hp : p a
  ·rw [List.takeWhile_cons_of_neg (by rw [hp]; decide), List.dropWhile_cons_of_neg (by rw [hp]; decide)]
   rw [List.takeWhile_cons_of_neg (by rw [hp]; decide)] at h1;have : i = 0 := by simp at h1; exact h1
   subst this;exact ⟨rfl, rfl⟩
  ·rw [List.takeWhile_cons_of_pos hp] at h1 ⊢
   rw [List.dropWhile_cons_of_pos hp];cases i with
   | zero =>
    have : p a = false := h2 (by simp)
    rw [hp] at this; cases this
   | succ i =>
    simp only [List.length_cons] at h1 h2;obtain ⟨g1, g2⟩ := tw_end (l := l) (i := i) (p := p) (by omega) (fun h => h2 (by omega))
    rw [List.take_succ_cons, List.drop_succ_cons, g1];exact ⟨rfl, g2⟩
theorem addN_len (l : List Int) (n : Int) : (addN l n).length <= l.length + 1 := by
 unfold addN
 split
 ·omega
 ·have := congrArg List.length (List.takeWhile_append_dropWhile (p := fun v => decide (v < n)) (l := l))
  simp only [List.length_append, List.length_singleton] at this ⊢;omega
end Sp
namespace Go.User
open Go.Lf Go.Proofs
theorem maxN {n : Nat} (h : n <= 100000000) : (n : Int) <= maxNew := by rw [maxNew_eq]; omega
theorem ok38 : FOk Try.prog 38 S38 := by
 have hC : aF Try.prog C38 := okA aO
 refine FOk.intro hC (aR hC) Try.call38 Try.func38 (by kernel_rfl) (by kernel_rfl) L38 ?_
 rw [vc38]
 simp only [zz, zy]
 rintro ⟨l, n, u⟩ ⟨hl, hn⟩
 dsimp only
 refine ⟨⟨0, ⟨Nat.zero_le _, by simp⟩, rfl⟩, ?_⟩
 intro i hi _
 obtain ⟨h1, h2⟩ := hi
 refine ⟨fun hlt => ⟨bB hlt, fun c => Sp.tr_of ((Sp.mem_iff l n).2 ?_), fun c => ⟨d9 hlt hl.1, i + 1, ⟨?_, ?_⟩, ?_, rfl⟩⟩, fun hge => Sp.eX fun e => h2 ?_⟩
 ·have c : l.getD i 0 = n := c
  rw [<- c]; exact Sp.mem_getD hlt
 ·have hlt : (i : Int) < (List.length l : Int) := hlt
  omega
 ·intro hm
  rcases (Sp.mem_take_succ (d := 0) hlt).1 hm with h | h
  ·exact h2 h
  ·exact c h
 ·have hlt : (i : Int) < (List.length l : Int) := hlt
  omega
 ·have hge : (List.length l : Int) <= (i : Int) := hge
  have e := (Sp.mem_iff l n).1 e
  rwa [List.take_of_length_le (by omega)]
theorem ok69 : FOk Try.prog 69 S69 := by
 have hC : aF Try.prog C69 := okA aO
 refine FOk.intro hC (aR hC) Try.call69 Try.func69 (by kernel_rfl) (by kernel_rfl) L69 ?_
 rw [vc69]
 simp only [zz, zy]
 rintro ⟨l, n, u⟩ ⟨hl, hn⟩
 dsimp only
 refine ⟨⟨0, ⟨Nat.zero_le _, by simp⟩, rfl⟩, ?_⟩
 intro i hi _
 obtain ⟨h1, h2⟩ := hi
 refine ⟨fun hlt => ⟨bB hlt, fun c => Sp.idxL_at hlt h2 c, fun c => ⟨d9 hlt hl.1, i + 1, ⟨?_, ?_⟩, ?_, rfl⟩⟩, fun hge => ?_⟩
 ·have hlt : (i : Int) < (List.length l : Int) := hlt
  omega
 ·intro hm
  rcases (Sp.mem_take_succ (d := 0) hlt).1 hm with h | h
  ·exact h2 h
  ·exact c h.symm
 ·have hlt : (i : Int) < (List.length l : Int) := hlt
  omega
 ·have hge : (List.length l : Int) <= (i : Int) := hge
  show -1 = Sp.idxL l n
  unfold Sp.idxL;rw [if_neg];rw [List.take_of_length_le (by omega)] at h2;exact h2
theorem ok61 : FOk Try.prog 61 S61 := by
 have hC : aF Try.prog C61 := okA (aE ok69 aO)
 refine FOk.intro hC (aR hC) Try.call61 Try.func61 (by kernel_rfl) (by kernel_rfl) L61 ?_
 rw [vc61]
 simp only [zz, zy]
 rintro ⟨l, n, u⟩ _
 dsimp only
 show decide (0 <= Sp.idxL l n) = Sp.mem l n
 unfold Sp.idxL Sp.mem
 split
 ·rename_i h
  rw [decide_eq_true h, decide_eq_true (by omega)]
 ·rename_i h
  rw [decide_eq_false h]; rfl
theorem ok56 : FOk Try.prog 56 S56 := by
 have hC : aF Try.prog C56 := okA aO
 refine FOk.intro hC (aR hC) Try.call56 Try.func56 (by kernel_rfl) (by kernel_rfl) L56 ?_
 rw [vc56]
 simp only [zz, zy]
 rintro ⟨l, u⟩ h _
 dsimp only
 exact ⟨fun h => h.symm, maxN (by have h : List.length l <= 5000 := h; omega)⟩
theorem ok57 : FOk Try.prog 57 S57 := by
 have hC : aF Try.prog C57 := okA aO
 refine FOk.intro hC (aR hC) Try.call57 Try.func57 (by kernel_rfl) (by kernel_rfl) L57 ?_
 rw [vc57]
 simp only [zz, zy]
 rintro ⟨l, u⟩ h _
 dsimp only
 exact ⟨fun h => h.symm, maxN (by have h : List.length l <= 5000 := h; omega)⟩
theorem ok58 : FOk Try.prog 58 S58 := by
 have hC : aF Try.prog C58 := okA aO
 refine FOk.intro hC (aR hC) Try.call58 Try.func58 (by kernel_rfl) (by kernel_rfl) L58 ?_
 rw [vc58]
 simp only [zz, zy]
 rintro ⟨l, u⟩ h _
 dsimp only
 exact ⟨fun h => h.symm, maxN (by have h : List.length l <= 5000 := h; omega)⟩
theorem ok68 : FOk Try.prog 68 S68 := by
 have hC : aF Try.prog C68 := okA aO
 refine FOk.intro hC (aR hC) Try.call68 Try.func68 (by kernel_rfl) (by kernel_rfl) L68 ?_
 rw [vc68]
 simp only [zz, zy]
 rintro ⟨o, u⟩ _
 dsimp only
 exact ⟨fun h => (if_neg h).symm, fun h => (if_pos h).symm⟩
theorem ok60 : FOk Try.prog 60 S60 := by
 have hC : aF Try.prog C60 := okA (aE ok68 aO)
 refine FOk.intro hC (aR hC) Try.call60 Try.func60 (by kernel_rfl) (by kernel_rfl) L60 ?_
 rw [vc60]
 simp only [zz, zy]
 rintro ⟨o, u⟩ _
 rfl
theorem ok63 : FOk Try.prog 63 S63 := by
 have hC : aF Try.prog C63 := okA aO
 refine FOk.intro hC (aR hC) Try.call63 Try.func63 (by kernel_rfl) (by kernel_rfl) L63 ?_
 rw [vc63]
 simp only [zz, zy]
 rintro ⟨o, u⟩ _
 dsimp only
 exact ⟨fun h => (if_pos h).symm, fun h => (if_neg h).symm⟩
theorem ok34 : FOk Try.prog 34 S34 := by
 have hC : aF Try.prog C34 := okA aO
 refine FOk.intro hC (aR hC) Try.call34 Try.func34 (by kernel_rfl) (by kernel_rfl) L34 ?_
 rw [vc34]
 simp only [zz, zy]
 rintro ⟨o, u⟩ _
 rfl
theorem ok36 : FOk Try.prog 36 S36 := by
 have hC : aF Try.prog C36 := okA aO
 refine FOk.intro hC (aR hC) Try.call36 Try.func36 (by kernel_rfl) (by kernel_rfl) L36 ?_
 rw [vc36]
 simp only [zz, zy]
 rintro ⟨o, u⟩ _
 rfl
theorem ok37 : FOk Try.prog 37 S37 := by
 have hC : aF Try.prog C37 := okA aO
 refine FOk.intro hC (aR hC) Try.call37 Try.func37 (by kernel_rfl) (by kernel_rfl) L37 ?_
 rw [vc37]
 simp only [zz, zy]
 rintro ⟨o, u⟩ _
 rfl
theorem ok35 : FOk Try.prog 35 S35 := by
 have hC : aF Try.prog C35 := okA (aE ok37 (aE ok34 aO))
 refine FOk.intro hC (aR hC) Try.call35 Try.func35 (by kernel_rfl) (by kernel_rfl) L35 ?_
 rw [vc35]
 simp only [zz, zy]
 rintro ⟨c, i, u⟩ h _
 dsimp only at h ⊢
 refine ⟨fun hc => ?_, rfl⟩
 have hc2 := hc.2
 unfold Sp.arrB at hc2
 simp only [Bool.or_eq_true, decide_eq_true_iff, or_assoc] at hc2
 exact h hc2
theorem ok75 : FOk Try.prog 75 S75 := by
 have hC : aF Try.prog C75 := okA (aE ok38 aO)
 refine FOk.intro hC (aR hC) Try.call75 Try.func75 (by kernel_rfl) (by kernel_rfl) L75 ?_
 rw [vc75]
 simp only [zz, zy]
 rintro ⟨l, n, u⟩ hlen ⟨hl, hn⟩
 dsimp only at hlen ⊢
 have hlen : List.length l <= 5000 := hlen
 refine ⟨fun c => ?_, fun c => ⟨⟨0, Nat.zero_le _, rfl⟩, ?_⟩⟩
 ·show l = Sp.addN l n
  unfold Sp.addN;rw [if_pos ((Sp.mem_iff l n).1 c)]
 have hnm : n ∉ l := fun h => by rw [(Sp.mem_iff l n).2 h] at c; cases c
 intro i hi _
 have hi : i <= (List.takeWhile (fun v => decide (v < n)) l).length := hi
 refine ⟨fun hlt => bB hlt, fun c2 => ⟨d9 c2.1 hl.1, i + 1, ?_, ?_, rfl⟩, fun c2 => ?_⟩
 ·have h1 : (i : Int) < (List.length l : Int) := c2.1
  have h2 : l.getD i 0 < n := c2.2
  exact Sp.tw_lt (p := fun v => decide (v < n)) hi (by omega) (decide_eq_true h2)
 ·have h1 : (i : Int) < (List.length l : Int) := c2.1
  omega
 ·obtain ⟨e1, e2⟩ := Sp.tw_end (p := fun v => decide (v < n)) (l := l) (i := i) hi (fun hlt => by
   have h0 : decide ((i : Int) < (List.length l : Int)) = true := decide_eq_true (by omega)
   rw [h0, Bool.true_and] at c2;exact c2)
  have hil : i <= l.length := Nat.le_trans hi (by
   have := congrArg List.length (List.takeWhile_append_dropWhile (p := fun v => decide (v < n)) (l := l))
   simp only [List.length_append] at this;omega)
  have w1 : win 0 (i : Int) l = l.take i := by unfold win; simp
  have w2 : win (i : Int) (List.length l : Int) l = l.drop i := by unfold win; simp
  show (winI 0 (i : Int) (List.length l) /\ ((0 + (win 0 (i : Int) l).length : Nat) : Int) <= maxNew /\ (((win 0 (i : Int) l).length + 1 : Nat) : Int) <= maxNew /\ winI (i : Int) (List.length l : Int) (List.length l) /\ (((win 0 (i : Int) l ++ n :: []).length + (win (i : Int) (List.length l : Int) l).length : Nat) : Int) <= maxNew) /\ win 0 (i : Int) l ++ n :: [] ++ win (i : Int) (List.length l : Int) l = Sp.addN l n
  rw [w1, w2];have t1 : (l.take i).length <= 5000 := by rw [List.length_take]; omega
  have t2 : (l.drop i).length <= 5000 := by rw [List.length_drop]; omega
  refine ⟨⟨⟨Int.le_refl _, by omega, by omega⟩, maxN (by omega), maxN (by omega), ⟨by omega, by omega, by omega⟩, maxN (by rw [List.length_append]; simp only [List.length_singleton]; omega)⟩, ?_⟩
  unfold Sp.addN;rw [if_neg hnm, e1, e2]
theorem ok71 : FOk Try.prog 71 S71 := by
 have hC : aF Try.prog C71 := okC (aE ok75 aO) rfl rfl rfl rfl rfl rfl rfl
 refine FOk.intro hC (aR hC) Try.call71 Try.func71 (by kernel_rfl) (by kernel_rfl) L71 ?_
 rw [vc71]
 simp only [zz, zy]
 rintro ⟨l, u⟩ hlen hl
 dsimp only at hlen hl ⊢
 have hlen : List.length l <= 1000 := hlen
 refine ⟨⟨(0, []), ⟨Nat.zero_le _, Nat.le_refl _, rfl⟩, rfl, rfl⟩, ?_⟩
 rintro ⟨k, o⟩ ⟨h1, h2, h3⟩ _
 dsimp only at h1 h2 h3 ⊢
 have hd : ∀ h : k < List.length l, Sp.regL (List.drop k l) o = Sp.regL (List.drop (k + 1) l) (if (l.getD k (0, 0, 0, ())).1 = 2 then Sp.addN o (l.getD k (0, 0, 0, ())).2.1 else o) := by
  intro h;rw [List.drop_eq_getElem_cons h, List.getD_eq_getElem?_getD, List.getElem?_eq_getElem h]
  rfl
 refine ⟨fun hlt => ⟨bB hlt, fun c => ?_, fun c => ?_⟩, fun hge => ?_⟩
 ·have hlt : (k : Int) < (List.length l : Int) := hlt
  refine ⟨⟨bB hlt, by omega⟩, aS (by omega) (by omega), (k + 1, Sp.addN o (l.getD k (0, 0, 0, ())).2.1), ⟨by dsimp only; omega, ?_, ?_⟩, by dsimp only; omega, rfl, rfl⟩
  ·have := Sp.addN_len o (l.getD k (0, 0, 0, ())).2.1
   dsimp only; omega
  ·rw [<- h3, hd (by omega), if_pos c]
 ·have hlt : (k : Int) < (List.length l : Int) := hlt
  refine ⟨aS (by omega) (by omega), (k + 1, o), ⟨by dsimp only; omega, by dsimp only; omega, ?_⟩, by dsimp only; omega, rfl, rfl⟩
  rw [<- h3, hd (by omega), if_neg c]
 ·have hge : (List.length l : Int) <= (k : Int) := hge
  rw [<- h3, List.drop_of_length_le (by omega)]
  rfl
theorem ok64 : FOk Try.prog 64 S64 := by
 have hC : aF Try.prog C64 := okC (aE ok71 aO) rfl rfl rfl rfl rfl rfl rfl
 refine FOk.intro hC (aR hC) Try.call64 Try.func64 (by kernel_rfl) (by kernel_rfl) L64 ?_
 rw [vc64]
 simp only [zz, zy]
 rintro ⟨i, u⟩ _
 exact ⟨Nat.le_of_ble_eq_true rfl, rfl⟩
theorem ok33 : FOk Try.prog 33 S33 := by
 have hC : aF Try.prog C33 := okA (aE ok63 (aE ok38 (aE ok64 aO)))
 refine FOk.intro hC (aR hC) Try.call33 Try.func33 (by kernel_rfl) (by kernel_rfl) L33 ?_
 rw [vc33]
 simp only [zz, zy]
 rintro ⟨i, j, u⟩ _
 rfl
theorem ok62 (h70 : FOk Try.prog 70 S70) : FOk Try.prog 62 S62 := by
 have hC : aF Try.prog C62 := okC (aE h70 aO) rfl rfl rfl rfl rfl rfl rfl
 refine FOk.intro hC (aR hC) Try.call62 Try.func62 (by kernel_rfl) (by kernel_rfl) L62 ?_
 rw [vc62]
 simp only [zz, zy]
 rintro ⟨i, u⟩ _
 exact ⟨Nat.le_of_ble_eq_true rfl, rfl⟩
theorem ok32 (h70 : FOk Try.prog 70 S70) : FOk Try.prog 32 S32 := by
 have hC : aF Try.prog C32 := okA (aE ok60 (aE ok61 (aE (ok62 h70) aO)))
 refine FOk.intro hC (aR hC) Try.call32 Try.func32 (by kernel_rfl) (by kernel_rfl) L32 ?_
 rw [vc32]
 simp only [zz, zy]
 rintro ⟨i, j, u⟩ _
 rfl
theorem ok31 : FOk Try.prog 31 S31 := by
 have hC : aF Try.prog C31 := okA aO
 refine FOk.intro hC (aR hC) Try.call31 Try.func31 (by kernel_rfl) (by kernel_rfl) L31 ?_
 rw [vc31]
 simp only [zz, zy]
 rintro ⟨c, i, u⟩ h _
 dsimp only at h ⊢
 have hin : (i.1 = 7 ∨ i.1 = 8 ∨ i.1 = 9) -> inN i.2.2.1 c.2.2.2.2.2.1.length := fun hi => h hi
 have K7 : (i.1 = 7 ∨ i.1 = 8 ∨ i.1 = 9) -> (i.2.2.1, (-1 : Int), i.1 == 7, i.1 == 9, (c.2.2.2.2.2.1.getD i.2.2.1.toNat ([], 0, 0, 0, ())).2.1 != 3, ()) = Sp.accI c i := by
  intro hi;unfold Sp.accI;rw [if_pos (show Sp.opI i = 7 ∨ Sp.opI i = 8 ∨ Sp.opI i = 9 from hi)]; rfl
 have K11 : (i.1 = 11 ∨ i.1 = 12) -> ((-1 : Int), i.2.2.1, i.1 == 11, false, false, ()) = Sp.accI c i := by
  intro hi;unfold Sp.accI;rw [if_neg (by unfold Sp.opI; omega), if_pos (show Sp.opI i = 11 ∨ Sp.opI i = 12 from hi)]; rfl
 have K10 : i.1 = 10 -> ((-1 : Int), (-1 : Int), false, true, true, ()) = Sp.accI c i := by
  intro hi;unfold Sp.accI;rw [if_neg (by unfold Sp.opI; omega), if_neg (by unfold Sp.opI; omega), if_pos (show Sp.opI i = 10 from hi)]
 have K0 : ¬ (i.1 = 7 ∨ i.1 = 8 ∨ i.1 = 9) -> ¬ (i.1 = 11 ∨ i.1 = 12) -> ¬ i.1 = 10 -> ((-1 : Int), (-1 : Int), false, false, false, ()) = Sp.accI c i := by
  intro h1 h2 h3;unfold Sp.accI;rw [if_neg (show ¬ (Sp.opI i = 7 ∨ Sp.opI i = 8 ∨ Sp.opI i = 9) from h1), if_neg (show ¬ (Sp.opI i = 11 ∨ Sp.opI i = 12) from h2), if_neg (show ¬ Sp.opI i = 10 from h3)]; rfl
 have O7 : ∀ {v : Int}, i.1 = 7 -> ¬ i.1 = 7 -> False := fun a b => b a
 repeat' first
  | with_reducible refine And.intro ?_ ?_
  | intro _
  | exact hin (by omega)
  | exact K7 (by omega)
  | exact K11 (by omega)
  | exact K10 (by omega)
  | exact K0 (by omega) (by omega) (by omega)
  | (exfalso; omega)
theorem ok14 (h70 : FOk Try.prog 70 S70) : FOk Try.prog 14 S14 := by
 have hC : aF Try.prog C14 := okA (aE ok31 (aE (ok32 h70) aO))
 refine FOk.intro hC (aR hC) Try.call14 Try.func14 (by kernel_rfl) (by kernel_rfl) L14 ?_
 rw [vc14]
 simp only [zz, zy]
 rintro ⟨c, i, j, u⟩ h _
 refine ⟨h, ?_⟩
 show _ = Sp.aY c i j
 unfold Sp.aY Sp.accB
 simp only [Bool.or_assoc]
 rfl
theorem ok15 : FOk Try.prog 15 S15 := by
 have hC : aF Try.prog C15 := okA (aE ok33 (aE ok34 (aE ok35 (aE ok36 (aE ok37 aO)))))
 refine FOk.intro hC (aR hC) Try.call15 Try.func15 (by kernel_rfl) (by kernel_rfl) L15 ?_
 rw [vc15]
 simp only [zz, zy]
 rintro ⟨c, i, j, u⟩ h _
 obtain ⟨hi, hj⟩ := h
 dsimp only at hi hj ⊢
 have E : ∀ b : Bool, (Sp.hitB i j || Sp.hitB j i || (Sp.arrB i && Sp.arrB j && decide (Sp.nI i = Sp.nI j) && (!decide (Sp.opI i = 7) || !decide (Sp.opI j = 7) || Sp.visB c i)) || (Sp.sltB i && Sp.sltB j && decide (Sp.nI i = Sp.nI j) && (!decide (Sp.opI i = 11) || !decide (Sp.opI j = 11))) || Sp.strB i && Sp.visB c j || Sp.strB j && Sp.visB c i) = b -> Sp.bM c i j = b := by
  rintro b rfl
  unfold Sp.bM
  rfl
 have e7 : (i.1 != 7) = !decide (Sp.opI i = 7) := rfl
 have e7' : (j.1 != 7) = !decide (Sp.opI j = 7) := rfl
 have e11 : (i.1 != 11) = !decide (Sp.opI i = 11) := rfl
 have e11' : (j.1 != 11) = !decide (Sp.opI j = 11) := rfl
 have en : (i.2.2.1 == j.2.2.1) = decide (Sp.nI i = Sp.nI j) := rfl
 simp only [e7, e7', e11, e11', en]
 generalize Sp.hitB i j = p1 at *
 generalize Sp.hitB j i = p2 at *
 generalize Sp.arrB i = p3 at *
 generalize Sp.arrB j = p4 at *
 generalize Sp.sltB i = p5 at *
 generalize Sp.sltB j = p6 at *
 generalize Sp.strB i = p7 at *
 generalize Sp.strB j = p8 at *
 generalize Sp.visB c i = p9 at *
 generalize Sp.visB c j = p10 at *
 generalize decide (Sp.nI i = Sp.nI j) = p11 at *
 generalize hq1 : decide (Sp.opI i = 7) = p12 at *
 generalize decide (Sp.opI j = 7) = p13 at *
 generalize decide (Sp.opI i = 11) = p14 at *
 generalize decide (Sp.opI j = 11) = p15 at *
 refine ⟨fun h => (E true ?_).symm, fun h => ⟨fun _ => hi, fun h2 => (E true ?_).symm, fun h2 => ⟨fun h3 => (E true ?_).symm, fun h3 => ⟨⟨fun _ => hj, fun _ => hi⟩, (E _ ?_).symm⟩⟩⟩⟩
 ·cases p1 <;> cases p2 <;> first | (simp at h; done) | simp
 ·obtain ⟨h2, h3⟩ := h2
  cases p3 <;> cases p4 <;> cases p11 <;> first | (simp at h2; done) | (rw [h2.2] at en; simp at en; done) | (rw [h3]; simp)
 ·obtain ⟨h3, h4⟩ := h3
  cases p5 <;> cases p6 <;> cases p11 <;> first | (simp at h3; done) | (rw [h3.2] at en; simp at en; done) | (rw [h4]; simp)
 ·obtain ⟨g1, g2⟩ := h
  subst g1; subst g2;have k2 : (p3 && p4 && p11 && (!p12 || !p13 || p9)) = false := by
   cases p3 <;> cases p4 <;> cases p11 <;> first | rfl | exact h2
  have k3 : (p5 && p6 && p11 && (!p14 || !p15)) = false := by
   cases p5 <;> cases p6 <;> cases p11 <;> first | rfl | exact h3
  rw [k2, k3];cases p7 <;> cases p8 <;> cases p9 <;> cases p10 <;> rfl
theorem take_blk {B : List Sp.Block} {i : Nat} (h : (i : Int) < (B.length : Int)) (d : Sp.Block) : B.take i ++ ((B.getD i d).1, (B.getD i d).2.1, ()) :: [] = B.take (i + 1) := by
 have h1 : i < B.length := by omega
 rw [List.take_add_one, List.getElem?_eq_getElem h1, List.getD_eq_getElem?_getD, List.getElem?_eq_getElem h1]
 rfl
theorem ok20 : FOk Try.prog 20 S20 := by
 have hC : aF Try.prog C20 := okC aO rfl rfl rfl rfl rfl rfl rfl
 refine FOk.intro hC (aR hC) Try.call20 Try.func20 (by kernel_rfl) (by kernel_rfl) L20 ?_
 rw [vc20]
 simp only [zz, zy]
 rintro ⟨c, u⟩ hc hd
 obtain ⟨h1, h2, h3, h4⟩ := hc
 dsimp only at h1 h2 h3 h4 ⊢
 have h1 : c.2.2.2.2.2.1.length <= 5000 := h1
 have h2 : c.2.2.2.2.2.2.1.length <= 5000 := h2
 have h3 : c.2.2.2.2.2.2.2.1.length <= 5000 := h3
 refine ⟨maxN (by omega), maxN (by omega), ⟨0, Nat.zero_le _, by simp, rfl⟩, ?_⟩
 intro i hi _
 have hi : i <= c.2.2.2.2.2.2.2.1.length := hi
 refine ⟨fun hlt => ⟨⟨⟨bB hlt, maxN ?_, bB hlt⟩, maxN ?_⟩, aS (by omega) (by omega), i + 1, ?_, ?_, take_blk hlt _, rfl⟩, fun hge => ?_⟩
 ·have hm : c.2.2.2.2.2.2.2.1.getD i ([], (0, 0, (0, 0, 0, ()), (0, 0, 0, ()), (0, 0, 0, ()), List.replicate 2 0, ()), ()) ∈ c.2.2.2.2.2.2.2.1 := by
   have hl : i < c.2.2.2.2.2.2.2.1.length := by omega
   rw [List.getD_eq_getElem?_getD, List.getElem?_eq_getElem hl];exact List.getElem_mem hl
  have := h4 _ hm
  exact Nat.le_trans (Nat.le_of_eq (Nat.zero_add _)) (Nat.le_trans this (by decide))
 ·have : (List.take i (Sp.cB c)).length <= i := by rw [List.length_take]; omega
  omega
 ·show i + 1 <= c.2.2.2.2.2.2.2.1.length
  omega
 ·show c.2.2.2.2.2.2.2.1.length - (i + 1) < c.2.2.2.2.2.2.2.1.length - i
  omega
 ·have e : List.take i (Sp.cB c) = c.2.2.2.2.2.2.2.1 := List.take_of_length_le (by show c.2.2.2.2.2.2.2.1.length <= i; omega)
  rw [e]
end Go.User
namespace Go.User
open Go Go.Proofs Go.RowKit Go.Lib Go.Lf Go.Sort
theorem putRow_heap (w : World) (b off : Nat) (d : Array Int) (k : Nat) : (putRow (Value.int .i64) w b off d).heap[k]? = if b = k then (w.heap[k]?).map (onCells (putCells (Value.int .i64) off d)) else w.heap[k]? := by
 unfold putRow mapBlock
 rw [Array.getElem?_modify]
theorem grow_heap (w : World) (os : Array Obj) {k : Nat} (h : k < w.heap.size) : (Go.Sort.grow w os).heap[k]? = w.heap[k]? := by
 unfold Go.Sort.grow
 rw [Array.getElem?_append_left h]
theorem putRow_size (w : World) (b off : Nat) (d : Array Int) : (putRow (Value.int .i64) w b off d).heap.size = w.heap.size := by
 unfold putRow mapBlock
 simp
theorem putCells_at (off : Nat) (d : Array Int) (c : Array Value) {j : Nat} (h : j < d.size) (hc : off + j < c.size) : (putCells (Value.int .i64) off d c)[off + j]? = some (.int .i64 d[j]!) := by
 unfold putCells
 rw [Array.getElem?_mapIdx, Array.getElem?_eq_getElem hc]
 simp only [Option.map_some]
 rw [if_pos ⟨by omega, by omega⟩, Nat.add_sub_cancel_left]
theorem putCells_size (off : Nat) (d : Array Int) (c : Array Value) : (putCells (Value.int .i64) off d c).size = c.size := by
 unfold putCells
 rw [Array.size_mapIdx]
theorem row_ints {w : World} {F S0 : aA} {v : Value} {x : List Int} (h : aP F w (.slice tI) (.own .shr) S0 v x) :
  (∃ cap, v = .slice none 0 cap /\ x = []) ∨ ∃ b off cap row T, v = .slice (some ⟨b, off, none⟩) x.length cap /\ x.length <= cap /\ S0 b /\ w.heap[b]? = some (.cells row T (0, 0)) /\ off + cap <= row.size /\ (∀ j, j < x.length -> row[off + j]? = some (.int .i64 x[j]!)) /\ ∀ z ∈ x, inK .i64 z := by
 obtain ⟨cs, rfl, ao, cap, rfl, h1, h2, h3⟩ := h
 rcases h3 with ⟨rfl, rfl⟩ | ⟨b, off, row, T, Si, rfl, h4, h5, h6, _, _, _, h7⟩
 ·left
  have : x = [] := List.eq_nil_of_length_eq_zero (by omega)
  subst this;exact ⟨0, rfl, rfl⟩
 ·right
  have hs : Ty.size tI = 1 := rfl
  have hel : ∀ j (hj : j < x.length), row[off + j]? = some (.int .i64 x[j]!) /\ inK .i64 x[j]! := by
   intro j hj;have := h7 j _ (List.getElem?_eq_getElem hj);obtain ⟨q1, q2⟩ := this;rw [hs, Nat.mul_one] at q1;have e : (seg row.toList (off + j) 1)[0]? = some (.int .i64 (x[j]'hj)) := by rw [q1]; rfl
   have e2 : x[j]! = x[j]'hj := getElem!_pos x j hj
   rw [e2];exact ⟨by simpa [seg] using e, q2⟩
  refine ⟨b, off, cap, row, T, rfl, h1, h4, h5, by rw [hs, Nat.mul_one] at h6; exact h6, fun j hj => (hel j hj).1, fun z hz => ?_⟩
  obtain ⟨j, hj, rfl⟩ := List.mem_iff_getElem.1 hz;have := (hel j hj).2
  rwa [getElem!_pos x j hj] at this
theorem own_ints {w : World} {F S0 : aA} {b off cap : Nat} {row : Array Value} {T : TypeId} {x : List Int} (h1 : x.length <= cap) (hl : x.length <= lim) (h4 : S0 b) (h5 : w.heap[b]? = some (.cells row T (0, 0))) (h6 : off + cap <= row.size)
  (h7 : ∀ j, j < x.length -> row[off + j]? = some (.int .i64 x[j]!)) (h8 : ∀ z ∈ x, inK .i64 z) : aP F w (.slice tI) (.own .shr) S0 (.slice (some ⟨b, off, none⟩) x.length cap) x := by
 have hs : Ty.size tI = 1 := rfl
 refine ⟨[.slice (some ⟨b, off, none⟩) x.length cap], rfl, some ⟨b, off, none⟩, cap, rfl, h1, hl, .inr ⟨b, off, row, T, fun _ => none', rfl, h4, h5, by rw [hs, Nat.mul_one]; exact h6, fun _ _ h => h.elim, fun _ h => h, fun _ _ _ _ h _ => h, ?_⟩⟩
 intro i z hz
 obtain ⟨hi, rfl⟩ := List.getElem?_eq_some_iff.1 hz
 have h := h7 i hi
 rw [getElem!_pos x i hi] at h
 rw [hs, Nat.mul_one]
 refine ⟨?_, h8 _ (List.getElem_mem hi)⟩
 obtain ⟨hlt, hval⟩ := Array.getElem?_eq_some_iff.1 h
 show List.take 1 (List.drop (off + i) row.toList) = [.int .i64 (x[i]'hi)]
 rw [List.drop_eq_getElem_cons (by simpa using hlt)]
 simp [hval]
def vSort : VSpec := { e := tI, pre := fun x => List.length x <= 1000000, fn := fun (x : List Int) => x.mergeSort (fun a b => decide (a <= b)), ret := false }
def vCmp : VSpec := { e := tI, pre := fun x => List.length x <= 1000000, fn := fun (x : List Int) => Lib.compact x, ret := true }
theorem holds_row {w : World} {b off : Nat} {row : Array Value} {T : TypeId} {x : List Int} (h5 : w.heap[b]? = some (.cells row T (0, 0))) (h7 : ∀ j, j < x.length -> row[off + j]? = some (.int .i64 x[j]!)) : Holds (Value.int .i64) w b off x.toArray := by
 intro j hj
 have hj : j < x.length := by simpa using hj
 refine ⟨?_, by simp [World.frozen?, h5]⟩
 rw [cell_of h5, h7 j hj]
 simp [getElem!_pos, hj]
theorem vk73 : VOk Try.prog 73 vSort := by
 refine ⟨Try.call73, ?_⟩
 intro w F S0 v (x : List Int) hF hS0 (hown : aP F w (.slice tI) (.own .shr) S0 v x) hpre
 have hpre : List.length x <= 1000000 := hpre
 rcases row_ints hown with ⟨cap, rfl, rfl⟩ | ⟨b, off, cap, row, T, rfl, h1, h4, h5, h6, h7, h8⟩
 ·refine (AnyM.slices_Sort_int_none Try.sortA none cap w).mono ?_
  rintro e w' ⟨rfl, rfl⟩
  refine ⟨_, S0, rfl, fun _ => rfl, rfl, rfl, rfl, Nat.le_refl _, fun _ _ _ => rfl, fun k hk => ⟨.inr hk, (hS0 k hk).1, (hS0 k hk).2⟩, ?_⟩
  simpa [vSort] using hown
 ·have hb := hS0 b h4
  refine (AnyM.slices_Sort_int Try.sortA b off cap x w (holds_row h5 h7) hb.1 (by omega)).mono ?_
  rintro e w' ⟨rfl, n, os, rfl⟩
  have hsz : (Go.Sort.grow (putRow (Value.int .i64) (Sort.ahead w n) b off (x.mergeSort fun x y => decide (x <= y)).toArray) os).heap.size = w.heap.size + os.size := by
   unfold Go.Sort.grow;rw [Array.size_append, putRow_size]; rfl
  have hk : ∀ k, k < w.heap.size -> (Go.Sort.grow (putRow (Value.int .i64) (Sort.ahead w n) b off (x.mergeSort fun x y => decide (x <= y)).toArray) os).heap[k]? = if b = k then (w.heap[k]?).map (onCells (putCells (Value.int .i64) off (x.mergeSort fun x y => decide (x <= y)).toArray)) else w.heap[k]? := by
   intro k hk;rw [grow_heap _ _ (by rw [putRow_size]; exact hk), putRow_heap]
   rfl
  have hlen : (x.mergeSort fun x y => decide (x <= y)).length = x.length := List.length_mergeSort x
  refine ⟨_, S0, rfl, fun _ => rfl, rfl, rfl, rfl, by rw [hsz]; omega, fun k h1 h2 => ?_, fun k hk => ⟨.inr hk, by rw [hsz]; have := (hS0 k hk).1; omega, (hS0 k hk).2⟩, ?_⟩
  ·rw [hk k h1, if_neg (fun (e : b = k) => h2 (by rw [<- e]; exact h4))]
  ·have hlim : x.length <= lim := by rw [lim_eq]; omega
   have := own_ints (F := F) (S0 := S0) (x := x.mergeSort fun x y => decide (x <= y)) (cap := cap) (by rw [hlen]; exact h1) (by rw [hlen]; exact hlim) h4 (by rw [hk b hb.1, if_pos rfl, h5]; rfl) (by rw [putCells_size]; exact h6) (fun j hj => by
    have hj2 : j < x.length := by rw [<- hlen]; exact hj
    rw [putCells_at off _ _ (by simpa using hj) (by omega)];simp [getElem!_pos, hj, hj2]) (fun z hz => h8 z (List.mem_mergeSort.1 hz))
   rw [hlen] at this;exact this
theorem compact_mem {x : List Int} {z : Int} (h : z ∈ Lib.compact x) : z ∈ x := by
 unfold Lib.compact compactUpTo at h
 obtain ⟨j, hj, rfl⟩ := List.mem_map.1 h
 have hj := List.mem_range.1 (List.mem_filter.1 hj).1
 simp [getElem!_pos, hj]
theorem vk74 : VOk Try.prog 74 vCmp := by
 refine ⟨Try.call74, ?_⟩
 intro w F S0 v (x : List Int) hF hS0 (hown : aP F w (.slice tI) (.own .shr) S0 v x) hpre
 have hpre : List.length x <= 1000000 := hpre
 rcases row_ints hown with ⟨cap, rfl, rfl⟩ | ⟨b, off, cap, row, T, rfl, h1, h4, h5, h6, h7, h8⟩
 ·refine (AnyG.slices_Compact_int_empty Try.cmpA none cap w).mono ?_
  rintro e w' ⟨rfl, rfl⟩
  refine ⟨_, S0, rfl, fun h => (Bool.noConfusion h), rfl, rfl, rfl, Nat.le_refl _, fun _ _ _ => rfl, fun k hk => ⟨.inr hk, (hS0 k hk).1, (hS0 k hk).2⟩, hown⟩
 ·have hb := hS0 b h4
  have hcl : (Lib.compact x).length <= x.length := by
   unfold Lib.compact compactUpTo;rw [List.length_map];have := List.length_filter_le (keeps x.toArray) (List.range x.length)
   rwa [List.length_range] at this
  refine (AnyG.slices_Compact_int Try.cmpA b off cap x w (holds_row h5 h7) (by omega) h1).mono ?_
  rintro e w' ⟨rfl, n, rfl⟩
  generalize hD : (Lib.compact x ++ List.replicate (x.length - (Lib.compact x).length) 0).toArray = D
  have hDs : D.size = x.length := by rw [<- hD]; simp; omega
  have hDj : ∀ j : Nat, j < (Lib.compact x).length -> D[j]! = (Lib.compact x)[j]! := by
   intro j hj;rw [<- hD];have : j < (Lib.compact x ++ List.replicate (x.length - (Lib.compact x).length) 0).toArray.size := by simp; omega
   simp [List.getElem!_eq_getElem?_getD, List.getElem?_append_left hj]
  have hk : ∀ k, (putRow (Value.int .i64) (Sort.ahead w n) b off D).heap[k]? = if b = k then (w.heap[k]?).map (onCells (putCells (Value.int .i64) off D)) else w.heap[k]? := by
   intro k;rw [putRow_heap]
   rfl
  have hsz : (putRow (Value.int .i64) (Sort.ahead w n) b off D).heap.size = w.heap.size := by rw [putRow_size]; rfl
  refine ⟨_, S0, rfl, fun h => (Bool.noConfusion h), rfl, rfl, rfl, by rw [hsz]; omega, fun k h1 h2 => ?_, fun k hk => ⟨.inr hk, by rw [hsz]; exact (hS0 k hk).1, (hS0 k hk).2⟩, ?_⟩
  ·rw [hk k, if_neg (fun (e : b = k) => h2 (by rw [<- e]; exact h4))]
  ·have hlim : x.length <= lim := by rw [lim_eq]; omega
   exact own_ints (F := F) (S0 := S0) (x := Lib.compact x) (cap := cap) (by omega) (by omega) h4 (by rw [hk b, if_pos rfl, h5]; rfl) (by rw [putCells_size]; exact h6) (fun j hj => by
    rw [putCells_at off _ _ (by omega) (by omega), hDj j hj]) (fun z hz => h8 z (compact_mem hz))
end Go.User
namespace Sp
def regF (l : List Opd) : List Int := (l.filter fun o => decide (o.1 = 2)).map fun o => o.2.1
end Sp
namespace Go.User
open Go.Lf
def places : List (FuncId × VSpec) := [(73, vSort), (74, vCmp)]
def C70 : Ctx := mkC 25 []
def L70 (x : aN S70.args) : List aW := [{ ι := Nat, inv := fun i => i <= List.length x.1, dec := fun i => List.length x.1 - i, ovr := fun i => [(8, .shr tI (i : Int)), (7, .shr tI (List.length x.1 : Int)), (3, .own (.slice tI) (.own .shr) (Sp.regF (List.take i x.1)))], keep := [6] }]
end Go.User
namespace Go.User
open Go.Proofs Go.Lf
set_option maxRecDepth 100000
theorem vc70 : (c9 C70 (stpV places C70) S70 L70 Try.f70) = (
let q0 : Prop := (True /\ True) /\ True;
let q1 : Prop := True /\ True /\ True;
let q2 : Prop := True /\ q1;
let q3 : Prop := q2 /\ True;
let q4 : Int := (0 : Int);
let q5 : Sp.Opd := (q4, q4, q4, ());
let q6 : Int := (1 : Int);
let q7 : Nat := (1000000 : Nat);
∀ (x : List Sp.Opd × Unit),
 let q8 : Nat := x.1.length;
 let q9 : Int := (↑q8 : Int);
 let q10 : Prop := q9 = q9;
 let q11 : Prop := x.1 = x.1 /\ True;
 q8 <= (3 : Nat) ->
 aB aQ.slice x.1 /\ True ->
 q0 /\
 q0 /\
 q3 /\
 (∃ (x_1 : Nat), x_1 <= q8 /\ q4 = (↑x_1 : Int) /\ q10 /\ Sp.regF (List.take x_1 x.1) = ([] : List tI.den) /\ q11) /\
 ∀ (x_1 : Nat),
 let q12 : List Int := Sp.regF (List.take x_1 x.1);
 let q13 : Bool := decide ((↑x_1 : Int) < q9);
 let q14 : Sp.Opd := x.1.getD (↑x_1 : Int).toNat q5;
 let q15 : Bool := q14.1 == (2 : Int);
 let q16 : Nat := q12.length;
 let q17 : List Int := q14.2.1 :: ([] : List tI.den);
 let q18 : Int := (↑x_1 : Int) + q6;
 let q19 : Prop := (inK IntKind.i64 q18 /\ True /\ True) /\ True;
 let q20 : List Int := q12.mergeSort fun (a b : Int) => decide (a <= b);
 let q21 : Nat := q20.length;
 x_1 <= q8 -> aB tI (↑x_1 : Int) /\ aB tI q9 /\ aB tI.slice q12 /\ True -> q0 /\ (q13 = true -> ((inN (↑x_1 : Int) q8 /\ q1) /\ True /\ True) /\ q3 /\ (q15 = true -> ((True /\ q2) /\ (↑(q16 + q17.length) : Int) <= maxNew /\ True /\ True) /\ q19 /\ ∃ (y : Nat), y <= q8 /\ q8 - y < q8 - x_1 /\ q18 = (↑y : Int) /\ q10 /\ q12 ++ q17 = Sp.regF (List.take y x.1) /\ q11) /\ (q15 = false -> q19 /\ ∃ (y : Nat), y <= q8 /\ q8 - y < q8 - x_1 /\ q18 = (↑y : Int) /\ q10 /\ q12 = Sp.regF (List.take y x.1) /\ q11)) /\ (q13 = false -> ((True /\ True) /\ q16 <= q7 /\ True) /\ ((True /\ True) /\ q21 <= q7 /\ True /\ True) /\ List.map (fun (x : Nat) => q20.toArray[x]!) (List.filter (fun (j : Nat) => decide (j = (0 : Nat) ∨ q20.toArray[j]! ≠ q20.toArray[j - (1 : Nat)]!)) (List.range q21)) = Sp.regL x.1 (([] : List Int)))) := by kernel_rfl
end Go.User
namespace Sp
def aV (l : List Inst) (n : Nat) : Inst := l.getD n inst0
def ldB (l : List Inst) (n : Nat) : Bool := decide (opI (aV l n) = 7)
def dL (dep : Inst -> Inst -> Bool) (l : List Inst) (out : List Int) (n : Nat) : Bool := !mem out (n : Int) && (List.range n).all fun i => mem out (i : Int) || !dep (aV l i) (aV l n)
def nxS (rdy ld : Nat -> Bool) : Nat -> Int
 | 0 => -1
 | k + 1 => if (rdy k && (decide (nxS rdy ld k < 0) || ld k && !ld (nxS rdy ld k).toNat)) = true then (k : Int) else nxS rdy ld k
def d5 (dep : Inst -> Inst -> Bool) (l : List Inst) (out : List Int) : Int := nxS (dL dep l out) (ldB l) l.length
def cY (f : List Int -> Int) : Nat -> List Int
 | 0 => []
 | k + 1 => cY f k ++ [f (cY f k)]
def lstO (dep : Inst -> Inst -> Bool) (l : List Inst) : List Int := cY (d5 dep l) l.length
def xAt (x : List Int) (n : Nat) : Int := x.getD n 0
def badP (dep : Inst -> Inst -> Bool) (l : List Inst) (x : List Int) (i j : Nat) : Bool := decide (i < j) && decide (xAt x j < xAt x i) && dep (aV l (xAt x i).toNat) (aV l (xAt x j).toNat)
def eE (dep : Inst -> Inst -> Bool) (l : List Inst) (x : List Int) : Bool :=
 decide (x.length = l.length) && ((List.range l.length).all fun n => mem x (n : Int)) && (List.range x.length).all fun i => (List.range x.length).all fun j => !badP dep l x i j
def fC (l : List Inst) (x : List Int) : List Inst := x.map fun k => aV l k.toNat
def aH (c : Code) (b : Nat) : Block := (cB c).getD b blk0
def cF (X : List (List Int)) (b : Nat) : List Int := X.getD b []
def reoK (c : Code) (X : List (List Int)) (b : Nat) : Block := (fC (aH c b).1 (cF X b), (aH c b).2)
def reoN (c : Code) (X : List (List Int)) (n : Nat) : List Block := (List.range (cB c).length).map fun b => if b < n then reoK c X b else aH c b
def reoC (c : Code) (X : List (List Int)) : Code := fK c (reoN c X (cB c).length)
def reoM (c : Code) (X : List (List Int)) (n k : Nat) : List Block := (reoN c X n).set n (fC (aH c n).1 ((cF X n).take k), (aH c n).2)
def rgtA (dep : Code -> Inst -> Inst -> Bool) (c : Code) (X : List (List Int)) : Bool := decide (X.length = (cB c).length) && (List.range (cB c).length).all fun b => eE (dep c) (aH c b).1 (cF X b)
noncomputable def chkR (c d : Code) (X : List (List Int)) : Int := if (rgtA bM c X && gC (reoC c X) d) = true then 0 else 100
def depQ (c : Code) (i j : Inst) : Bool := aY c j i
noncomputable def chkP (c d : Code) (X : List (List Int)) : Int := if (rgtA depQ c X && gC (reoC c X) d) = true then 0 else 100
def xsR (dep : Code -> Inst -> Inst -> Bool) (c : Code) (n : Nat) : List (List Int) := ((cB c).take n).map fun b => lstO (dep c) b.1
def eW (dep : Code -> Inst -> Inst -> Bool) (c : Code) : List (List Int) := (cB c).map fun b => lstO (dep c) b.1
def runC (dep : Code -> Inst -> Inst -> Bool) (c : Code) : Code := reoC c (eW dep c)
def mskI (dep : Inst -> Inst -> Bool) (l : List Inst) (i : Nat) : List Bool := (List.range i).map fun j => dep (aV l j) (aV l i)
def mskL (dep : Inst -> Inst -> Bool) (l : List Inst) : List (List Bool) := (List.range l.length).map fun i => mskI dep l i
def doneL (out : List Int) (n : Nat) : List Bool := (List.range n).map fun (i : Nat) => mem out (i : Int)
def atL (x : List Int) (n k : Nat) : List Int := (List.range n).map fun (i : Nat) => if (i : Int) ∈ x.take k then (((x.take k).idxOf (i : Int) : Nat) : Int) else -1
def slI (b : Int) (i : Nat) : List Inst := if i % 2 = 0 then [(12, 0, Int.tmod b 2, dD, cZ (Int.tmod (i : Int) 6), dD, dD, ()), (11, 0, Int.tmod b 2, cZ (Int.tmod ((i : Int) + 1) 6), dD, dD, dD, ())] else []
def slL (b : Int) (l : List Inst) : Nat -> List Inst
 | 0 => []
 | k + 1 => slL b l k ++ [aV l k] ++ slI b k
def slB (c : Code) (n : Nat) : List Block := (List.range (cB c).length).map fun b => if b < n then (slL (b : Int) (aH c b).1 (aH c b).1.length, (aH c b).2) else aH c b
def setSl (c : Code) (n : Int) : Code := (c.1, c.2.1, c.2.2.1, n, c.2.2.2.2)
def sloC (L : List Int) : Code := fK (setSl (bQ L) 2) (slB (bQ L) (cB (bQ L)).length)
end Sp
namespace Go.User
open Go.Lf
noncomputable section
def lOK (c : Sp.Code) (l : List Sp.Inst) : Prop := l.length <= 3000 /\ ∀ i ∈ l, gA c i
def vOK (c : Sp.Code) : Prop := codeOK 3000 c /\ ∀ b ∈ Sp.cB c, ∀ i ∈ b.1, gA c i
def S53 : bG := { args := [.val bT, .val (.slice aL), .val (.slice tI), .val tI], multi := false, res := .bool, mode := .shr, pre := fun x => lOK x.1 x.2.1 /\ 0 <= x.2.2.2.1 /\ x.2.2.2.1 < (List.length x.2.1 : Int), fn := fun x => Sp.dL (Sp.bM x.1) x.2.1 x.2.2.1 (Int.toNat x.2.2.2.1) }
def C53 : Ctx := mkC 34 [(38, S38), (15, S15)]
def L53 (x : aN S53.args) : List aW := [{ ι := Nat, inv := fun i => i <= Int.toNat x.2.2.2.1 /\ ((List.range i).all fun i => Sp.mem x.2.2.1 (i : Int) || !Sp.bM x.1 (Sp.aV x.2.1 i) (Sp.aV x.2.1 (Int.toNat x.2.2.2.1))) = true, dec := fun i => Int.toNat x.2.2.2.1 - i, ovr := fun i => [(9, .shr tI (i : Int))], keep := [4, 1, 2, 3] }]
def S29 : bG := { args := [.val bT, .val (.slice aL)], multi := false, res := .slice tI, mode := .shr, pre := fun x => lOK x.1 x.2.1, fn := fun x => Sp.lstO (Sp.bM x.1) x.2.1 }
def C29 : Ctx := mkC 53 [(53, S53)]
def L29 (x : aN S29.args) : List aW := [
 {ι := Nat, inv := fun k => k <= List.length x.2.1, dec := fun k => List.length x.2.1 - k, ovr := fun k => [(5, .own (.slice tI) (.own .shr) (Sp.cY (Sp.d5 (Sp.bM x.1) x.2.1) k))], keep := [2, 1], sub := fun k => [{ ι := Nat, inv := fun n => n <= List.length x.2.1, dec := fun n => List.length x.2.1 - n, ovr := fun n => [(6, .shr tI (Sp.nxS (Sp.dL (Sp.bM x.1) x.2.1 (Sp.cY (Sp.d5 (Sp.bM x.1) x.2.1) k)) (Sp.ldB x.2.1) n)), (7, .shr tI (n : Int))], keep := [2, 1, 5] }] }]
def S44 : bG := { args := [.val bT, .val (.slice aL), .val (.slice tI)], multi := false, res := .bool, mode := .shr, pre := fun x => lOK x.1 x.2.1, fn := fun x => Sp.eE (Sp.bM x.1) x.2.1 x.2.2.1 }
def C44 : Ctx := mkC 66 [(38, S38), (15, S15)]
def L44 (x : aN S44.args) : List aW := [
 {ι := Nat, inv := fun n => n <= List.length x.2.1 /\ List.length x.2.2.1 = List.length x.2.1 /\ ((List.range n).all fun n => Sp.mem x.2.2.1 (n : Int)) = true, dec := fun n => List.length x.2.1 - n, ovr := fun n => [(7, .shr tI (n : Int))], keep := [3, 1, 2] },
 {ι := Nat, inv := fun i => i <= List.length x.2.1 /\ List.length x.2.2.1 = List.length x.2.1 /\ ((List.range (List.length x.2.1)).all fun n => Sp.mem x.2.2.1 (n : Int)) = true /\ ((List.range i).all fun i => (List.range (List.length x.2.2.1)).all fun j => !Sp.badP (Sp.bM x.1) x.2.1 x.2.2.1 i j) = true, dec := fun n => List.length x.2.1 - n, ovr := fun n => [(8, .shr tI (n : Int))], keep := [3, 1, 2], sub := fun i => [{ ι := Nat, inv := fun j => i + 1 <= j /\ j <= List.length x.2.1 /\ ((List.range j).all fun j => !Sp.badP (Sp.bM x.1) x.2.1 x.2.2.1 i j) = true, dec := fun n => List.length x.2.1 - n, ovr := fun n => [(9, .shr tI (n : Int))], keep := [3, 1, 2, 8] }] }]
def S43 : bG := { args := [.val (.slice aL), .val (.slice tI)], multi := false, res := .slice aL, mode := .shr, pre := fun x => List.length x.2.1 <= 5000 /\ ∀ k ∈ (x.2.1 : List Int), 0 <= k /\ k < (List.length x.1 : Int), fn := fun x => Sp.fC x.1 x.2.1 }
def C43 : Ctx := mkC 27 []
def L43 (x : aN S43.args) : List aW := [{ ι := Nat, inv := fun i => i <= List.length x.2.1, dec := fun i => List.length x.2.1 - i, ovr := fun i => [(13, .shr tI (i : Int)), (12, .shr tI (List.length x.2.1 : Int)), (5, .own (.slice aL) (.own .shr) (Sp.fC x.1 (List.take i x.2.1) ++ List.replicate (List.length x.2.1 - i) Sp.inst0))], keep := [11, 0, 1] }]
def orOK (c : Sp.Code) (X : List (List Int)) : Prop := ∀ b, b < (Sp.cB c).length -> b < X.length /\ (Sp.cF X b).length <= 3000 /\ ∀ k ∈ Sp.cF X b, 0 <= k /\ k < ((Sp.aH c b).1.length : Int)
def S23 : bG := { args := [.val bT, .val fW], multi := false, res := bT, mode := .shr, pre := fun x => codeOK 3000 x.1 /\ orOK x.1 x.2.1.1, fn := fun x => Sp.reoC x.1 x.2.1.1 }
def C23 : Ctx := { mkC 63 [(20, S20)] with mds := [(4, .shr), (5, mCp)], fzs := [5] }
def L23 (x : aN S23.args) : List aW := [
 {ι := Nat, inv := fun b => b <= (Sp.cB x.1).length, dec := fun b => (Sp.cB x.1).length - b, ovr := fun b => [(5, .box bT mCp (Sp.fK x.1 (Sp.reoN x.1 x.2.1.1 b))), (6, .shr tI (b : Int))], keep := [2, 3, 4], sub := fun b => [{ ι := Nat, inv := fun k => k <= (Sp.cF x.2.1.1 b).length, dec := fun k => (Sp.cF x.2.1.1 b).length - k, ovr := fun k => [(5, .box bT mCp (Sp.fK x.1 (Sp.reoM x.1 x.2.1.1 b k))), (7, .shr tI (k : Int))], keep := [2, 3, 4, 6] }] }]
def S11 : bG := { args := [.val bT], multi := false, res := tDone, mode := .shr, pre := fun x => vOK x.1, fn := fun x => (Sp.runC Sp.bM x.1, (Sp.eW Sp.bM x.1, ()), ()) }
def C11 : Ctx := { mkC 31 [(29, S29), (23, S23)] with mds := [(2, .shr), (3, .pair (.own .shr) .shr)], fzs := [3] }
def L11 (x : aN S11.args) : List aW := [{ ι := Nat, inv := fun b => b <= (Sp.cB x.1).length, dec := fun b => (Sp.cB x.1).length - b, ovr := fun b => [(3, .box fW (.pair (.own .shr) .shr) (Sp.xsR Sp.bM x.1 b, ())), (4, .shr tI (b : Int))], keep := [1, 2] }]
def S19 : bG := { args := [.val bT, .val bT, .val fW], multi := false, res := tI, mode := .shr, pre := fun x => vOK x.1, fn := fun x => Sp.chkR x.1 x.2.1 x.2.2.1.1 }
def C19 : Ctx := mkC 42 [(44, S44), (13, S13), (23, S23)]
def L19 (x : aN S19.args) : List aW := [{ ι := Nat, inv := fun b => b <= (Sp.cB x.1).length /\ List.length x.2.2.1.1 = (Sp.cB x.1).length /\ ((List.range b).all fun b => Sp.eE (Sp.bM x.1) (Sp.aH x.1 b).1 (Sp.cF x.2.2.1.1 b)) = true, dec := fun b => (Sp.cB x.1).length - b, ovr := fun b => [(7, .shr tI (b : Int))], keep := [3, 4, 5] }]
def S65 : bG := { args := [.val bT, .val (.slice aL)], multi := false, res := .slice (.slice .bool), mode := .shr, pre := fun x => lOK x.1 x.2.1, fn := fun x => Sp.mskL (Sp.aY x.1) x.2.1 }
def S59 : bG := { args := [.val bT, .val (.slice aL)], multi := false, res := .slice tI, mode := .shr, pre := fun x => lOK x.1 x.2.1, fn := fun x => Sp.lstO (Sp.aY x.1) x.2.1 }
def C59 : Ctx := mkC 70 [(65, S65)]
def T59 (x : aN S59.args) : KT :=
 let f := Sp.d5 (Sp.aY x.1) x.2.1
 let n := List.length x.2.1
 .s (.i []) (.s (.i []) (.s (.i []) (.s (.i []) (.s (.b (.l
  {ι := Nat, inv := fun k => k <= n, dec := fun k => n - k, ovr := fun k => [(7, .own (.slice tI) (.own .shr) (Sp.cY f k)), (6, .own (.slice .bool) (.own .shr) (Sp.doneL (Sp.cY f k) n))], keep := [1, 5, 2] }
  (fun k =>
   let rdy := Sp.dL (Sp.aY x.1) x.2.1 (Sp.cY f k)
   .s (.i []) (.b (.o (.s (.i []) (.s .m (.c
    {ι := Unit, inv := fun _ => True, dec := fun _ => 0, ovr := fun _ => [(8, .shr tI (f (Sp.cY f k)))], keep := [1, 2, 5, 6, 7] }
    (.i [{ ι := Nat, inv := fun i => i <= n /\ ∀ k, k < i -> ¬(rdy k = true /\ Sp.ldB x.2.1 k = true), dec := fun i => n - i, ovr := fun i => [(25, .shr tI (i : Int)), (24, .shr tI (n : Int)), (8, .shr tI (Sp.nxS rdy (Sp.ldB x.2.1) i))], keep := [1, 2, 5, 6, 7], sub := fun i => [{ ι := Nat, inv := fun j => j <= i /\ ((List.range j).all fun j => Sp.mem (Sp.cY f k) (j : Int) || !Sp.aY x.1 (Sp.aV x.2.1 j) (Sp.aV x.2.1 i)) = true, dec := fun j => i - j, ovr := fun j => [(37, .shr tI (j : Int)), (36, .shr tI (i : Int))], keep := [1, 2, 5, 6, 7, 8, 9, 24, 25, 35] }] }])
    (fun _ => .i []))))))))) (.i [])))))
def S41 : bG := { args := [.val bT, .val (.slice aL), .val (.slice tI)], multi := false, res := .bool, mode := .shr, pre := fun x => lOK x.1 x.2.1, fn := fun x => Sp.eE (Sp.depQ x.1) x.2.1 x.2.2.1 }
def C41 : Ctx := mkC 89 [(65, S65)]
def perOK (x : List Int) (n : Nat) : Prop := x.Nodup /\ ∀ k ∈ x, 0 <= k /\ k < (n : Int)
def L41 (x : aN S41.args) : List aW := [
 {ι := Nat, inv := fun k => k <= List.length x.2.1, dec := fun k => List.length x.2.1 - k, ovr := fun k => [(20, .shr tI (k : Int)), (19, .shr tI (List.length x.2.1 : Int)), (7, .own (.slice tI) (.own .shr) (List.replicate k (-1 : Int) ++ List.replicate (List.length x.2.1 - k) (0 : Int)))], keep := [3, 1, 2] },
 {ι := Nat, inv := fun k => k <= List.length x.2.2.1 /\ perOK (List.take k x.2.2.1) (List.length x.2.1), dec := fun k => List.length x.2.2.1 - k, ovr := fun k => [(29, .shr tI (k : Int)), (28, .shr tI (List.length x.2.2.1 : Int)), (7, .own (.slice tI) (.own .shr) (Sp.atL x.2.2.1 (List.length x.2.1) k))], keep := [27, 3, 1, 2] },
 {ι := Nat, inv := fun i => i <= List.length x.2.1 /\ ∀ k, k < i -> ∀ j, j < k -> Sp.aY x.1 (Sp.aV x.2.1 j) (Sp.aV x.2.1 k) = true -> Sp.xAt (Sp.atL x.2.2.1 (List.length x.2.1) (List.length x.2.2.1)) j <= Sp.xAt (Sp.atL x.2.2.1 (List.length x.2.1) (List.length x.2.2.1)) k, dec := fun i => List.length x.2.1 - i, ovr := fun i => [(63, .shr tI (i : Int)), (62, .shr tI (List.length x.2.1 : Int))], keep := [61, 7, 3, 1, 2], sub := fun i => [{ ι := Nat, inv := fun j => j <= i /\ ∀ k, k < j -> Sp.aY x.1 (Sp.aV x.2.1 k) (Sp.aV x.2.1 i) = true -> Sp.xAt (Sp.atL x.2.2.1 (List.length x.2.1) (List.length x.2.2.1)) k <= Sp.xAt (Sp.atL x.2.2.1 (List.length x.2.1) (List.length x.2.2.1)) i, dec := fun j => i - j, ovr := fun j => [(70, .shr tI (j : Int)), (69, .shr tI (i : Int))], keep := [68, 61, 62, 63, 7, 11, 12, 3, 1, 2] }] }]
abbrev mRun : Md := .pair .shr (.pair .shr (.pair .shr (.pair .shr (.pair .shr (.pair (.own .shr) (.pair (.own .shr) (.pair (.own .shr) .shr)))))))
def S28 : bG := { args := [.val bT], multi := true, res := .prod bT (.prod fW .unit), mode := .shr, pre := fun x => vOK x.1, fn := fun x => (Sp.runC Sp.aY x.1, (Sp.eW Sp.aY x.1, ()), ()) }
def C28 : Ctx := { mkC 57 [(56, S56), (57, S57), (58, S58), (59, S59), (43, S43)] with mds := [(2, .shr), (3, .shr), (4, .pair (.own .shr) .shr), (5, mRun)], fzs := [4, 5] }
def L28 (x : aN S28.args) : List aW := [{ ι := Nat, inv := fun b => b <= (Sp.cB x.1).length, dec := fun b => (Sp.cB x.1).length - b, ovr := fun b => [(24, .shr tI (b : Int)), (23, .shr tI ((Sp.cB x.1).length : Int)), (4, .box fW (.pair (.own .shr) .shr) (Sp.xsR Sp.aY x.1 b, ())), (5, .box bT mRun (Sp.fK x.1 (Sp.reoN x.1 (Sp.eW Sp.aY x.1) b)))], keep := [1, 2, 3] }]
def S18 : bG := { args := [.val bT, .val bT, .val fW], multi := false, res := tI, mode := .shr, pre := fun x => vOK x.1, fn := fun x => Sp.chkP x.1 x.2.1 x.2.2.1.1 }
def C18 : Ctx := mkC 131 [(39, S39), (40, S40), (41, S41), (42, S42), (43, S43)]
def L18 (x : aN S18.args) : List aW := [{ ι := Nat, inv := fun b => b <= (Sp.cB x.1).length /\ Sp.headB x.1 x.2.1 = true /\ (Sp.cB x.2.1).length = (Sp.cB x.1).length /\ List.length x.2.2.1.1 = (Sp.cB x.1).length /\ ∀ k, k < b -> Sp.eE (Sp.depQ x.1) (Sp.aH x.1 k).1 (Sp.cF x.2.2.1.1 k) = true /\ Sp.reoK x.1 x.2.2.1.1 k = Sp.aH x.2.1 k, dec := fun b => (Sp.cB x.1).length - b, ovr := fun b => [(80, .shr tI (b : Int)), (79, .shr tI ((Sp.cB x.1).length : Int))], keep := [3, 4, 5] }]
def S27 : bG := { args := [.val tRaw], multi := false, res := bT, mode := .shr, pre := fun _ => True, fn := fun x => Sp.sloC x.1.1 }
def C27 : Ctx := { mkC 68 [(20, S20), (21, S21), (54, S54)] with mds := [(2, .shr), (3, mCp)], fzs := [3] }
def L27 (x : aN S27.args) : List aW := [
 {ι := Nat, inv := fun b => b <= (Sp.cB (Sp.bQ x.1.1)).length, dec := fun b => (Sp.cB (Sp.bQ x.1.1)).length - b, ovr := fun b => [(3, .box bT mCp (Sp.fK (Sp.setSl (Sp.bQ x.1.1) 2) (Sp.slB (Sp.bQ x.1.1) b))), (4, .shr tI (b : Int))], keep := [1, 2], sub := fun b => [{ ι := Nat, inv := fun i => i <= (Sp.aH (Sp.bQ x.1.1) b).1.length, dec := fun i => (Sp.aH (Sp.bQ x.1.1) b).1.length - i, ovr := fun i => [(5, .own (.slice aL) (.own .shr) (Sp.slL (b : Int) (Sp.aH (Sp.bQ x.1.1) b).1 i)), (6, .shr tI (i : Int))], keep := [1, 2, 3, 4] }] }]
end
end Go.User
namespace Sp
theorem bC {f : Nat -> Bool} {n : Nat} : (List.range n).all f = true ↔ ∀ i, i < n -> f i = true := by
 rw [List.all_eq_true]
 exact ⟨fun h i hi => h i (List.mem_range.2 hi), fun h i hi => h i (List.mem_range.1 hi)⟩
theorem mem_of (l : List Int) (n : Int) : mem l n = true ↔ n ∈ l := decide_eq_true_iff
theorem nmem_of {l : List Int} {n : Int} (h : mem l n = false) : n ∉ l := fun e => by rw [(mem_of l n).2 e] at h; cases h
theorem rdyB_iff (dep : Inst -> Inst -> Bool) (l : List Inst) (out : List Int) (n : Nat) : dL dep l out n = true ↔ (n : Int) ∉ out /\ ∀ i, i < n -> (i : Int) ∈ out ∨ dep (aV l i) (aV l n) = false := by
 unfold dL
 rw [Bool.and_eq_true, bC]
 refine and_congr ?_ ?_
 ·rw [Bool.not_eq_true', <- Bool.not_eq_true, mem_of]
 ·refine forall_congr' fun i => imp_congr Iff.rfl ?_
  rw [Bool.or_eq_true, mem_of, Bool.not_eq_true']
theorem nxS_bd (rdy ld : Nat -> Bool) : ∀ k, -1 <= nxS rdy ld k /\ nxS rdy ld k < (k : Int)
 | 0 => ⟨Int.le_refl _, by show (-1 : Int) < 0; decide⟩
 | k + 1 => by
  have := nxS_bd rdy ld k
  show -1 <= (if _ then _ else _) /\ (if _ then _ else _) < _
  split <;> omega
theorem nxS_spec (rdy ld : Nat -> Bool) : ∀ k, (nxS rdy ld k = -1 /\ ∀ i, i < k -> rdy i = false) ∨
  ∃ m, m < k /\ nxS rdy ld k = (m : Int) /\ rdy m = true /\ ((ld m = true /\ ∀ i, i < m -> ¬(rdy i = true /\ ld i = true)) ∨ (ld m = false /\ (∀ i, i < k -> rdy i = true -> ld i = false) /\ ∀ i, i < m -> rdy i = false))
 | 0 => .inl ⟨rfl, fun i hi => by omega⟩
 | k + 1 => by
  have e : nxS rdy ld (k + 1) = if (rdy k && (decide (nxS rdy ld k < 0) || ld k && !ld (nxS rdy ld k).toNat)) = true then (k : Int) else nxS rdy ld k := rfl
  rcases nxS_spec rdy ld k with ⟨h1, h2⟩ | ⟨m, hm, h1, h2, h3⟩
  ·rw [h1] at e
   cases hr : rdy k
   ·left
    refine ⟨by rw [e, hr]; rfl, fun i hi => ?_⟩
    rcases Nat.lt_succ_iff_lt_or_eq.1 hi with h | h
    ·exact h2 i h
    ·rw [h]; exact hr
   ·right
    refine ⟨k, Nat.lt_succ_self k, by rw [e, hr]; rfl, hr, ?_⟩
    cases hl : ld k
    ·refine .inr ⟨rfl, fun i hi hri => ?_, h2⟩
     rcases Nat.lt_succ_iff_lt_or_eq.1 hi with h | h
     ·rw [h2 i h] at hri; cases hri
     ·rw [h]; exact hl
    ·refine .inl ⟨rfl, fun i hi hri => ?_⟩
     rw [h2 i hi] at hri;cases hri.1
  ·rw [h1] at e
   have hn : ¬ ((m : Int) < 0) := by omega
   rw [decide_eq_false hn, Bool.false_or, Int.toNat_natCast] at e;cases hc : (rdy k && (ld k && !ld m))
   ·rw [hc] at e
    right
    refine ⟨m, by omega, e, h2, ?_⟩
    rcases h3 with h3 | ⟨g1, g2, g3⟩
    ·exact .inl h3
    ·refine .inr ⟨g1, fun i hi hri => ?_, g3⟩
     rcases Nat.lt_succ_iff_lt_or_eq.1 hi with h | h
     ·exact g2 i h hri
     ·rw [h] at hri ⊢
      rw [hri, g1] at hc
      simpa using hc
   ·rw [hc] at e
    simp only [Bool.and_eq_true, Bool.not_eq_true'] at hc;obtain ⟨c1, c2, c3⟩ := hc;right;refine ⟨k, Nat.lt_succ_self k, e, c1, .inl ⟨c2, fun i hi hri => ?_⟩⟩
    rcases h3 with ⟨g1, _⟩ | ⟨g1, g2, g3⟩
    ·rw [g1] at c3; cases c3
    ·rw [g2 i hi hri.1] at hri
     cases hri.2
theorem nxS_stay (rdy ld : Nat -> Bool) {i : Nat} (h1 : rdy i = true) (h2 : ld i = true) (h3 : ∀ k, k < i -> ¬(rdy k = true /\ ld k = true)) : ∀ k, i < k -> nxS rdy ld k = (i : Int) := by
 intro k hk
 rcases nxS_spec rdy ld k with ⟨g1, g2⟩ | ⟨m, hm, g1, g2, g3⟩
 ·rw [g2 i hk] at h1; cases h1
 ·rw [g1]
  rcases g3 with ⟨k1, k2⟩ | ⟨k1, k2, k3⟩
  ·rcases Nat.lt_trichotomy m i with h | h | h
   ·exact absurd ⟨g2, k1⟩ (h3 m h)
   ·rw [h]
   ·exact absurd ⟨h1, h2⟩ (k2 i h)
  ·rw [k2 i hk h1] at h2; cases h2
theorem fG (f : List Int -> Int) : ∀ k, (cY f k).length = k
 | 0 => rfl
 | k + 1 => by
  show (cY f k ++ [f (cY f k)]).length = k + 1
  rw [List.length_append, fG f k]; rfl
theorem lstO_len (dep : Inst -> Inst -> Bool) (l : List Inst) : (lstO dep l).length = l.length := fG _ _
theorem some_missing {out : List Int} {n : Nat} (h : out.length < n) : ∃ i, i < n /\ (i : Int) ∉ out /\ ∀ j, j < i -> (j : Int) ∈ out := by
 have hex : ∃ i, i < n /\ (i : Int) ∉ out := by
  apply Classical.byContradiction
  intro hne;have hall : ∀ i, i < n -> (i : Int) ∈ out := fun i hi => Classical.byContradiction fun hc => hne ⟨i, hi, hc⟩
  have hnd : ((List.range n).map fun (i : Nat) => (i : Int)).Nodup := by
   unfold List.Nodup;exact List.pairwise_map.2 (List.Pairwise.imp (fun h => by omega) (List.nodup_range (n := n)))
  have := hnd.length_le_of_subset (l₂ := out) (by
   intro v hv;obtain ⟨i, hi, rfl⟩ := List.mem_map.1 hv;exact hall i (List.mem_range.1 hi))
  rw [List.length_map, List.length_range] at this;omega
 obtain ⟨i, hi⟩ := hex
 induction i using Nat.strongRecOn with
 | ind i ih =>
  rcases Classical.em (∃ j, j < i /\ (j : Int) ∉ out) with ⟨j, hj, hjo⟩ | hno
  ·exact ih j hj ⟨by omega, hjo⟩
  ·exact ⟨i, hi.1, hi.2, fun j hj => Classical.byContradiction fun hc => hno ⟨j, hj, hc⟩⟩
theorem some_ready (dep : Inst -> Inst -> Bool) (l : List Inst) {out : List Int} {n : Nat} (h : out.length < n) : ∃ i, i < n /\ dL dep l out i = true := by
 obtain ⟨i, h1, h2, h3⟩ := some_missing h
 exact ⟨i, h1, (rdyB_iff dep l out i).2 ⟨h2, fun j hj => .inl (h3 j hj)⟩⟩
theorem stpO_spec (dep : Inst -> Inst -> Bool) (l : List Inst) {out : List Int} (h : out.length < l.length) : ∃ m, m < l.length /\ d5 dep l out = (m : Int) /\ dL dep l out m = true /\
  ((ldB l m = true /\ ∀ i, i < m -> ¬(dL dep l out i = true /\ ldB l i = true)) ∨ (ldB l m = false /\ (∀ i, i < l.length -> dL dep l out i = true -> ldB l i = false) /\ ∀ i, i < m -> dL dep l out i = false)) := by
 rcases nxS_spec (dL dep l out) (ldB l) l.length with ⟨g1, g2⟩ | h
 ·obtain ⟨i, h1, h2⟩ := some_ready dep l h
  rw [g2 i h1] at h2; cases h2
 ·exact h
theorem ordN_ok (dep : Inst -> Inst -> Bool) (l : List Inst) : ∀ k, k <= l.length -> (cY (d5 dep l) k).Nodup /\ ∀ v ∈ cY (d5 dep l) k, 0 <= v /\ v < (l.length : Int)
 | 0, _ => ⟨List.nodup_nil, fun v hv => (List.not_mem_nil hv).elim⟩
 | k + 1, hk => by
  obtain ⟨h1, h2⟩ := ordN_ok dep l k (by omega);obtain ⟨m, hm, e, hr, _⟩ := stpO_spec dep l (out := cY (d5 dep l) k) (by rw [fG]; omega);have hn := ((rdyB_iff dep l _ m).1 hr).1;show (cY (d5 dep l) k ++ [d5 dep l (cY (d5 dep l) k)]).Nodup /\ ∀ v ∈ cY (d5 dep l) k ++ [d5 dep l (cY (d5 dep l) k)], _;rw [e];refine ⟨List.nodup_append.2 ⟨h1, List.nodup_cons.2 ⟨List.not_mem_nil, List.nodup_nil⟩, ?_⟩, ?_⟩
  ·intro a ha b hb hab
   rw [List.mem_singleton] at hb;rw [hab, hb] at ha;exact hn ha
  ·intro v hv
   rcases List.mem_append.1 hv with hv | hv
   ·exact h2 v hv
   ·rw [List.mem_singleton] at hv
    rw [hv]; omega
theorem perm_in : ∀ {n : Nat} {x : List Int}, x.length = n -> (∀ i, i < n -> (i : Int) ∈ x) -> x.Nodup /\ ∀ k ∈ x, 0 <= k /\ k < (n : Int)
 | 0, x, hl, _ => by
  have : x = [] := List.eq_nil_of_length_eq_zero hl
  subst this;exact ⟨List.nodup_nil, fun k hk => (List.not_mem_nil hk).elim⟩
 | n + 1, x, hl, h => by
  have hm := h n (by omega)
  have hp := List.perm_cons_erase hm
  have hlen : (x.erase (n : Int)).length = n := by
   have := hp.length_eq
   simp only [List.length_cons] at this;omega
  have hall : ∀ i, i < n -> (i : Int) ∈ x.erase (n : Int) := by
   intro i hi;exact (List.mem_erase_of_ne (by omega)).2 (h i (by omega))
  obtain ⟨h1, h2⟩ := perm_in hlen hall;have hnot : (n : Int) ∉ x.erase (n : Int) := fun hc => by have := h2 _ hc; omega
  refine ⟨hp.nodup_iff.2 (List.nodup_cons.2 ⟨hnot, h1⟩), fun k hk => ?_⟩
  rcases List.mem_cons.1 (hp.mem_iff.1 hk) with rfl | hk
  ·omega
  ·have := h2 k hk; omega
theorem in_perm {n : Nat} {x : List Int} (hl : x.length = n) (hn : x.Nodup) (hr : ∀ k ∈ x, 0 <= k /\ k < (n : Int)) : ∀ i, i < n -> (i : Int) ∈ x := by
 intro i hi
 apply Classical.byContradiction
 intro hc
 have hnd : ((i : Int) :: x).Nodup := List.nodup_cons.2 ⟨hc, hn⟩
 have := hnd.length_le_of_subset (l₂ := (List.range n).map fun (i : Nat) => (i : Int)) (by
  intro v hv;rw [List.mem_map];rcases List.mem_cons.1 hv with rfl | hv
  ·exact ⟨i, List.mem_range.2 hi, rfl⟩
  ·have := hr v hv
   exact ⟨v.toNat, List.mem_range.2 (by omega), by omega⟩)
 rw [List.length_map, List.length_range, List.length_cons] at this
 omega
theorem fE (dep : Inst -> Inst -> Bool) (l : List Inst) (x : List Int) : eE dep l x = true ↔ x.length = l.length /\ (∀ n, n < l.length -> (n : Int) ∈ x) /\ ∀ i, i < x.length -> ∀ j, j < x.length -> badP dep l x i j = false := by
 unfold eE
 rw [Bool.and_eq_true, Bool.and_eq_true, decide_eq_true_iff, bC, bC, and_assoc]
 refine and_congr Iff.rfl (and_congr ?_ ?_)
 ·exact forall_congr' fun n => imp_congr Iff.rfl (mem_of x _)
 ·refine forall_congr' fun i => imp_congr Iff.rfl ?_
  rw [bC];exact forall_congr' fun j => imp_congr Iff.rfl (by rw [Bool.not_eq_true'])
theorem badP_iff (dep : Inst -> Inst -> Bool) (l : List Inst) (x : List Int) (i j : Nat) : badP dep l x i j = true ↔ i < j /\ xAt x j < xAt x i /\ dep (aV l (xAt x i).toNat) (aV l (xAt x j).toNat) = true := by
 unfold badP
 rw [Bool.and_eq_true, Bool.and_eq_true, decide_eq_true_iff, decide_eq_true_iff, and_assoc]
theorem rgtB_perm {dep : Inst -> Inst -> Bool} {l : List Inst} {x : List Int} (h : eE dep l x = true) : x.length = l.length /\ x.Nodup /\ (∀ k ∈ x, 0 <= k /\ k < (l.length : Int)) /\ ∀ n, n < l.length -> (n : Int) ∈ x := by
 obtain ⟨h1, h2, _⟩ := (fE dep l x).1 h
 obtain ⟨h3, h4⟩ := perm_in h1 h2
 exact ⟨h1, h3, h4, h2⟩
theorem dC {c : Code} {b : Nat} (h : b < (cB c).length) : aH c b ∈ cB c := by
 unfold aH
 rw [List.getD_eq_getElem?_getD, List.getElem?_eq_getElem h]
 exact List.getElem_mem h
theorem dG {α : Type} (f : Nat -> α) {n b : Nat} (h : b < n) (d : α) : ((List.range n).map f).getD b d = f b := by
 rw [List.getD_eq_getElem?_getD, List.getElem?_map, List.getElem?_range h]; rfl
theorem dW (c : Code) (X : List (List Int)) (n : Nat) : (reoN c X n).length = (cB c).length := by unfold reoN; rw [List.length_map, List.length_range]
theorem reoN_at (c : Code) (X : List (List Int)) (n : Nat) {b : Nat} (h : b < (cB c).length) (d : Block) : (reoN c X n).getD b d = if b < n then reoK c X b else aH c b := dG _ h d
theorem eK {α : Type} {a b : List α} (d : α) (hl : a.length = b.length) (h : ∀ i, i < a.length -> a.getD i d = b.getD i d) : a = b := by
 apply List.ext_getElem hl
 intro i h1 h2
 have := h i h1
 rwa [List.getD_eq_getElem?_getD, List.getD_eq_getElem?_getD, List.getElem?_eq_getElem h1, List.getElem?_eq_getElem h2] at this
theorem getD_set {α : Type} (a : List α) (i j : Nat) (v d : α) (hi : i < a.length) : (a.set i v).getD j d = if i = j then v else a.getD j d := by
 rw [List.getD_eq_getElem?_getD, List.getD_eq_getElem?_getD, List.getElem?_set]
 split
 ·rfl
 ·rfl
theorem reoN_zero (c : Code) (X : List (List Int)) : reoN c X 0 = cB c := by
 refine eK blk0 (dW c X 0) fun b hb => ?_
 rw [dW] at hb
 rw [reoN_at c X 0 hb, if_neg (by omega)]; rfl
theorem reoN_succ (c : Code) (X : List (List Int)) {n : Nat} (h : n < (cB c).length) : reoN c X (n + 1) = (reoN c X n).set n (reoK c X n) := by
 refine eK blk0 (by rw [List.length_set, dW, dW]) fun b hb => ?_
 rw [dW] at hb
 rw [reoN_at c X (n + 1) hb, getD_set _ _ _ _ _ (by rw [dW]; exact h), reoN_at c X n hb]
 rcases Nat.lt_trichotomy b n with g | g | g
 ·rw [if_pos (by omega), if_neg (by omega), if_pos g]
 ·rw [if_pos (by omega), if_pos g.symm, g]
 ·rw [if_neg (by omega), if_neg (by omega), if_neg (by omega)]
theorem reoM_len (c : Code) (X : List (List Int)) (n k : Nat) : (reoM c X n k).length = (cB c).length := by unfold reoM; rw [List.length_set, dW]
theorem reoM_at (c : Code) (X : List (List Int)) {n : Nat} (k : Nat) (h : n < (cB c).length) (d : Block) : (reoM c X n k).getD n d = (fC (aH c n).1 ((cF X n).take k), (aH c n).2) := by
 unfold reoM
 rw [getD_set _ _ _ _ _ (by rw [dW]; exact h), if_pos rfl]
theorem reoM_zero (c : Code) (X : List (List Int)) {n : Nat} (h : n < (cB c).length) (d : Block) : (reoN c X n).set n ([], ((reoN c X n).getD n d).2) = reoM c X n 0 := by
 unfold reoM
 rw [reoN_at c X n h, if_neg (by omega)]
 rfl
theorem set_set' {α : Type} (a : List α) (i : Nat) (v w : α) : (a.set i v).set i w = a.set i w := List.set_set ..
theorem reoM_succ (c : Code) (X : List (List Int)) {n k : Nat} (h : n < (cB c).length) (hk : (k : Int) < ((cF X n).length : Int)) (d : Block) (dx : Int) (di : Inst) (hdi : di = inst0) :
  (reoM c X n k).set n (((reoM c X n k).getD n d).1 ++ (aH c n).1.getD ((cF X n).getD k dx).toNat di :: [], ((reoM c X n k).getD n d).2) = reoM c X n (k + 1) := by
 rw [reoM_at c X k h]
 have hk' : k < (cF X n).length := by omega
 have e : fC (aH c n).1 ((cF X n).take (k + 1)) = fC (aH c n).1 ((cF X n).take k) ++ (aH c n).1.getD ((cF X n).getD k dx).toNat di :: [] := by
  unfold fC;rw [List.take_add_one, List.getElem?_eq_getElem hk', List.map_append, List.getD_eq_getElem?_getD (l := cF X n), List.getElem?_eq_getElem hk', hdi]
  rfl
 unfold reoM
 rw [set_set', e]
theorem reoM_end (c : Code) (X : List (List Int)) {n k : Nat} (h : n < (cB c).length) (hk : ((cF X n).length : Int) <= (k : Int)) : reoM c X n k = reoN c X (n + 1) := by
 rw [reoN_succ c X h]
 unfold reoM reoK
 rw [List.take_of_length_le (by omega)]
theorem runX_len (dep : Code -> Inst -> Inst -> Bool) (c : Code) : (eW dep c).length = (cB c).length := List.length_map _
theorem runX_at (dep : Code -> Inst -> Inst -> Bool) (c : Code) {b : Nat} (h : b < (cB c).length) : cF (eW dep c) b = lstO (dep c) (aH c b).1 := by
 unfold cF eW aH
 rw [List.getD_eq_getElem?_getD, List.getElem?_map, List.getElem?_eq_getElem h, List.getD_eq_getElem?_getD, List.getElem?_eq_getElem h]
 rfl
theorem xsR_succ (dep : Code -> Inst -> Inst -> Bool) (c : Code) {b : Nat} (h : b < (cB c).length) (d : Block) (hd : d = blk0) : xsR dep c b ++ lstO (dep c) ((cB c).getD b d).1 :: [] = xsR dep c (b + 1) := by
 unfold xsR
 rw [List.take_add_one, List.getElem?_eq_getElem h, List.map_append, List.getD_eq_getElem?_getD, List.getElem?_eq_getElem h]
 rfl
theorem xsR_end (dep : Code -> Inst -> Inst -> Bool) (c : Code) {b : Nat} (h : (cB c).length <= b) : xsR dep c b = eW dep c := by
 unfold xsR eW
 rw [List.take_of_length_le h]
theorem lstO_ok (dep : Inst -> Inst -> Bool) (l : List Inst) : (lstO dep l).Nodup /\ ∀ v ∈ lstO dep l, 0 <= v /\ v < (l.length : Int) := ordN_ok dep l l.length (Nat.le_refl _)
end Sp
namespace Go.User
theorem run_orOK {dep : Sp.Code -> Sp.Inst -> Sp.Inst -> Bool} {c : Sp.Code} (hc : codeOK 3000 c) : orOK c (Sp.eW dep c) := by
 intro b hb
 refine ⟨by rw [Sp.runX_len]; exact hb, ?_, ?_⟩
 ·rw [Sp.runX_at dep c hb, Sp.lstO_len]; exact hc.2.2.2 _ (Sp.dC hb)
 ·rw [Sp.runX_at dep c hb]; exact (Sp.lstO_ok _ _).2
theorem vOK.blk {c : Sp.Code} (h : vOK c) {b : Nat} (hb : b < (Sp.cB c).length) : lOK c (Sp.aH c b).1 := ⟨h.1.2.2.2 _ (Sp.dC hb), h.2 _ (Sp.dC hb)⟩
theorem rgt_orOK {dep : Sp.Code -> Sp.Inst -> Sp.Inst -> Bool} {c : Sp.Code} {X : List (List Int)} (hc : codeOK 3000 c) (hl : X.length = (Sp.cB c).length) (h : ∀ b, b < (Sp.cB c).length -> Sp.eE (dep c) (Sp.aH c b).1 (Sp.cF X b) = true) : orOK c X := by
 intro b hb
 obtain ⟨h1, h2, h3, _⟩ := Sp.rgtB_perm (h b hb)
 exact ⟨by rw [hl]; exact hb, by rw [h1]; exact hc.2.2.2 _ (Sp.dC hb), h3⟩
end Go.User
