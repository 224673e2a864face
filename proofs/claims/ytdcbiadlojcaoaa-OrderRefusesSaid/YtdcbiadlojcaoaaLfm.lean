/- Codes and orders that are equal; registers: what they should. Registers and what an instruction accesses: what they should. slices.Sort and slices.Compact at this program. The registers that an instruction reads, sorted and each once. Written by gen.py: what is left to show of each function. Orders: what is computed. Orders: plain facts. Written by gen.py: what is left to show of each function. Orders: what they should. Orders: masks and places. -/
import Derived.Test.YtdcbiadlojcaoaaLfl
import Derived.Lib.SlicesCompact
set_option linter.unusedVariables false
set_option linter.unusedSimpArgs false
namespace Sp
theorem eqL_step {α : Type} {a b : List α} {i : Nat} {d : α} (hi : (i : Int) < (a.length : Int)) (hl : a.length = b.length) (h : a.take i = b.take i) (e : a.getD i d = b.getD i d) : a.take (i + 1) = b.take (i + 1) := by
 have h1 : i < a.length := by omega
 have h2 : i < b.length := by omega
 rw [List.take_add_one, List.take_add_one, h]
 rw [List.getD_eq_getElem?_getD, List.getD_eq_getElem?_getD, List.getElem?_eq_getElem h1, List.getElem?_eq_getElem h2] at e
 rw [List.getElem?_eq_getElem h1, List.getElem?_eq_getElem h2]
 simp only [Option.getD_some] at e
 rw [e]
theorem eqL_end {α : Type} {a b : List α} {i : Nat} (hi : (a.length : Int) <= (i : Int)) (hl : a.length = b.length) (h : a.take i = b.take i) : a = b := by
 rwa [List.take_of_length_le (by omega), List.take_of_length_le (by omega)] at h
theorem opd_ext {a b : Opd} (h1 : a.1 = b.1) (h2 : a.2.1 = b.2.1) (h3 : a.2.2.1 = b.2.2.1) : a = b := by
 obtain ⟨a1, a2, a3, _⟩ := a
 obtain ⟨b1, b2, b3, _⟩ := b
 dsimp only at h1 h2 h3
 rw [h1, h2, h3]
theorem inst_ext {a b : Inst} (h1 : a.1 = b.1) (h2 : a.2.1 = b.2.1) (h3 : a.2.2.1 = b.2.2.1) (h4 : a.2.2.2.1 = b.2.2.2.1) (h5 : a.2.2.2.2.1 = b.2.2.2.2.1) (h6 : a.2.2.2.2.2.1 = b.2.2.2.2.2.1) (h7 : a.2.2.2.2.2.2.1 = b.2.2.2.2.2.2.1) : a = b := by
 obtain ⟨a1, a2, a3, a4, a5, a6, a7, _⟩ := a
 obtain ⟨b1, b2, b3, b4, b5, b6, b7, _⟩ := b
 dsimp only at h1 h2 h3 h4 h5 h6 h7
 rw [h1, h2, h3, h4, h5, h6, h7]
theorem term_ext {a b : Term} (h1 : a.1 = b.1) (h2 : a.2.1 = b.2.1) (h3 : a.2.2.1 = b.2.2.1) (h4 : a.2.2.2.1 = b.2.2.2.1) (h5 : a.2.2.2.2.1 = b.2.2.2.2.1) (h6 : a.2.2.2.2.2.1 = b.2.2.2.2.2.1) : a = b := by
 obtain ⟨a1, a2, a3, a4, a5, a6, _⟩ := a
 obtain ⟨b1, b2, b3, b4, b5, b6, _⟩ := b
 dsimp only at h1 h2 h3 h4 h5 h6
 rw [h1, h2, h3, h4, h5, h6]
theorem arr_ext {a b : Arr} (h1 : a.1 = b.1) (h2 : a.2.1 = b.2.1) (h3 : a.2.2.1 = b.2.2.1) (h4 : a.2.2.2.1 = b.2.2.2.1) : a = b := by
 obtain ⟨a1, a2, a3, a4, _⟩ := a
 obtain ⟨b1, b2, b3, b4, _⟩ := b
 dsimp only at h1 h2 h3 h4
 rw [h1, h2, h3, h4]
theorem loop_ext {a b : Loop} (h1 : a.1 = b.1) (h2 : a.2.1 = b.2.1) (h3 : a.2.2.1 = b.2.2.1) : a = b := opd_ext h1 h2 h3
theorem eqIns_iff (a b : List Inst) : eqIns a b = true ↔ a = b := by unfold eqIns; exact @decide_eq_true_iff _ (Classical.propDecidable _)
theorem eqArrs_iff (a b : List Arr) : eqArrs a b = true ↔ a = b := decide_eq_true_iff
theorem eqLps_iff (a b : List Loop) : eqLps a b = true ↔ a = b := decide_eq_true_iff
theorem eqInt_iff (a b : List Int) : eqInt a b = true ↔ a = b := decide_eq_true_iff
theorem mem_iff (l : List Int) (n : Int) : mem l n = true ↔ n ∈ l := decide_eq_true_iff
theorem headB_iff (a b : Code) : headB a b = true ↔ a.1 = b.1 /\ a.2.1 = b.2.1 /\ a.2.2.1 = b.2.2.1 /\ a.2.2.2.1 = b.2.2.2.1 /\ a.2.2.2.2.1 = b.2.2.2.2.1 /\ cA a = cA b /\ cL a = cL b := by
 unfold headB
 simp only [Bool.and_eq_true, decide_eq_true_iff, and_assoc]
theorem fa_of {b : Bool} (h : ¬ b = true) : false = b := by cases b <;> simp at h ⊢
theorem tr_of {b : Bool} (h : b = true) : true = b := h.symm
end Sp
namespace Go.User
open Go.Lf Go.Proofs
theorem ok26 : FOk Try.prog 26 S26 := by
 have hC : CtxOK Try.prog C26 := okA fns_nil
 refine FOk.intro hC (stpS_ok hC) Try.call26 Try.func26 (by kernel_rfl) (by kernel_rfl) L26 ?_
 rw [vc26]
 simp only [zz, zy]
 rintro ⟨a, b, u⟩ ⟨ha, hb⟩
 dsimp only
 refine ⟨fun h => Sp.fa_of fun e => h (by rw [(Sp.eqInt_iff a b).1 e]), fun h => ⟨⟨0, ⟨Nat.zero_le _, by have : (List.length a : Int) = (List.length b : Int) := h; omega, rfl⟩, rfl⟩, ?_⟩⟩
 intro i hi _
 obtain ⟨h1, h2, h3⟩ := hi
 refine ⟨fun hlt => ⟨⟨inN_of hlt, inN_of (by rw [<- h2]; exact hlt)⟩, fun c => Sp.fa_of fun e => c (by rw [(Sp.eqInt_iff a b).1 e]), fun c => ⟨inK_succ hlt ha.1, i + 1, ⟨by have : (i : Int) < (List.length a : Int) := hlt; omega, h2, Sp.eqL_step hlt h2 h3 c⟩, by have : (i : Int) < (List.length a : Int) := hlt; omega, rfl⟩⟩, fun hge => Sp.tr_of ((Sp.eqInt_iff a b).2 (Sp.eqL_end hge h2 h3))⟩
theorem ok39 : FOk Try.prog 39 S39 := by
 have hC : CtxOK Try.prog C39 := okA fns_nil
 refine FOk.intro hC (stpS_ok hC) Try.call39 Try.func39 (by kernel_rfl) (by kernel_rfl) L39 ?_
 rw [vc39]
 simp only [zz, zy]
 rintro ⟨a, b, u⟩ ⟨ha, hb⟩
 dsimp only
 refine ⟨fun h => Sp.fa_of fun e => h (by rw [(Sp.eqArrs_iff a b).1 e]), fun h => ⟨⟨0, ⟨Nat.zero_le _, by have : (List.length a : Int) = (List.length b : Int) := h; omega, rfl⟩, rfl⟩, ?_⟩⟩
 intro i hi _
 obtain ⟨h1, h2, h3⟩ := hi
 refine ⟨fun hlt => ⟨⟨inN_of hlt, inN_of (by rw [<- h2]; exact hlt)⟩, fun c => Sp.fa_of fun e => ?_, fun c => ⟨inK_succ hlt ha.1, i + 1, ⟨by have : (i : Int) < (List.length a : Int) := hlt; omega, h2, Sp.eqL_step hlt h2 h3 (Sp.arr_ext c.1 c.2.1 c.2.2.1 c.2.2.2)⟩, by have : (i : Int) < (List.length a : Int) := hlt; omega, rfl⟩⟩, fun hge => Sp.tr_of ((Sp.eqArrs_iff a b).2 (Sp.eqL_end hge h2 h3))⟩
 have e := (Sp.eqArrs_iff a b).1 e
 subst e
 simp at c
theorem ok40 : FOk Try.prog 40 S40 := by
 have hC : CtxOK Try.prog C40 := okA fns_nil
 refine FOk.intro hC (stpS_ok hC) Try.call40 Try.func40 (by kernel_rfl) (by kernel_rfl) L40 ?_
 rw [vc40]
 simp only [zz, zy]
 rintro ⟨a, b, u⟩ ⟨ha, hb⟩
 dsimp only
 refine ⟨fun h => Sp.fa_of fun e => h (by rw [(Sp.eqLps_iff a b).1 e]), fun h => ⟨⟨0, ⟨Nat.zero_le _, by have : (List.length a : Int) = (List.length b : Int) := h; omega, rfl⟩, rfl⟩, ?_⟩⟩
 intro i hi _
 obtain ⟨h1, h2, h3⟩ := hi
 refine ⟨fun hlt => ⟨⟨inN_of hlt, inN_of (by rw [<- h2]; exact hlt)⟩, fun c => Sp.fa_of fun e => ?_, fun c => ⟨inK_succ hlt ha.1, i + 1, ⟨by have : (i : Int) < (List.length a : Int) := hlt; omega, h2, Sp.eqL_step hlt h2 h3 (Sp.loop_ext c.1 c.2.1 c.2.2)⟩, by have : (i : Int) < (List.length a : Int) := hlt; omega, rfl⟩⟩, fun hge => Sp.tr_of ((Sp.eqLps_iff a b).2 (Sp.eqL_end hge h2 h3))⟩
 have e := (Sp.eqLps_iff a b).1 e
 subst e
 simp at c
theorem ok42 : FOk Try.prog 42 S42 := by
 have hC : CtxOK Try.prog C42 := okA fns_nil
 refine FOk.intro hC (stpS_ok hC) Try.call42 Try.func42 (by kernel_rfl) (by kernel_rfl) L42 ?_
 rw [vc42]
 simp only [zz, zy]
 rintro ⟨a, b, u⟩ ⟨ha, hb⟩
 dsimp only
 refine ⟨fun h => Sp.fa_of fun e => h (by rw [(Sp.eqIns_iff a b).1 e]), fun h => ⟨⟨0, ⟨Nat.zero_le _, by have : (List.length a : Int) = (List.length b : Int) := h; omega, rfl⟩, rfl⟩, ?_⟩⟩
 intro i hi _
 obtain ⟨h1, h2, h3⟩ := hi
 refine ⟨fun hlt => ⟨⟨inN_of hlt, inN_of (by rw [<- h2]; exact hlt)⟩, fun c => Sp.fa_of fun e => ?_, fun c => ⟨inK_succ hlt ha.1, i + 1, ⟨by have : (i : Int) < (List.length a : Int) := hlt; omega, h2, Sp.eqL_step hlt h2 h3 (Sp.inst_ext c.1 c.2.1 c.2.2.1 (Sp.opd_ext c.2.2.2.1.1 c.2.2.2.1.2.1 c.2.2.2.1.2.2) (Sp.opd_ext c.2.2.2.2.1.1 c.2.2.2.2.1.2.1 c.2.2.2.2.1.2.2) (Sp.opd_ext c.2.2.2.2.2.1.1 c.2.2.2.2.2.1.2.1 c.2.2.2.2.2.1.2.2) (Sp.opd_ext c.2.2.2.2.2.2.1 c.2.2.2.2.2.2.2.1 c.2.2.2.2.2.2.2.2))⟩, by have : (i : Int) < (List.length a : Int) := hlt; omega, rfl⟩⟩, fun hge => Sp.tr_of ((Sp.eqIns_iff a b).2 (Sp.eqL_end hge h2 h3))⟩
 have e := (Sp.eqIns_iff a b).1 e
 subst e
 simp at c
end Go.User
namespace Sp
theorem mem_take_succ {l : List Int} {n : Int} {i : Nat} {d : Int} (hi : (i : Int) < (l.length : Int)) : n ∈ l.take (i + 1) ↔ n ∈ l.take i ∨ l.getD i d = n := by
 have h1 : i < l.length := by omega
 rw [List.take_add_one, List.getElem?_eq_getElem h1, List.getD_eq_getElem?_getD, List.getElem?_eq_getElem h1]
 simp only [Option.toList_some, List.mem_append, List.mem_singleton, Option.getD_some]
 exact or_congr Iff.rfl eq_comm
theorem mem_getD {l : List Int} {i : Nat} {d : Int} (hi : (i : Int) < (l.length : Int)) : l.getD i d ∈ l := by
 have h1 : i < l.length := by omega
 rw [List.getD_eq_getElem?_getD, List.getElem?_eq_getElem h1]
 exact List.getElem_mem h1
theorem idxL_at {l : List Int} {n d : Int} {i : Nat} (hi : (i : Int) < (l.length : Int)) (h : n ∉ l.take i) (e : n = l.getD i d) : (i : Int) = idxL l n := by
 unfold idxL
 have h1 : i < l.length := by omega
 have hm : n ∈ l := by rw [e]; exact mem_getD hi
 rw [if_pos hm]
 have : l.idxOf n = i := by
  have hle : l.idxOf n <= i := by
   rcases Nat.lt_or_ge i (l.idxOf n) with hlt | hge
   ·exfalso
    have := List.not_of_lt_findIdx (p := (· == n)) (xs := l) (i := i) hlt
    rw [List.getD_eq_getElem?_getD, List.getElem?_eq_getElem h1] at e;simp only [Option.getD_some] at e;rw [<- e] at this;simp at this
   ·exact hge
  rcases Nat.lt_or_ge (l.idxOf n) i with hlt | hge
  ·exfalso
   apply h
   have hl : l.idxOf n < l.length := by omega
   have : l[l.idxOf n]'hl = n := List.getElem_idxOf hl
   rw [List.mem_take_iff_getElem];exact ⟨l.idxOf n, by omega, this⟩
  ·omega
 rw [this]
end Sp
namespace Go.User
open Go.Lf Go.Proofs
theorem maxN {n : Nat} (h : n <= 100000000) : (n : Int) <= maxNew := by rw [maxNew_eq]; omega
theorem ok69 : FOk Try.prog 69 S69 := by
 have hC : CtxOK Try.prog C69 := okA fns_nil
 refine FOk.intro hC (stpS_ok hC) Try.call69 Try.func69 (by kernel_rfl) (by kernel_rfl) L69 ?_
 rw [vc69]
 simp only [zz, zy]
 rintro ⟨l, n, u⟩ ⟨hl, hn⟩
 dsimp only
 refine ⟨⟨0, ⟨Nat.zero_le _, by simp⟩, rfl⟩, ?_⟩
 intro i hi _
 obtain ⟨h1, h2⟩ := hi
 refine ⟨fun hlt => ⟨inN_of hlt, fun c => Sp.idxL_at hlt h2 c, fun c => ⟨inK_succ hlt hl.1, i + 1, ⟨?_, ?_⟩, ?_, rfl⟩⟩, fun hge => ?_⟩
 ·have hlt : (i : Int) < (List.length l : Int) := hlt
  omega
 ·intro hm
  rcases (Sp.mem_take_succ (d := 0) hlt).1 hm with h | h
  ·exact h2 h
  ·exact c h.symm
 ·have hlt : (i : Int) < (List.length l : Int) := hlt
  omega
 ·have hge : (List.length l : Int) <= (i : Int) := hge
  show -1 = Sp.idxL l n
  unfold Sp.idxL;rw [if_neg];rw [List.take_of_length_le (by omega)] at h2;exact h2
theorem ok61 : FOk Try.prog 61 S61 := by
 have hC : CtxOK Try.prog C61 := okA (fns_cons ok69 fns_nil)
 refine FOk.intro hC (stpS_ok hC) Try.call61 Try.func61 (by kernel_rfl) (by kernel_rfl) L61 ?_
 rw [vc61]
 simp only [zz, zy]
 rintro ⟨l, n, u⟩ _
 dsimp only
 show decide (0 <= Sp.idxL l n) = Sp.mem l n
 unfold Sp.idxL Sp.mem
 split
 ·rename_i h
  rw [decide_eq_true h, decide_eq_true (by omega)]
 ·rename_i h
  rw [decide_eq_false h]; rfl
theorem ok56 : FOk Try.prog 56 S56 := by
 have hC : CtxOK Try.prog C56 := okA fns_nil
 refine FOk.intro hC (stpS_ok hC) Try.call56 Try.func56 (by kernel_rfl) (by kernel_rfl) L56 ?_
 rw [vc56]
 simp only [zz, zy]
 rintro ⟨l, u⟩ h _
 dsimp only
 exact ⟨fun h => h.symm, maxN (by have h : List.length l <= 5000 := h; omega)⟩
theorem ok57 : FOk Try.prog 57 S57 := by
 have hC : CtxOK Try.prog C57 := okA fns_nil
 refine FOk.intro hC (stpS_ok hC) Try.call57 Try.func57 (by kernel_rfl) (by kernel_rfl) L57 ?_
 rw [vc57]
 simp only [zz, zy]
 rintro ⟨l, u⟩ h _
 dsimp only
 exact ⟨fun h => h.symm, maxN (by have h : List.length l <= 5000 := h; omega)⟩
theorem ok58 : FOk Try.prog 58 S58 := by
 have hC : CtxOK Try.prog C58 := okA fns_nil
 refine FOk.intro hC (stpS_ok hC) Try.call58 Try.func58 (by kernel_rfl) (by kernel_rfl) L58 ?_
 rw [vc58]
 simp only [zz, zy]
 rintro ⟨l, u⟩ h _
 dsimp only
 exact ⟨fun h => h.symm, maxN (by have h : List.length l <= 5000 := h; omega)⟩
theorem ok68 : FOk Try.prog 68 S68 := by
 have hC : CtxOK Try.prog C68 := okA fns_nil
 refine FOk.intro hC (stpS_ok hC) Try.call68 Try.func68 (by kernel_rfl) (by kernel_rfl) L68 ?_
 rw [vc68]
 simp only [zz, zy]
 rintro ⟨o, u⟩ _
 dsimp only
 exact ⟨fun h => (if_neg h).symm, fun h => (if_pos h).symm⟩
theorem ok60 : FOk Try.prog 60 S60 := by
 have hC : CtxOK Try.prog C60 := okA (fns_cons ok68 fns_nil)
 refine FOk.intro hC (stpS_ok hC) Try.call60 Try.func60 (by kernel_rfl) (by kernel_rfl) L60 ?_
 rw [vc60]
 simp only [zz, zy]
 rintro ⟨o, u⟩ _
 rfl
theorem ok62 (h70 : FOk Try.prog 70 S70) : FOk Try.prog 62 S62 := by
 have hC : CtxOK Try.prog C62 := okC (fns_cons h70 fns_nil) rfl rfl rfl rfl rfl rfl rfl
 refine FOk.intro hC (stpS_ok hC) Try.call62 Try.func62 (by kernel_rfl) (by kernel_rfl) L62 ?_
 rw [vc62]
 simp only [zz, zy]
 rintro ⟨i, u⟩ _
 exact ⟨Nat.le_of_ble_eq_true rfl, rfl⟩
theorem ok32 (h70 : FOk Try.prog 70 S70) : FOk Try.prog 32 S32 := by
 have hC : CtxOK Try.prog C32 := okA (fns_cons ok60 (fns_cons ok61 (fns_cons (ok62 h70) fns_nil)))
 refine FOk.intro hC (stpS_ok hC) Try.call32 Try.func32 (by kernel_rfl) (by kernel_rfl) L32 ?_
 rw [vc32]
 simp only [zz, zy]
 rintro ⟨i, j, u⟩ _
 rfl
theorem ok31 : FOk Try.prog 31 S31 := by
 have hC : CtxOK Try.prog C31 := okA fns_nil
 refine FOk.intro hC (stpS_ok hC) Try.call31 Try.func31 (by kernel_rfl) (by kernel_rfl) L31 ?_
 rw [vc31]
 simp only [zz, zy]
 rintro ⟨c, i, u⟩ h _
 dsimp only at h ⊢
 have hin : (i.1 = 7 ∨ i.1 = 8 ∨ i.1 = 9) -> inN i.2.2.1 c.2.2.2.2.2.1.length := fun hi => h hi
 have K7 : (i.1 = 7 ∨ i.1 = 8 ∨ i.1 = 9) -> (i.2.2.1, (-1 : Int), i.1 == 7, i.1 == 9, (c.2.2.2.2.2.1.getD i.2.2.1.toNat ([], 0, 0, 0, ())).2.1 != 3, ()) = Sp.accI c i := by
  intro hi;unfold Sp.accI;rw [if_pos (show Sp.opI i = 7 ∨ Sp.opI i = 8 ∨ Sp.opI i = 9 from hi)]; rfl
 have K11 : (i.1 = 11 ∨ i.1 = 12) -> ((-1 : Int), i.2.2.1, i.1 == 11, false, false, ()) = Sp.accI c i := by
  intro hi;unfold Sp.accI;rw [if_neg (by unfold Sp.opI; omega), if_pos (show Sp.opI i = 11 ∨ Sp.opI i = 12 from hi)]; rfl
 have K10 : i.1 = 10 -> ((-1 : Int), (-1 : Int), false, true, true, ()) = Sp.accI c i := by
  intro hi;unfold Sp.accI;rw [if_neg (by unfold Sp.opI; omega), if_neg (by unfold Sp.opI; omega), if_pos (show Sp.opI i = 10 from hi)]
 have K0 : ¬ (i.1 = 7 ∨ i.1 = 8 ∨ i.1 = 9) -> ¬ (i.1 = 11 ∨ i.1 = 12) -> ¬ i.1 = 10 -> ((-1 : Int), (-1 : Int), false, false, false, ()) = Sp.accI c i := by
  intro h1 h2 h3;unfold Sp.accI;rw [if_neg (show ¬ (Sp.opI i = 7 ∨ Sp.opI i = 8 ∨ Sp.opI i = 9) from h1), if_neg (show ¬ (Sp.opI i = 11 ∨ Sp.opI i = 12) from h2), if_neg (show ¬ Sp.opI i = 10 from h3)]; rfl
 have O7 : ∀ {v : Int}, i.1 = 7 -> ¬ i.1 = 7 -> False := fun a b => b a
 repeat' first
  | with_reducible refine And.intro ?_ ?_
  | intro _
  | exact hin (by omega)
  | exact K7 (by omega)
  | exact K11 (by omega)
  | exact K10 (by omega)
  | exact K0 (by omega) (by omega) (by omega)
  | (exfalso; omega)
theorem ok14 (h70 : FOk Try.prog 70 S70) : FOk Try.prog 14 S14 := by
 have hC : CtxOK Try.prog C14 := okA (fns_cons ok31 (fns_cons (ok32 h70) fns_nil))
 refine FOk.intro hC (stpS_ok hC) Try.call14 Try.func14 (by kernel_rfl) (by kernel_rfl) L14 ?_
 rw [vc14]
 simp only [zz, zy]
 rintro ⟨c, i, j, u⟩ h _
 refine ⟨h, ?_⟩
 show _ = Sp.depP c i j
 unfold Sp.depP Sp.accB
 simp only [Bool.or_assoc]
 rfl
theorem take_blk {B : List Sp.Block} {i : Nat} (h : (i : Int) < (B.length : Int)) (d : Sp.Block) : B.take i ++ ((B.getD i d).1, (B.getD i d).2.1, ()) :: [] = B.take (i + 1) := by
 have h1 : i < B.length := by omega
 rw [List.take_add_one, List.getElem?_eq_getElem h1, List.getD_eq_getElem?_getD, List.getElem?_eq_getElem h1]
 rfl
theorem ok20 : FOk Try.prog 20 S20 := by
 have hC : CtxOK Try.prog C20 := okC fns_nil rfl rfl rfl rfl rfl rfl rfl
 refine FOk.intro hC (stpS_ok hC) Try.call20 Try.func20 (by kernel_rfl) (by kernel_rfl) L20 ?_
 rw [vc20]
 simp only [zz, zy]
 rintro ⟨c, u⟩ hc hd
 obtain ⟨h1, h2, h3, h4⟩ := hc
 dsimp only at h1 h2 h3 h4 ⊢
 have h1 : c.2.2.2.2.2.1.length <= 5000 := h1
 have h2 : c.2.2.2.2.2.2.1.length <= 5000 := h2
 have h3 : c.2.2.2.2.2.2.2.1.length <= 5000 := h3
 refine ⟨maxN (by omega), maxN (by omega), ⟨0, Nat.zero_le _, by simp, rfl⟩, ?_⟩
 intro i hi _
 have hi : i <= c.2.2.2.2.2.2.2.1.length := hi
 refine ⟨fun hlt => ⟨⟨⟨inN_of hlt, maxN ?_, inN_of hlt⟩, maxN ?_⟩, inK_mid (by omega) (by omega), i + 1, ?_, ?_, take_blk hlt _, rfl⟩, fun hge => ?_⟩
 ·have hm : c.2.2.2.2.2.2.2.1.getD i ([], (0, 0, (0, 0, 0, ()), (0, 0, 0, ()), (0, 0, 0, ()), List.replicate 2 0, ()), ()) ∈ c.2.2.2.2.2.2.2.1 := by
   have hl : i < c.2.2.2.2.2.2.2.1.length := by omega
   rw [List.getD_eq_getElem?_getD, List.getElem?_eq_getElem hl];exact List.getElem_mem hl
  have := h4 _ hm
  exact Nat.le_trans (Nat.le_of_eq (Nat.zero_add _)) (Nat.le_trans this (by decide))
 ·have : (List.take i (Sp.cB c)).length <= i := by rw [List.length_take]; omega
  omega
 ·show i + 1 <= c.2.2.2.2.2.2.2.1.length
  omega
 ·show c.2.2.2.2.2.2.2.1.length - (i + 1) < c.2.2.2.2.2.2.2.1.length - i
  omega
 ·have e : List.take i (Sp.cB c) = c.2.2.2.2.2.2.2.1 := List.take_of_length_le (by show c.2.2.2.2.2.2.2.1.length <= i; omega)
  rw [e]
end Go.User
namespace Go.User
open Go Go.Proofs Go.RowKit Go.Lib Go.Lf Go.Sort
theorem putRow_heap (w : World) (b off : Nat) (d : Array Int) (k : Nat) : (putRow (Value.int .i64) w b off d).heap[k]? = if b = k then (w.heap[k]?).map (onCells (putCells (Value.int .i64) off d)) else w.heap[k]? := by
 unfold putRow mapBlock
 rw [Array.getElem?_modify]
theorem grow_heap (w : World) (os : Array Obj) {k : Nat} (h : k < w.heap.size) : (Go.Sort.grow w os).heap[k]? = w.heap[k]? := by
 unfold Go.Sort.grow
 rw [Array.getElem?_append_left h]
theorem putRow_size (w : World) (b off : Nat) (d : Array Int) : (putRow (Value.int .i64) w b off d).heap.size = w.heap.size := by
 unfold putRow mapBlock
 simp
theorem putCells_at (off : Nat) (d : Array Int) (c : Array Value) {j : Nat} (h : j < d.size) (hc : off + j < c.size) : (putCells (Value.int .i64) off d c)[off + j]? = some (.int .i64 d[j]!) := by
 unfold putCells
 rw [Array.getElem?_mapIdx, Array.getElem?_eq_getElem hc]
 simp only [Option.map_some]
 rw [if_pos ⟨by omega, by omega⟩, Nat.add_sub_cancel_left]
theorem putCells_size (off : Nat) (d : Array Int) (c : Array Value) : (putCells (Value.int .i64) off d c).size = c.size := by
 unfold putCells
 rw [Array.size_mapIdx]
theorem row_ints {w : World} {F S0 : NSet} {v : Value} {x : List Int} (h : OwnV F w (.slice tI) (.own .shr) S0 v x) :
  (∃ cap, v = .slice none 0 cap /\ x = []) ∨ ∃ b off cap row T, v = .slice (some ⟨b, off, none⟩) x.length cap /\ x.length <= cap /\ S0 b /\ w.heap[b]? = some (.cells row T (0, 0)) /\ off + cap <= row.size /\ (∀ j, j < x.length -> row[off + j]? = some (.int .i64 x[j]!)) /\ ∀ z ∈ x, inK .i64 z := by
 obtain ⟨cs, rfl, ao, cap, rfl, h1, h2, h3⟩ := h
 rcases h3 with ⟨rfl, rfl⟩ | ⟨b, off, row, T, Si, rfl, h4, h5, h6, _, _, _, h7⟩
 ·left
  have : x = [] := List.eq_nil_of_length_eq_zero (by omega)
  subst this;exact ⟨0, rfl, rfl⟩
 ·right
  have hs : Ty.size tI = 1 := rfl
  have hel : ∀ j (hj : j < x.length), row[off + j]? = some (.int .i64 x[j]!) /\ inK .i64 x[j]! := by
   intro j hj;have := h7 j _ (List.getElem?_eq_getElem hj);obtain ⟨q1, q2⟩ := this;rw [hs, Nat.mul_one] at q1;have e : (seg row.toList (off + j) 1)[0]? = some (.int .i64 (x[j]'hj)) := by rw [q1]; rfl
   have e2 : x[j]! = x[j]'hj := getElem!_pos x j hj
   rw [e2];exact ⟨by simpa [seg] using e, q2⟩
  refine ⟨b, off, cap, row, T, rfl, h1, h4, h5, by rw [hs, Nat.mul_one] at h6; exact h6, fun j hj => (hel j hj).1, fun z hz => ?_⟩
  obtain ⟨j, hj, rfl⟩ := List.mem_iff_getElem.1 hz;have := (hel j hj).2
  rwa [getElem!_pos x j hj] at this
theorem own_ints {w : World} {F S0 : NSet} {b off cap : Nat} {row : Array Value} {T : TypeId} {x : List Int} (h1 : x.length <= cap) (hl : x.length <= lim) (h4 : S0 b) (h5 : w.heap[b]? = some (.cells row T (0, 0))) (h6 : off + cap <= row.size)
  (h7 : ∀ j, j < x.length -> row[off + j]? = some (.int .i64 x[j]!)) (h8 : ∀ z ∈ x, inK .i64 z) : OwnV F w (.slice tI) (.own .shr) S0 (.slice (some ⟨b, off, none⟩) x.length cap) x := by
 have hs : Ty.size tI = 1 := rfl
 refine ⟨[.slice (some ⟨b, off, none⟩) x.length cap], rfl, some ⟨b, off, none⟩, cap, rfl, h1, hl, .inr ⟨b, off, row, T, fun _ => none', rfl, h4, h5, by rw [hs, Nat.mul_one]; exact h6, fun _ _ h => h.elim, fun _ h => h, fun _ _ _ _ h _ => h, ?_⟩⟩
 intro i z hz
 obtain ⟨hi, rfl⟩ := List.getElem?_eq_some_iff.1 hz
 have h := h7 i hi
 rw [getElem!_pos x i hi] at h
 rw [hs, Nat.mul_one]
 refine ⟨?_, h8 _ (List.getElem_mem hi)⟩
 obtain ⟨hlt, hval⟩ := Array.getElem?_eq_some_iff.1 h
 show List.take 1 (List.drop (off + i) row.toList) = [.int .i64 (x[i]'hi)]
 rw [List.drop_eq_getElem_cons (by simpa using hlt)]
 simp [hval]
def vSort : VSpec := { e := tI, pre := fun x => List.length x <= 1000000, fn := fun (x : List Int) => x.mergeSort (fun a b => decide (a <= b)), ret := false }
def vCmp : VSpec := { e := tI, pre := fun x => List.length x <= 1000000, fn := fun (x : List Int) => Lib.compact x, ret := true }
theorem holds_row {w : World} {b off : Nat} {row : Array Value} {T : TypeId} {x : List Int} (h5 : w.heap[b]? = some (.cells row T (0, 0))) (h7 : ∀ j, j < x.length -> row[off + j]? = some (.int .i64 x[j]!)) : Holds (Value.int .i64) w b off x.toArray := by
 intro j hj
 have hj : j < x.length := by simpa using hj
 refine ⟨?_, by simp [World.frozen?, h5]⟩
 rw [cell_of h5, h7 j hj]
 simp [getElem!_pos, hj]
theorem vk73 : VOk Try.prog 73 vSort := by
 refine ⟨Try.call73, ?_⟩
 intro w F S0 v (x : List Int) hF hS0 (hown : OwnV F w (.slice tI) (.own .shr) S0 v x) hpre
 have hpre : List.length x <= 1000000 := hpre
 rcases row_ints hown with ⟨cap, rfl, rfl⟩ | ⟨b, off, cap, row, T, rfl, h1, h4, h5, h6, h7, h8⟩
 ·refine (AnyM.slices_Sort_int_none Try.sortA none cap w).mono ?_
  rintro e w' ⟨rfl, rfl⟩
  refine ⟨_, S0, rfl, fun _ => rfl, rfl, rfl, rfl, Nat.le_refl _, fun _ _ _ => rfl, fun k hk => ⟨.inr hk, (hS0 k hk).1, (hS0 k hk).2⟩, ?_⟩
  simpa [vSort] using hown
 ·have hb := hS0 b h4
  refine (AnyM.slices_Sort_int Try.sortA b off cap x w (holds_row h5 h7) hb.1 (by omega)).mono ?_
  rintro e w' ⟨rfl, n, os, rfl⟩
  have hsz : (Go.Sort.grow (putRow (Value.int .i64) (Sort.ahead w n) b off (x.mergeSort fun x y => decide (x <= y)).toArray) os).heap.size = w.heap.size + os.size := by
   unfold Go.Sort.grow;rw [Array.size_append, putRow_size]; rfl
  have hk : ∀ k, k < w.heap.size -> (Go.Sort.grow (putRow (Value.int .i64) (Sort.ahead w n) b off (x.mergeSort fun x y => decide (x <= y)).toArray) os).heap[k]? = if b = k then (w.heap[k]?).map (onCells (putCells (Value.int .i64) off (x.mergeSort fun x y => decide (x <= y)).toArray)) else w.heap[k]? := by
   intro k hk;rw [grow_heap _ _ (by rw [putRow_size]; exact hk), putRow_heap]
   rfl
  have hlen : (x.mergeSort fun x y => decide (x <= y)).length = x.length := List.length_mergeSort x
  refine ⟨_, S0, rfl, fun _ => rfl, rfl, rfl, rfl, by rw [hsz]; omega, fun k h1 h2 => ?_, fun k hk => ⟨.inr hk, by rw [hsz]; have := (hS0 k hk).1; omega, (hS0 k hk).2⟩, ?_⟩
  ·rw [hk k h1, if_neg (fun (e : b = k) => h2 (by rw [<- e]; exact h4))]
  ·have hlim : x.length <= lim := by rw [lim_eq]; omega
   have := own_ints (F := F) (S0 := S0) (x := x.mergeSort fun x y => decide (x <= y)) (cap := cap) (by rw [hlen]; exact h1) (by rw [hlen]; exact hlim) h4 (by rw [hk b hb.1, if_pos rfl, h5]; rfl) (by rw [putCells_size]; exact h6) (fun j hj => by
    have hj2 : j < x.length := by rw [<- hlen]; exact hj
    rw [putCells_at off _ _ (by simpa using hj) (by omega)];simp [getElem!_pos, hj, hj2]) (fun z hz => h8 z (List.mem_mergeSort.1 hz))
   rw [hlen] at this;exact this
theorem compact_mem {x : List Int} {z : Int} (h : z ∈ Lib.compact x) : z ∈ x := by
 unfold Lib.compact compactUpTo at h
 obtain ⟨j, hj, rfl⟩ := List.mem_map.1 h
 have hj := List.mem_range.1 (List.mem_filter.1 hj).1
 simp [getElem!_pos, hj]
theorem vk74 : VOk Try.prog 74 vCmp := by
 refine ⟨Try.call74, ?_⟩
 intro w F S0 v (x : List Int) hF hS0 (hown : OwnV F w (.slice tI) (.own .shr) S0 v x) hpre
 have hpre : List.length x <= 1000000 := hpre
 rcases row_ints hown with ⟨cap, rfl, rfl⟩ | ⟨b, off, cap, row, T, rfl, h1, h4, h5, h6, h7, h8⟩
 ·refine (AnyG.slices_Compact_int_empty Try.cmpA none cap w).mono ?_
  rintro e w' ⟨rfl, rfl⟩
  refine ⟨_, S0, rfl, fun h => (Bool.noConfusion h), rfl, rfl, rfl, Nat.le_refl _, fun _ _ _ => rfl, fun k hk => ⟨.inr hk, (hS0 k hk).1, (hS0 k hk).2⟩, hown⟩
 ·have hb := hS0 b h4
  have hcl : (Lib.compact x).length <= x.length := by
   unfold Lib.compact compactUpTo;rw [List.length_map];have := List.length_filter_le (keeps x.toArray) (List.range x.length)
   rwa [List.length_range] at this
  refine (AnyG.slices_Compact_int Try.cmpA b off cap x w (holds_row h5 h7) (by omega) h1).mono ?_
  rintro e w' ⟨rfl, n, rfl⟩
  generalize hD : (Lib.compact x ++ List.replicate (x.length - (Lib.compact x).length) 0).toArray = D
  have hDs : D.size = x.length := by rw [<- hD]; simp; omega
  have hDj : ∀ j : Nat, j < (Lib.compact x).length -> D[j]! = (Lib.compact x)[j]! := by
   intro j hj;rw [<- hD];have : j < (Lib.compact x ++ List.replicate (x.length - (Lib.compact x).length) 0).toArray.size := by simp; omega
   simp [List.getElem!_eq_getElem?_getD, List.getElem?_append_left hj]
  have hk : ∀ k, (putRow (Value.int .i64) (Sort.ahead w n) b off D).heap[k]? = if b = k then (w.heap[k]?).map (onCells (putCells (Value.int .i64) off D)) else w.heap[k]? := by
   intro k;rw [putRow_heap]
   rfl
  have hsz : (putRow (Value.int .i64) (Sort.ahead w n) b off D).heap.size = w.heap.size := by rw [putRow_size]; rfl
  refine ⟨_, S0, rfl, fun h => (Bool.noConfusion h), rfl, rfl, rfl, by rw [hsz]; omega, fun k h1 h2 => ?_, fun k hk => ⟨.inr hk, by rw [hsz]; exact (hS0 k hk).1, (hS0 k hk).2⟩, ?_⟩
  ·rw [hk k, if_neg (fun (e : b = k) => h2 (by rw [<- e]; exact h4))]
  ·have hlim : x.length <= lim := by rw [lim_eq]; omega
   exact own_ints (F := F) (S0 := S0) (x := Lib.compact x) (cap := cap) (by omega) (by omega) h4 (by rw [hk b, if_pos rfl, h5]; rfl) (by rw [putCells_size]; exact h6) (fun j hj => by
    rw [putCells_at off _ _ (by omega) (by omega), hDj j hj]) (fun z hz => h8 z (compact_mem hz))
end Go.User
namespace Sp
def regF (l : List Opd) : List Int := (l.filter fun o => decide (o.1 = 2)).map fun o => o.2.1
end Sp
namespace Go.User
open Go.Lf
def places : List (FuncId × VSpec) := [(73, vSort), (74, vCmp)]
def C70 : Ctx := mkC 25 []
def L70 (x : kdens S70.args) : List LoopI := [{ ι := Nat, inv := fun i => i <= List.length x.1, dec := fun i => List.length x.1 - i, ovr := fun i => [(8, .shr tI (i : Int)), (7, .shr tI (List.length x.1 : Int)), (3, .own (.slice tI) (.own .shr) (Sp.regF (List.take i x.1)))], keep := [6] }]
end Go.User
namespace Go.User
open Go.Proofs Go.Lf
set_option maxRecDepth 100000
theorem vc70 : (funI C70 (stpV places C70) S70 L70 Try.f70) = (
let q0 : Prop := (True /\ True) /\ True;
let q1 : Prop := True /\ True /\ True;
let q2 : Prop := True /\ q1;
let q3 : Prop := q2 /\ True;
let q4 : Int := (0 : Int);
let q5 : Sp.Opd := (q4, q4, q4, ());
let q6 : Int := (1 : Int);
let q7 : Nat := (1000000 : Nat);
∀ (x : List Sp.Opd × Unit),
 let q8 : Nat := x.1.length;
 let q9 : Int := (↑q8 : Int);
 let q10 : Prop := q9 = q9;
 let q11 : Prop := x.1 = x.1 /\ True;
 q8 <= (3 : Nat) ->
 dFact tOpd.slice x.1 /\ True ->
 q0 /\
 q0 /\
 q3 /\
 (∃ (x_1 : Nat), x_1 <= q8 /\ q4 = (↑x_1 : Int) /\ q10 /\ Sp.regF (List.take x_1 x.1) = ([] : List tI.den) /\ q11) /\
 ∀ (x_1 : Nat),
 let q12 : List Int := Sp.regF (List.take x_1 x.1);
 let q13 : Bool := decide ((↑x_1 : Int) < q9);
 let q14 : Sp.Opd := x.1.getD (↑x_1 : Int).toNat q5;
 let q15 : Bool := q14.1 == (2 : Int);
 let q16 : Nat := q12.length;
 let q17 : List Int := q14.2.1 :: ([] : List tI.den);
 let q18 : Int := (↑x_1 : Int) + q6;
 let q19 : Prop := (inK IntKind.i64 q18 /\ True /\ True) /\ True;
 let q20 : List Int := q12.mergeSort fun (a b : Int) => decide (a <= b);
 let q21 : Nat := q20.length;
 x_1 <= q8 -> dFact tI (↑x_1 : Int) /\ dFact tI q9 /\ dFact tI.slice q12 /\ True -> q0 /\ (q13 = true -> ((inN (↑x_1 : Int) q8 /\ q1) /\ True /\ True) /\ q3 /\ (q15 = true -> ((True /\ q2) /\ (↑(q16 + q17.length) : Int) <= maxNew /\ True /\ True) /\ q19 /\ ∃ (y : Nat), y <= q8 /\ q8 - y < q8 - x_1 /\ q18 = (↑y : Int) /\ q10 /\ q12 ++ q17 = Sp.regF (List.take y x.1) /\ q11) /\ (q15 = false -> q19 /\ ∃ (y : Nat), y <= q8 /\ q8 - y < q8 - x_1 /\ q18 = (↑y : Int) /\ q10 /\ q12 = Sp.regF (List.take y x.1) /\ q11)) /\ (q13 = false -> ((True /\ True) /\ q16 <= q7 /\ True) /\ ((True /\ True) /\ q21 <= q7 /\ True /\ True) /\ List.map (fun (x : Nat) => q20.toArray[x]!) (List.filter (fun (j : Nat) => decide (j = (0 : Nat) ∨ q20.toArray[j]! ≠ q20.toArray[j - (1 : Nat)]!)) (List.range q21)) = Sp.regL x.1 (([] : List Int)))) := by kernel_rfl
end Go.User
namespace Sp
def insAt (l : List Inst) (n : Nat) : Inst := l.getD n inst0
def ldB (l : List Inst) (n : Nat) : Bool := decide (opI (insAt l n) = 7)
def rdyB (dep : Inst -> Inst -> Bool) (l : List Inst) (out : List Int) (n : Nat) : Bool := !mem out (n : Int) && (List.range n).all fun i => mem out (i : Int) || !dep (insAt l i) (insAt l n)
def nxS (rdy ld : Nat -> Bool) : Nat -> Int
 | 0 => -1
 | k + 1 => if (rdy k && (decide (nxS rdy ld k < 0) || ld k && !ld (nxS rdy ld k).toNat)) = true then (k : Int) else nxS rdy ld k
def stpO (dep : Inst -> Inst -> Bool) (l : List Inst) (out : List Int) : Int := nxS (rdyB dep l out) (ldB l) l.length
def ordN (f : List Int -> Int) : Nat -> List Int
 | 0 => []
 | k + 1 => ordN f k ++ [f (ordN f k)]
def lstO (dep : Inst -> Inst -> Bool) (l : List Inst) : List Int := ordN (stpO dep l) l.length
def xAt (x : List Int) (n : Nat) : Int := x.getD n 0
def badP (dep : Inst -> Inst -> Bool) (l : List Inst) (x : List Int) (i j : Nat) : Bool := decide (i < j) && decide (xAt x j < xAt x i) && dep (insAt l (xAt x i).toNat) (insAt l (xAt x j).toNat)
def rgtB (dep : Inst -> Inst -> Bool) (l : List Inst) (x : List Int) : Bool :=
 decide (x.length = l.length) && ((List.range l.length).all fun n => mem x (n : Int)) && (List.range x.length).all fun i => (List.range x.length).all fun j => !badP dep l x i j
def reoL (l : List Inst) (x : List Int) : List Inst := x.map fun k => insAt l k.toNat
def blkAt (c : Code) (b : Nat) : Block := (cB c).getD b blk0
def xsAt (X : List (List Int)) (b : Nat) : List Int := X.getD b []
def reoK (c : Code) (X : List (List Int)) (b : Nat) : Block := (reoL (blkAt c b).1 (xsAt X b), (blkAt c b).2)
def reoN (c : Code) (X : List (List Int)) (n : Nat) : List Block := (List.range (cB c).length).map fun b => if b < n then reoK c X b else blkAt c b
def reoC (c : Code) (X : List (List Int)) : Code := setB c (reoN c X (cB c).length)
def rgtA (dep : Code -> Inst -> Inst -> Bool) (c : Code) (X : List (List Int)) : Bool := decide (X.length = (cB c).length) && (List.range (cB c).length).all fun b => rgtB (dep c) (blkAt c b).1 (xsAt X b)
def depQ (c : Code) (i j : Inst) : Bool := depP c j i
noncomputable def chkP (c d : Code) (X : List (List Int)) : Int := if (rgtA depQ c X && eqCode (reoC c X) d) = true then 0 else 100
def xsR (dep : Code -> Inst -> Inst -> Bool) (c : Code) (n : Nat) : List (List Int) := ((cB c).take n).map fun b => lstO (dep c) b.1
def runX (dep : Code -> Inst -> Inst -> Bool) (c : Code) : List (List Int) := (cB c).map fun b => lstO (dep c) b.1
def runC (dep : Code -> Inst -> Inst -> Bool) (c : Code) : Code := reoC c (runX dep c)
def mskI (dep : Inst -> Inst -> Bool) (l : List Inst) (i : Nat) : List Bool := (List.range i).map fun j => dep (insAt l j) (insAt l i)
def mskL (dep : Inst -> Inst -> Bool) (l : List Inst) : List (List Bool) := (List.range l.length).map fun i => mskI dep l i
def doneL (out : List Int) (n : Nat) : List Bool := (List.range n).map fun (i : Nat) => mem out (i : Int)
def atL (x : List Int) (n k : Nat) : List Int := (List.range n).map fun (i : Nat) => if (i : Int) ∈ x.take k then (((x.take k).idxOf (i : Int) : Nat) : Int) else -1
end Sp
namespace Go.User
open Go.Lf
noncomputable section
def lOK (c : Sp.Code) (l : List Sp.Inst) : Prop := l.length <= 3000 /\ ∀ i ∈ l, instOK c i
def vOK (c : Sp.Code) : Prop := codeOK 3000 c /\ ∀ b ∈ Sp.cB c, ∀ i ∈ b.1, instOK c i
def S43 : FSpec := { args := [.val (.slice tInst), .val (.slice tI)], multi := false, res := .slice tInst, mode := .shr, pre := fun x => List.length x.2.1 <= 5000 /\ ∀ k ∈ (x.2.1 : List Int), 0 <= k /\ k < (List.length x.1 : Int), fn := fun x => Sp.reoL x.1 x.2.1 }
def C43 : Ctx := mkC 27 []
def L43 (x : kdens S43.args) : List LoopI := [{ ι := Nat, inv := fun i => i <= List.length x.2.1, dec := fun i => List.length x.2.1 - i, ovr := fun i => [(13, .shr tI (i : Int)), (12, .shr tI (List.length x.2.1 : Int)), (5, .own (.slice tInst) (.own .shr) (Sp.reoL x.1 (List.take i x.2.1) ++ List.replicate (List.length x.2.1 - i) Sp.inst0))], keep := [11, 0, 1] }]
def S65 : FSpec := { args := [.val tCode, .val (.slice tInst)], multi := false, res := .slice (.slice .bool), mode := .shr, pre := fun x => lOK x.1 x.2.1, fn := fun x => Sp.mskL (Sp.depP x.1) x.2.1 }
def S59 : FSpec := { args := [.val tCode, .val (.slice tInst)], multi := false, res := .slice tI, mode := .shr, pre := fun x => lOK x.1 x.2.1, fn := fun x => Sp.lstO (Sp.depP x.1) x.2.1 }
def C59 : Ctx := mkC 70 [(65, S65)]
def T59 (x : kdens S59.args) : KT :=
 let f := Sp.stpO (Sp.depP x.1) x.2.1
 let n := List.length x.2.1
 .s (.i []) (.s (.i []) (.s (.i []) (.s (.i []) (.s (.b (.l
  {ι := Nat, inv := fun k => k <= n, dec := fun k => n - k, ovr := fun k => [(7, .own (.slice tI) (.own .shr) (Sp.ordN f k)), (6, .own (.slice .bool) (.own .shr) (Sp.doneL (Sp.ordN f k) n))], keep := [1, 5, 2] }
  (fun k =>
   let rdy := Sp.rdyB (Sp.depP x.1) x.2.1 (Sp.ordN f k)
   .s (.i []) (.b (.o (.s (.i []) (.s .m (.c
    {ι := Unit, inv := fun _ => True, dec := fun _ => 0, ovr := fun _ => [(8, .shr tI (f (Sp.ordN f k)))], keep := [1, 2, 5, 6, 7] }
    (.i [{ ι := Nat, inv := fun i => i <= n /\ ∀ k, k < i -> ¬(rdy k = true /\ Sp.ldB x.2.1 k = true), dec := fun i => n - i, ovr := fun i => [(25, .shr tI (i : Int)), (24, .shr tI (n : Int)), (8, .shr tI (Sp.nxS rdy (Sp.ldB x.2.1) i))], keep := [1, 2, 5, 6, 7], sub := fun i => [{ ι := Nat, inv := fun j => j <= i /\ ((List.range j).all fun j => Sp.mem (Sp.ordN f k) (j : Int) || !Sp.depP x.1 (Sp.insAt x.2.1 j) (Sp.insAt x.2.1 i)) = true, dec := fun j => i - j, ovr := fun j => [(37, .shr tI (j : Int)), (36, .shr tI (i : Int))], keep := [1, 2, 5, 6, 7, 8, 9, 24, 25, 35] }] }])
    (fun _ => .i []))))))))) (.i [])))))
def S41 : FSpec := { args := [.val tCode, .val (.slice tInst), .val (.slice tI)], multi := false, res := .bool, mode := .shr, pre := fun x => lOK x.1 x.2.1, fn := fun x => Sp.rgtB (Sp.depQ x.1) x.2.1 x.2.2.1 }
def C41 : Ctx := mkC 89 [(65, S65)]
def perOK (x : List Int) (n : Nat) : Prop := x.Nodup /\ ∀ k ∈ x, 0 <= k /\ k < (n : Int)
def L41 (x : kdens S41.args) : List LoopI := [
 {ι := Nat, inv := fun k => k <= List.length x.2.1, dec := fun k => List.length x.2.1 - k, ovr := fun k => [(20, .shr tI (k : Int)), (19, .shr tI (List.length x.2.1 : Int)), (7, .own (.slice tI) (.own .shr) (List.replicate k (-1 : Int) ++ List.replicate (List.length x.2.1 - k) (0 : Int)))], keep := [3, 1, 2] },
 {ι := Nat, inv := fun k => k <= List.length x.2.2.1 /\ perOK (List.take k x.2.2.1) (List.length x.2.1), dec := fun k => List.length x.2.2.1 - k, ovr := fun k => [(29, .shr tI (k : Int)), (28, .shr tI (List.length x.2.2.1 : Int)), (7, .own (.slice tI) (.own .shr) (Sp.atL x.2.2.1 (List.length x.2.1) k))], keep := [27, 3, 1, 2] },
 {ι := Nat, inv := fun i => i <= List.length x.2.1 /\ ∀ k, k < i -> ∀ j, j < k -> Sp.depP x.1 (Sp.insAt x.2.1 j) (Sp.insAt x.2.1 k) = true -> Sp.xAt (Sp.atL x.2.2.1 (List.length x.2.1) (List.length x.2.2.1)) j <= Sp.xAt (Sp.atL x.2.2.1 (List.length x.2.1) (List.length x.2.2.1)) k, dec := fun i => List.length x.2.1 - i, ovr := fun i => [(63, .shr tI (i : Int)), (62, .shr tI (List.length x.2.1 : Int))], keep := [61, 7, 3, 1, 2], sub := fun i => [{ ι := Nat, inv := fun j => j <= i /\ ∀ k, k < j -> Sp.depP x.1 (Sp.insAt x.2.1 k) (Sp.insAt x.2.1 i) = true -> Sp.xAt (Sp.atL x.2.2.1 (List.length x.2.1) (List.length x.2.2.1)) k <= Sp.xAt (Sp.atL x.2.2.1 (List.length x.2.1) (List.length x.2.2.1)) i, dec := fun j => i - j, ovr := fun j => [(70, .shr tI (j : Int)), (69, .shr tI (i : Int))], keep := [68, 61, 62, 63, 7, 11, 12, 3, 1, 2] }] }]
abbrev mRun : Md := .pair .shr (.pair .shr (.pair .shr (.pair .shr (.pair .shr (.pair (.own .shr) (.pair (.own .shr) (.pair (.own .shr) .shr)))))))
def S28 : FSpec := { args := [.val tCode], multi := true, res := .prod tCode (.prod tOrd .unit), mode := .shr, pre := fun x => vOK x.1, fn := fun x => (Sp.runC Sp.depP x.1, (Sp.runX Sp.depP x.1, ()), ()) }
def C28 : Ctx := { mkC 57 [(56, S56), (57, S57), (58, S58), (59, S59), (43, S43)] with mds := [(2, .shr), (3, .shr), (4, .pair (.own .shr) .shr), (5, mRun)], fzs := [4, 5] }
def L28 (x : kdens S28.args) : List LoopI := [{ ι := Nat, inv := fun b => b <= (Sp.cB x.1).length, dec := fun b => (Sp.cB x.1).length - b, ovr := fun b => [(24, .shr tI (b : Int)), (23, .shr tI ((Sp.cB x.1).length : Int)), (4, .box tOrd (.pair (.own .shr) .shr) (Sp.xsR Sp.depP x.1 b, ())), (5, .box tCode mRun (Sp.setB x.1 (Sp.reoN x.1 (Sp.runX Sp.depP x.1) b)))], keep := [1, 2, 3] }]
def S18 : FSpec := { args := [.val tCode, .val tCode, .val tOrd], multi := false, res := tI, mode := .shr, pre := fun x => vOK x.1, fn := fun x => Sp.chkP x.1 x.2.1 x.2.2.1.1 }
def C18 : Ctx := mkC 131 [(39, S39), (40, S40), (41, S41), (42, S42), (43, S43)]
def L18 (x : kdens S18.args) : List LoopI := [{ ι := Nat, inv := fun b => b <= (Sp.cB x.1).length /\ Sp.headB x.1 x.2.1 = true /\ (Sp.cB x.2.1).length = (Sp.cB x.1).length /\ List.length x.2.2.1.1 = (Sp.cB x.1).length /\ ∀ k, k < b -> Sp.rgtB (Sp.depQ x.1) (Sp.blkAt x.1 k).1 (Sp.xsAt x.2.2.1.1 k) = true /\ Sp.reoK x.1 x.2.2.1.1 k = Sp.blkAt x.2.1 k, dec := fun b => (Sp.cB x.1).length - b, ovr := fun b => [(80, .shr tI (b : Int)), (79, .shr tI ((Sp.cB x.1).length : Int))], keep := [3, 4, 5] }]
end
end Go.User
namespace Sp
theorem all_range {f : Nat -> Bool} {n : Nat} : (List.range n).all f = true ↔ ∀ i, i < n -> f i = true := by
 rw [List.all_eq_true]
 exact ⟨fun h i hi => h i (List.mem_range.2 hi), fun h i hi => h i (List.mem_range.1 hi)⟩
theorem mem_of (l : List Int) (n : Int) : mem l n = true ↔ n ∈ l := decide_eq_true_iff
theorem rdyB_iff (dep : Inst -> Inst -> Bool) (l : List Inst) (out : List Int) (n : Nat) : rdyB dep l out n = true ↔ (n : Int) ∉ out /\ ∀ i, i < n -> (i : Int) ∈ out ∨ dep (insAt l i) (insAt l n) = false := by
 unfold rdyB
 rw [Bool.and_eq_true, all_range]
 refine and_congr ?_ ?_
 ·rw [Bool.not_eq_true', <- Bool.not_eq_true, mem_of]
 ·refine forall_congr' fun i => imp_congr Iff.rfl ?_
  rw [Bool.or_eq_true, mem_of, Bool.not_eq_true']
theorem nxS_spec (rdy ld : Nat -> Bool) : ∀ k, (nxS rdy ld k = -1 /\ ∀ i, i < k -> rdy i = false) ∨
  ∃ m, m < k /\ nxS rdy ld k = (m : Int) /\ rdy m = true /\ ((ld m = true /\ ∀ i, i < m -> ¬(rdy i = true /\ ld i = true)) ∨ (ld m = false /\ (∀ i, i < k -> rdy i = true -> ld i = false) /\ ∀ i, i < m -> rdy i = false))
 | 0 => .inl ⟨rfl, fun i hi => by omega⟩
 | k + 1 => by
  have e : nxS rdy ld (k + 1) = if (rdy k && (decide (nxS rdy ld k < 0) || ld k && !ld (nxS rdy ld k).toNat)) = true then (k : Int) else nxS rdy ld k := rfl
  rcases nxS_spec rdy ld k with ⟨h1, h2⟩ | ⟨m, hm, h1, h2, h3⟩
  ·rw [h1] at e
   cases hr : rdy k
   ·left
    refine ⟨by rw [e, hr]; rfl, fun i hi => ?_⟩
    rcases Nat.lt_succ_iff_lt_or_eq.1 hi with h | h
    ·exact h2 i h
    ·rw [h]; exact hr
   ·right
    refine ⟨k, Nat.lt_succ_self k, by rw [e, hr]; rfl, hr, ?_⟩
    cases hl : ld k
    ·refine .inr ⟨rfl, fun i hi hri => ?_, h2⟩
     rcases Nat.lt_succ_iff_lt_or_eq.1 hi with h | h
     ·rw [h2 i h] at hri; cases hri
     ·rw [h]; exact hl
    ·refine .inl ⟨rfl, fun i hi hri => ?_⟩
     rw [h2 i hi] at hri;cases hri.1
  ·rw [h1] at e
   have hn : ¬ ((m : Int) < 0) := by omega
   rw [decide_eq_false hn, Bool.false_or, Int.toNat_natCast] at e;cases hc : (rdy k && (ld k && !ld m))
   ·rw [hc] at e
    right
    refine ⟨m, by omega, e, h2, ?_⟩
    rcases h3 with h3 | ⟨g1, g2, g3⟩
    ·exact .inl h3
    ·refine .inr ⟨g1, fun i hi hri => ?_, g3⟩
     rcases Nat.lt_succ_iff_lt_or_eq.1 hi with h | h
     ·exact g2 i h hri
     ·rw [h] at hri ⊢
      rw [hri, g1] at hc
      simpa using hc
   ·rw [hc] at e
    simp only [Bool.and_eq_true, Bool.not_eq_true'] at hc;obtain ⟨c1, c2, c3⟩ := hc;right;refine ⟨k, Nat.lt_succ_self k, e, c1, .inl ⟨c2, fun i hi hri => ?_⟩⟩
    rcases h3 with ⟨g1, _⟩ | ⟨g1, g2, g3⟩
    ·rw [g1] at c3; cases c3
    ·rw [g2 i hi hri.1] at hri
     cases hri.2
theorem nxS_stay (rdy ld : Nat -> Bool) {i : Nat} (h1 : rdy i = true) (h2 : ld i = true) (h3 : ∀ k, k < i -> ¬(rdy k = true /\ ld k = true)) : ∀ k, i < k -> nxS rdy ld k = (i : Int) := by
 intro k hk
 rcases nxS_spec rdy ld k with ⟨g1, g2⟩ | ⟨m, hm, g1, g2, g3⟩
 ·rw [g2 i hk] at h1; cases h1
 ·rw [g1]
  rcases g3 with ⟨k1, k2⟩ | ⟨k1, k2, k3⟩
  ·rcases Nat.lt_trichotomy m i with h | h | h
   ·exact absurd ⟨g2, k1⟩ (h3 m h)
   ·rw [h]
   ·exact absurd ⟨h1, h2⟩ (k2 i h)
  ·rw [k2 i hk h1] at h2; cases h2
theorem ordN_len (f : List Int -> Int) : ∀ k, (ordN f k).length = k
 | 0 => rfl
 | k + 1 => by
  show (ordN f k ++ [f (ordN f k)]).length = k + 1
  rw [List.length_append, ordN_len f k]; rfl
theorem lstO_len (dep : Inst -> Inst -> Bool) (l : List Inst) : (lstO dep l).length = l.length := ordN_len _ _
theorem some_missing {out : List Int} {n : Nat} (h : out.length < n) : ∃ i, i < n /\ (i : Int) ∉ out /\ ∀ j, j < i -> (j : Int) ∈ out := by
 have hex : ∃ i, i < n /\ (i : Int) ∉ out := by
  apply Classical.byContradiction
  intro hne;have hall : ∀ i, i < n -> (i : Int) ∈ out := fun i hi => Classical.byContradiction fun hc => hne ⟨i, hi, hc⟩
  have hnd : ((List.range n).map fun (i : Nat) => (i : Int)).Nodup := by
   unfold List.Nodup;exact List.pairwise_map.2 (List.Pairwise.imp (fun h => by omega) (List.nodup_range (n := n)))
  have := hnd.length_le_of_subset (l₂ := out) (by
   intro v hv;obtain ⟨i, hi, rfl⟩ := List.mem_map.1 hv;exact hall i (List.mem_range.1 hi))
  rw [List.length_map, List.length_range] at this;omega
 obtain ⟨i, hi⟩ := hex
 induction i using Nat.strongRecOn with
 | ind i ih =>
  rcases Classical.em (∃ j, j < i /\ (j : Int) ∉ out) with ⟨j, hj, hjo⟩ | hno
  ·exact ih j hj ⟨by omega, hjo⟩
  ·exact ⟨i, hi.1, hi.2, fun j hj => Classical.byContradiction fun hc => hno ⟨j, hj, hc⟩⟩
theorem some_ready (dep : Inst -> Inst -> Bool) (l : List Inst) {out : List Int} {n : Nat} (h : out.length < n) : ∃ i, i < n /\ rdyB dep l out i = true := by
 obtain ⟨i, h1, h2, h3⟩ := some_missing h
 exact ⟨i, h1, (rdyB_iff dep l out i).2 ⟨h2, fun j hj => .inl (h3 j hj)⟩⟩
theorem stpO_spec (dep : Inst -> Inst -> Bool) (l : List Inst) {out : List Int} (h : out.length < l.length) : ∃ m, m < l.length /\ stpO dep l out = (m : Int) /\ rdyB dep l out m = true /\
  ((ldB l m = true /\ ∀ i, i < m -> ¬(rdyB dep l out i = true /\ ldB l i = true)) ∨ (ldB l m = false /\ (∀ i, i < l.length -> rdyB dep l out i = true -> ldB l i = false) /\ ∀ i, i < m -> rdyB dep l out i = false)) := by
 rcases nxS_spec (rdyB dep l out) (ldB l) l.length with ⟨g1, g2⟩ | h
 ·obtain ⟨i, h1, h2⟩ := some_ready dep l h
  rw [g2 i h1] at h2; cases h2
 ·exact h
theorem ordN_ok (dep : Inst -> Inst -> Bool) (l : List Inst) : ∀ k, k <= l.length -> (ordN (stpO dep l) k).Nodup /\ ∀ v ∈ ordN (stpO dep l) k, 0 <= v /\ v < (l.length : Int)
 | 0, _ => ⟨List.nodup_nil, fun v hv => (List.not_mem_nil hv).elim⟩
 | k + 1, hk => by
  obtain ⟨h1, h2⟩ := ordN_ok dep l k (by omega);obtain ⟨m, hm, e, hr, _⟩ := stpO_spec dep l (out := ordN (stpO dep l) k) (by rw [ordN_len]; omega);have hn := ((rdyB_iff dep l _ m).1 hr).1;show (ordN (stpO dep l) k ++ [stpO dep l (ordN (stpO dep l) k)]).Nodup /\ ∀ v ∈ ordN (stpO dep l) k ++ [stpO dep l (ordN (stpO dep l) k)], _;rw [e];refine ⟨List.nodup_append.2 ⟨h1, List.nodup_cons.2 ⟨List.not_mem_nil, List.nodup_nil⟩, ?_⟩, ?_⟩
  ·intro a ha b hb hab
   rw [List.mem_singleton] at hb;rw [hab, hb] at ha;exact hn ha
  ·intro v hv
   rcases List.mem_append.1 hv with hv | hv
   ·exact h2 v hv
   ·rw [List.mem_singleton] at hv
    rw [hv]; omega
theorem perm_in : ∀ {n : Nat} {x : List Int}, x.length = n -> (∀ i, i < n -> (i : Int) ∈ x) -> x.Nodup /\ ∀ k ∈ x, 0 <= k /\ k < (n : Int)
 | 0, x, hl, _ => by
  have : x = [] := List.eq_nil_of_length_eq_zero hl
  subst this;exact ⟨List.nodup_nil, fun k hk => (List.not_mem_nil hk).elim⟩
 | n + 1, x, hl, h => by
  have hm := h n (by omega)
  have hp := List.perm_cons_erase hm
  have hlen : (x.erase (n : Int)).length = n := by
   have := hp.length_eq
   simp only [List.length_cons] at this;omega
  have hall : ∀ i, i < n -> (i : Int) ∈ x.erase (n : Int) := by
   intro i hi;exact (List.mem_erase_of_ne (by omega)).2 (h i (by omega))
  obtain ⟨h1, h2⟩ := perm_in hlen hall;have hnot : (n : Int) ∉ x.erase (n : Int) := fun hc => by have := h2 _ hc; omega
  refine ⟨hp.nodup_iff.2 (List.nodup_cons.2 ⟨hnot, h1⟩), fun k hk => ?_⟩
  rcases List.mem_cons.1 (hp.mem_iff.1 hk) with rfl | hk
  ·omega
  ·have := h2 k hk; omega
theorem in_perm {n : Nat} {x : List Int} (hl : x.length = n) (hn : x.Nodup) (hr : ∀ k ∈ x, 0 <= k /\ k < (n : Int)) : ∀ i, i < n -> (i : Int) ∈ x := by
 intro i hi
 apply Classical.byContradiction
 intro hc
 have hnd : ((i : Int) :: x).Nodup := List.nodup_cons.2 ⟨hc, hn⟩
 have := hnd.length_le_of_subset (l₂ := (List.range n).map fun (i : Nat) => (i : Int)) (by
  intro v hv;rw [List.mem_map];rcases List.mem_cons.1 hv with rfl | hv
  ·exact ⟨i, List.mem_range.2 hi, rfl⟩
  ·have := hr v hv
   exact ⟨v.toNat, List.mem_range.2 (by omega), by omega⟩)
 rw [List.length_map, List.length_range, List.length_cons] at this
 omega
theorem rgtB_iff (dep : Inst -> Inst -> Bool) (l : List Inst) (x : List Int) : rgtB dep l x = true ↔ x.length = l.length /\ (∀ n, n < l.length -> (n : Int) ∈ x) /\ ∀ i, i < x.length -> ∀ j, j < x.length -> badP dep l x i j = false := by
 unfold rgtB
 rw [Bool.and_eq_true, Bool.and_eq_true, decide_eq_true_iff, all_range, all_range, and_assoc]
 refine and_congr Iff.rfl (and_congr ?_ ?_)
 ·exact forall_congr' fun n => imp_congr Iff.rfl (mem_of x _)
 ·refine forall_congr' fun i => imp_congr Iff.rfl ?_
  rw [all_range];exact forall_congr' fun j => imp_congr Iff.rfl (by rw [Bool.not_eq_true'])
theorem badP_iff (dep : Inst -> Inst -> Bool) (l : List Inst) (x : List Int) (i j : Nat) : badP dep l x i j = true ↔ i < j /\ xAt x j < xAt x i /\ dep (insAt l (xAt x i).toNat) (insAt l (xAt x j).toNat) = true := by
 unfold badP
 rw [Bool.and_eq_true, Bool.and_eq_true, decide_eq_true_iff, decide_eq_true_iff, and_assoc]
theorem rgtB_perm {dep : Inst -> Inst -> Bool} {l : List Inst} {x : List Int} (h : rgtB dep l x = true) : x.length = l.length /\ x.Nodup /\ (∀ k ∈ x, 0 <= k /\ k < (l.length : Int)) /\ ∀ n, n < l.length -> (n : Int) ∈ x := by
 obtain ⟨h1, h2, _⟩ := (rgtB_iff dep l x).1 h
 obtain ⟨h3, h4⟩ := perm_in h1 h2
 exact ⟨h1, h3, h4, h2⟩
theorem blkAt_mem {c : Code} {b : Nat} (h : b < (cB c).length) : blkAt c b ∈ cB c := by
 unfold blkAt
 rw [List.getD_eq_getElem?_getD, List.getElem?_eq_getElem h]
 exact List.getElem_mem h
theorem getD_map_range {α : Type} (f : Nat -> α) {n b : Nat} (h : b < n) (d : α) : ((List.range n).map f).getD b d = f b := by
 rw [List.getD_eq_getElem?_getD, List.getElem?_map, List.getElem?_range h]; rfl
theorem reoN_len (c : Code) (X : List (List Int)) (n : Nat) : (reoN c X n).length = (cB c).length := by unfold reoN; rw [List.length_map, List.length_range]
theorem reoN_at (c : Code) (X : List (List Int)) (n : Nat) {b : Nat} (h : b < (cB c).length) (d : Block) : (reoN c X n).getD b d = if b < n then reoK c X b else blkAt c b := getD_map_range _ h d
theorem ext_getD {α : Type} {a b : List α} (d : α) (hl : a.length = b.length) (h : ∀ i, i < a.length -> a.getD i d = b.getD i d) : a = b := by
 apply List.ext_getElem hl
 intro i h1 h2
 have := h i h1
 rwa [List.getD_eq_getElem?_getD, List.getD_eq_getElem?_getD, List.getElem?_eq_getElem h1, List.getElem?_eq_getElem h2] at this
theorem getD_set {α : Type} (a : List α) (i j : Nat) (v d : α) (hi : i < a.length) : (a.set i v).getD j d = if i = j then v else a.getD j d := by
 rw [List.getD_eq_getElem?_getD, List.getD_eq_getElem?_getD, List.getElem?_set]
 split
 ·rfl
 ·rfl
theorem reoN_zero (c : Code) (X : List (List Int)) : reoN c X 0 = cB c := by
 refine ext_getD blk0 (reoN_len c X 0) fun b hb => ?_
 rw [reoN_len] at hb
 rw [reoN_at c X 0 hb, if_neg (by omega)]; rfl
theorem reoN_succ (c : Code) (X : List (List Int)) {n : Nat} (h : n < (cB c).length) : reoN c X (n + 1) = (reoN c X n).set n (reoK c X n) := by
 refine ext_getD blk0 (by rw [List.length_set, reoN_len, reoN_len]) fun b hb => ?_
 rw [reoN_len] at hb
 rw [reoN_at c X (n + 1) hb, getD_set _ _ _ _ _ (by rw [reoN_len]; exact h), reoN_at c X n hb]
 rcases Nat.lt_trichotomy b n with g | g | g
 ·rw [if_pos (by omega), if_neg (by omega), if_pos g]
 ·rw [if_pos (by omega), if_pos g.symm, g]
 ·rw [if_neg (by omega), if_neg (by omega), if_neg (by omega)]
theorem set_set' {α : Type} (a : List α) (i : Nat) (v w : α) : (a.set i v).set i w = a.set i w := List.set_set ..
theorem runX_len (dep : Code -> Inst -> Inst -> Bool) (c : Code) : (runX dep c).length = (cB c).length := List.length_map _
theorem runX_at (dep : Code -> Inst -> Inst -> Bool) (c : Code) {b : Nat} (h : b < (cB c).length) : xsAt (runX dep c) b = lstO (dep c) (blkAt c b).1 := by
 unfold xsAt runX blkAt
 rw [List.getD_eq_getElem?_getD, List.getElem?_map, List.getElem?_eq_getElem h, List.getD_eq_getElem?_getD, List.getElem?_eq_getElem h]
 rfl
theorem xsR_succ (dep : Code -> Inst -> Inst -> Bool) (c : Code) {b : Nat} (h : b < (cB c).length) (d : Block) (hd : d = blk0) : xsR dep c b ++ lstO (dep c) ((cB c).getD b d).1 :: [] = xsR dep c (b + 1) := by
 unfold xsR
 rw [List.take_add_one, List.getElem?_eq_getElem h, List.map_append, List.getD_eq_getElem?_getD, List.getElem?_eq_getElem h]
 rfl
theorem xsR_end (dep : Code -> Inst -> Inst -> Bool) (c : Code) {b : Nat} (h : (cB c).length <= b) : xsR dep c b = runX dep c := by
 unfold xsR runX
 rw [List.take_of_length_le h]
theorem lstO_ok (dep : Inst -> Inst -> Bool) (l : List Inst) : (lstO dep l).Nodup /\ ∀ v ∈ lstO dep l, 0 <= v /\ v < (l.length : Int) := ordN_ok dep l l.length (Nat.le_refl _)
end Sp
namespace Go.User
theorem vOK.blk {c : Sp.Code} (h : vOK c) {b : Nat} (hb : b < (Sp.cB c).length) : lOK c (Sp.blkAt c b).1 := ⟨h.1.2.2.2 _ (Sp.blkAt_mem hb), h.2 _ (Sp.blkAt_mem hb)⟩
end Go.User
namespace Go.User
open Go.Proofs Go.Lf
set_option maxRecDepth 100000
theorem vc43 : (funI C43 (stpS C43) S43 L43 Try.f43) = (
let q0 : Prop := (True /\ True) /\ True;
let q1 : Prop := True /\ True /\ True;
let q2 : Prop := True /\ q1;
let q3 : Int := (0 : Int);
let q4 : Sp.Opd := (q3, q3, q3, ());
let q5 : Sp.Inst := (q3, q3, q3, q4, q4, q4, q4, ());
let q6 : Int := (1 : Int);
∀ (x : List Sp.Inst × List Int × Unit),
 let q7 : Nat := x.2.1.length;
 let q8 : Nat := x.1.length;
 let q9 : Int := (↑q7 : Int);
 let q10 : Prop := q9 = q9;
 let q11 : Prop := x.2.1 = x.2.1;
 let q12 : Prop := q11 /\ x.1 = x.1 /\ q11 /\ True;
 (q7 <= (5000 : Nat) /\ ∀ (k : Int), k ∈ x.2.1 -> (0 : tI.den) <= k /\ k < (↑q8 : Int)) ->
 dFact tInst.slice x.1 /\ dFact tI.slice x.2.1 /\ True ->
 q0 /\
 ((True /\ True /\ ((0 : tI.den) <= q9 /\ q9 <= q9 /\ q9 <= maxNew) /\ True) /\ True /\ True) /\
 (q2 /\ True) /\
 (∃ (x_1 : Nat), x_1 <= q7 /\ q3 = (↑x_1 : Int) /\ q10 /\ List.replicate q9.toNat q5 = Sp.reoL x.1 (List.take x_1 x.2.1) ++ List.replicate (q7 - x_1) Sp.inst0 /\ q12) /\
 ∀ (x_1 : Nat),
 let q13 : Nat := q7 - x_1;
 let q14 : List Sp.Inst := Sp.reoL x.1 (List.take x_1 x.2.1) ++ List.replicate q13 Sp.inst0;
 let q15 : Bool := decide ((↑x_1 : Int) < q9);
 let q16 : Nat := (↑x_1 : Int).toNat;
 let q17 : Int := x.2.1.getD q16 q3;
 let q18 : Int := (↑x_1 : Int) + q6;
 x_1 <= q7 ->
 dFact tI (↑x_1 : Int) /\ dFact tI q9 /\ dFact tInst.slice q14 /\ True ->
 q0 /\
 (q15 = true ->
 ((True /\ inN (↑x_1 : Int) q7 /\ q2) /\ True) /\
 ((True /\ True /\ True /\ True /\ inN q17 q8 /\ True /\ inN (↑x_1 : Int) q14.length /\ True) /\ True /\ True) /\
 ((inK IntKind.i64 q18 /\ True /\ True) /\ True) /\
 ∃ (y : Nat),
 let q19 : Nat := q7 - y;
 y <= q7 /\ q19 < q13 /\ q18 = (↑y : Int) /\ q10 /\ q14.set q16 (x.1.getD q17.toNat q5) = Sp.reoL x.1 (List.take y x.2.1) ++ List.replicate q19 Sp.inst0 /\ q12) /\
 (q15 = false -> (q1 /\ True) /\ q14 = Sp.reoL x.1 x.2.1)) := by kernel_rfl
theorem vc59 : (funIT C59 (stpS C59) S59 T59 Try.f59) = (
let q0 : Nat := (3000 : Nat);
let q1 : Int := (7 : Int);
let q2 : Int := (0 : Int);
let q3 : Prop := True /\ True /\ True;
let q4 : Prop := q3 /\ True;
let q5 : Prop := (True /\ True) /\ True;
let q6 : Prop := True /\ q3;
let q7 : Int := (1 : Int);
let q8 : Sp.Opd := (q2, q2, q2, ());
∀ (x : Sp.Code × List Sp.Inst × Unit),
 let q9 : Prop := x.2.1.length <= q0 /\ ∀ (i : Sp.Inst), i ∈ x.2.1 -> Sp.opI i = q1 ∨ Sp.opI i = (8 : Int) ∨ Sp.opI i = (9 : Int) -> q2 <= Sp.nI i /\ Sp.nI i < (↑(Sp.cA x.1).length : Int);
 let q10 : Nat := x.2.1.length;
 let q11 : Int := (↑q10 : Int);
 let q12 : Prop := x.2.1 = x.2.1;
 let q13 : List (List Bool) := Sp.mskL (Sp.depP x.1) x.2.1;
 let q14 : Prop := q13 = q13;
 let q15 : Prop := x.1 = x.1;
 let q16 : Prop := q12 /\ q14 /\ q15 /\ True;
 let q17 : Prop := q11 = q11;
 q9 ->
 dFact tCode x.1 /\ dFact tInst.slice x.2.1 /\ True ->
 q4 /\
 ((True /\ True /\ q9 /\ True /\ True) /\ True) /\
 ((True /\ True /\ ((0 : tI.den) <= q11 /\ q11 <= q11 /\ q11 <= maxNew) /\ True) /\ True /\ True) /\
 q5 /\
 (∃ (x_1 : Nat),
 let q18 : List Int := Sp.ordN (Sp.stpO (Sp.depP x.1) x.2.1) x_1;
 x_1 <= q10 /\ q18 = ([] : List tI.den) /\ List.replicate q11.toNat false = Sp.doneL q18 q10 /\ q16) /\
 ∀ (x_1 : Nat),
 let q19 : List Int := Sp.ordN (Sp.stpO (Sp.depP x.1) x.2.1) x_1;
 let q20 : List Bool := Sp.doneL q19 q10;
 let q21 : Nat := q19.length;
 let q22 : Bool := decide ((↑q21 : Int) < q11);
 let q23 : Prop := q20 = q20;
 let q24 : Prop := q19 = q19;
 let q25 : Prop := q12 /\ q15 /\ q14 /\ q23 /\ q24 /\ True;
 let q26 : Nat := q20.length;
 let q27 : Int := Sp.stpO (Sp.depP x.1) x.2.1 q19;
 let q28 : List Int := q27 :: ([] : List tI.den);
 x_1 <= q10 ->
 dFact tI.slice q19 /\ dFact Ty.bool.slice q20 /\ True ->
 ((True /\ True /\ q6) /\ True) /\
 (q22 = true ->
 q5 /\
 ((q6 /\ True) /\
 (∃ (x_2 : Nat), (x_2 <= q10 /\ ∀ (k : Nat), k < x_2 -> ¬(Sp.rdyB (Sp.depP x.1) x.2.1 q19 k = true /\ Sp.ldB x.2.1 k = true)) /\ q2 = (↑x_2 : Int) /\ q17 /\ -q7 = Sp.nxS (Sp.rdyB (Sp.depP x.1) x.2.1 q19) (Sp.ldB x.2.1) x_2 /\ q25) /\
 ∀ (x_2 : Nat),
 let q29 : Prop := dFact tI (↑x_2 : Int);
 let q30 : Int := Sp.nxS (Sp.rdyB (Sp.depP x.1) x.2.1 q19) (Sp.ldB x.2.1) x_2;
 let q31 : Bool := decide ((↑x_2 : Int) < q11);
 let q32 : Nat := (↑x_2 : Int).toNat;
 let q33 : Bool := q20.getD q32 false;
 let q34 : Int := (↑x_2 : Int) + q7;
 let q35 : Prop := (inK IntKind.i64 q34 /\ True /\ True) /\ True;
 let q36 : Prop := q35 /\ ∃ (y : Nat), (y <= q10 /\ ∀ (k : Nat), k < y -> ¬(Sp.rdyB (Sp.depP x.1) x.2.1 q19 k = true /\ Sp.ldB x.2.1 k = true)) /\ q10 - y < q10 - x_2 /\ q34 = (↑y : Int) /\ q17 /\ q30 = Sp.nxS (Sp.rdyB (Sp.depP x.1) x.2.1 q19) (Sp.ldB x.2.1) y /\ q25;
 let q37 : List Bool := q13.getD q32 (([] : List Ty.bool.den));
 let q38 : Nat := q37.length;
 let q39 : Prop := (↑x_2 : Int) = (↑x_2 : Int);
 let q40 : Prop := q12 /\ q15 /\ q14 /\ q23 /\ q24 /\ q30 = q30 /\ q39 /\ q17 /\ q39 /\ q37 = q37 /\ True;
 let q41 : Bool := (x.2.1.getD q32 (q2, q2, q2, q8, q8, q8, q8, ())).1 == q1;
 let q42 : Bool := decide (q30 < q2);
 (x_2 <= q10 /\ ∀ (k : Nat), k < x_2 -> ¬(Sp.rdyB (Sp.depP x.1) x.2.1 q19 k = true /\ Sp.ldB x.2.1 k = true)) ->
 q29 /\ dFact tI q11 /\ dFact tI q30 /\ True ->
 q5 /\
 (q31 = true ->
 q4 /\
 ((True /\ True /\ inN (↑x_2 : Int) q26 /\ True /\ True) /\ True) /\
 (q33 = true -> q36) /\
 (q33 = false ->
 ((True /\ True /\ inN (↑x_2 : Int) q13.length /\ q6) /\ True) /\
 (∃ (x_3 : Nat), (x_3 <= x_2 /\ ((List.range x_3).all fun (j : Nat) => Sp.mem q19 (↑j : Int) || !Sp.depP x.1 (Sp.insAt x.2.1 j) (Sp.insAt x.2.1 x_2)) = true) /\ q2 = (↑x_3 : Int) /\ (↑q38 : Int) = (↑x_2 : Int) /\ q40) /\
 ∀ (x_3 : Nat),
 let q43 : Bool := decide ((↑x_3 : Int) < (↑x_2 : Int));
 let q44 : Nat := (↑x_3 : Int).toNat;
 let q45 : Bool := q37.getD q44 false;
 let q46 : Prop := (true && bif q45 then true else false) = true;
 let q47 : Prop := q46 -> True;
 let q48 : Bool := bif q45 then !q20.getD q44 false else false;
 let q49 : Int := (↑x_3 : Int) + q7;
 x_3 <= x_2 /\ ((List.range x_3).all fun (j : Nat) => Sp.mem q19 (↑j : Int) || !Sp.depP x.1 (Sp.insAt x.2.1 j) (Sp.insAt x.2.1 x_2)) = true -> dFact tI (↑x_3 : Int) /\ q29 /\ True -> q5 /\ (q43 = true -> ((True /\ inN (↑x_3 : Int) q38 /\ q6) /\ True) /\ ((True /\ True /\ q47 /\ q47 /\ (q46 -> inN (↑x_3 : Int) q26) /\ q47 /\ q47 /\ True /\ True) /\ True) /\ (q48 = true -> q36) /\ (q48 = false -> ((inK IntKind.i64 q49 /\ True /\ True) /\ True) /\ ∃ (y : Nat), (y <= x_2 /\ ((List.range y).all fun (j : Nat) => Sp.mem q19 (↑j : Int) || !Sp.depP x.1 (Sp.insAt x.2.1 j) (Sp.insAt x.2.1 x_2)) = true) /\ x_2 - y < x_2 - x_3 /\ q49 = (↑y : Int) /\ q39 /\ q40)) /\ (q43 = false -> ((True /\ True /\ inN (↑x_2 : Int) q10 /\ q6) /\ True) /\ (q41 = true -> q4 /\ ∃ (x : Unit), True /\ (↑x_2 : Int) = q27 /\ q25) /\ (q41 = false -> q4 /\ (q42 = true -> q4 /\ q35 /\ ∃ (y : Nat), (y <= q10 /\ ∀ (k : Nat), k < y -> ¬(Sp.rdyB (Sp.depP x.1) x.2.1 q19 k = true /\ Sp.ldB x.2.1 k = true)) /\ q10 - y < q10 - x_2 /\ q34 = (↑y : Int) /\ q17 /\ (↑x_2 : Int) = Sp.nxS (Sp.rdyB (Sp.depP x.1) x.2.1 q19) (Sp.ldB x.2.1) y /\ q25) /\ (q42 = false -> q36))))) /\
 (q31 = false -> ∃ (x : Unit), True /\ q30 = q27 /\ q25)) /\
 ∀ (x_2 : Unit),
 True ->
 dFact tI q27 /\ True ->
 ((True /\ True /\ inN q27 q26 /\ True) /\ True /\ True) /\
 (q6 /\ (↑(q21 + q28.length) : Int) <= maxNew /\ True /\ True) /\
 ∃ (y : Nat),
 let q50 : List Int := Sp.ordN (Sp.stpO (Sp.depP x.1) x.2.1) y;
 y <= q10 /\ q10 - y < q10 - x_1 /\ q19 ++ q28 = q50 /\ q20.set q27.toNat true = Sp.doneL q50 q10 /\ q16) /\
 (q22 = false -> q4 /\ q19 = Sp.lstO (Sp.depP x.1) x.2.1)) := by kernel_rfl
theorem vc41 : (funI C41 (stpS C41) S41 L41 Try.f41) = (
let q0 : Nat := (3000 : Nat);
let q1 : Int := (0 : Int);
let q2 : Prop := True /\ True /\ True;
let q3 : Prop := q2 /\ True;
let q4 : Prop := True /\ q2;
let q5 : Prop := q4 /\ True;
let q6 : Int := (1 : Int);
let q7 : Int := -q6;
let q8 : Prop := (True /\ True) /\ True;
∀ (x : Sp.Code × List Sp.Inst × List Int × Unit),
 let q9 : Prop := x.2.1.length <= q0 /\ ∀ (i : Sp.Inst), i ∈ x.2.1 -> Sp.opI i = (7 : Int) ∨ Sp.opI i = (8 : Int) ∨ Sp.opI i = (9 : Int) -> q1 <= Sp.nI i /\ Sp.nI i < (↑(Sp.cA x.1).length : Int);
 let q10 : Nat := x.2.1.length;
 let q11 : Int := (↑q10 : Int);
 let q12 : List Int := List.replicate q11.toNat q1;
 let q13 : Prop := x.2.2.1 = x.2.2.1;
 let q14 : Prop := x.1 = x.1 /\ x.2.1 = x.2.1 /\ q13 /\ True;
 let q15 : Prop := dFact tI q11;
 let q16 : Prop := q11 = q11;
 let q17 : Nat := x.2.2.1.length;
 let q18 : Int := (↑q17 : Int);
 let q19 : Prop := q18 = q18;
 let q20 : Prop := q13 /\ q14;
 let q21 : Bool := Sp.rgtB (Sp.depQ x.1) x.2.1 x.2.2.1;
 let q22 : Prop := q8 /\ false = q21;
 let q23 : Bool := q18 != q11;
 let q24 : List Int := Sp.atL x.2.2.1 q10 q17;
 let q25 : List (List Bool) := Sp.mskL (Sp.depP x.1) x.2.1;
 let q26 : Nat := q25.length;
 let q27 : Prop := q25 = q25;
 q9 ->
 dFact tCode x.1 /\ dFact tInst.slice x.2.1 /\ dFact tI.slice x.2.2.1 /\ True ->
 q3 /\
 ((True /\ True /\ ((0 : tI.den) <= q11 /\ q11 <= q11 /\ q11 <= maxNew) /\ True) /\ True /\ True) /\
 q5 /\
 (∃ (x : Nat), x <= q10 /\ q1 = (↑x : Int) /\ (↑q12.length : Int) = q11 /\ q12 = List.replicate x q7 ++ List.replicate (q10 - x) q1 /\ q14) /\
 ∀ (x_1 : Nat),
 let q28 : Nat := q10 - x_1;
 let q29 : List Int := List.replicate x_1 q7 ++ List.replicate q28 q1;
 let q30 : Bool := decide ((↑x_1 : Int) < q11);
 let q31 : Int := (↑x_1 : Int) + q6;
 x_1 <= q10 ->
 dFact tI (↑x_1 : Int) /\ q15 /\ dFact tI.slice q29 /\ True ->
 q8 /\
 (q30 = true ->
 q3 /\
 ((True /\ True /\ inN (↑x_1 : Int) q29.length /\ True) /\ True /\ True) /\
 ((inK IntKind.i64 q31 /\ True /\ True) /\ True) /\
 ∃ (y : Nat),
 let q32 : Nat := q10 - y;
 y <= q10 /\ q32 < q28 /\ q31 = (↑y : Int) /\ q16 /\ q29.set (↑x_1 : Int).toNat q7 = List.replicate y q7 ++ List.replicate q32 q1 /\ q14) /\
 (q30 = false ->
 q5 /\
 (∃ (x_2 : Nat),
 let q33 : List Int := List.take x_2 x.2.2.1;
 (x_2 <= q17 /\ q33.Nodup /\ ∀ (k : Int), k ∈ q33 -> q1 <= k /\ k < q11) /\ q1 = (↑x_2 : Int) /\ q19 /\ q29 = Sp.atL x.2.2.1 q10 x_2 /\ q20) /\
 ∀ (x_2 : Nat),
 let q34 : List Int := List.take x_2 x.2.2.1;
 let q35 : List Int := Sp.atL x.2.2.1 q10 x_2;
 let q36 : Bool := decide ((↑x_2 : Int) < q18);
 let q37 : Int := x.2.2.1.getD (↑x_2 : Int).toNat q1;
 let q38 : Bool := decide (q37 < q1);
 let q39 : Prop := (true && bif q38 then false else true) = true -> True;
 let q40 : Bool := bif q38 then true else decide (q37 ≥ q11);
 let q41 : Prop := (true && bif q40 then false else true) = true;
 let q42 : Prop := q41 -> True;
 let q43 : Nat := q35.length;
 let q44 : Prop := inN q37 q43;
 let q45 : Nat := q37.toNat;
 let q46 : Bool := bif q40 then true else decide (q35.getD q45 q1 ≥ q1);
 let q47 : Int := (↑x_2 : Int) + q6;
 let q48 : Prop := q35 = q35;
 let q49 : Prop := q27 /\ q48 /\ q14;
 (x_2 <= q17 /\ q34.Nodup /\ ∀ (k : Int), k ∈ q34 -> q1 <= k /\ k < q11) ->
 dFact tI (↑x_2 : Int) /\ dFact tI q18 /\ dFact tI.slice q35 /\ True ->
 q8 /\
 (q36 = true ->
 ((True /\ inN (↑x_2 : Int) q17 /\ q4) /\ True) /\
 ((True /\ True /\ True /\ q39 /\ q39 /\ q39 /\ q39 /\ True /\ True /\ q42 /\ q42 /\ (q41 -> q44) /\ q42 /\ q42 /\ True /\ True) /\ True) /\
 (q46 = true -> q22) /\
 (q46 = false ->
 ((True /\ True /\ True /\ q44 /\ True) /\ True /\ True) /\
 ((inK IntKind.i64 q47 /\ True /\ True) /\ True) /\
 ∃ (y : Nat),
 let q50 : List Int := List.take y x.2.2.1;
 (y <= q17 /\ q50.Nodup /\ ∀ (k : Int), k ∈ q50 -> q1 <= k /\ k < q11) /\ q17 - y < q17 - x_2 /\ q47 = (↑y : Int) /\ q19 /\ q35.set q45 (↑x_2 : Int) = Sp.atL x.2.2.1 q10 y /\ q20)) /\
 (q36 = false ->
 ((True /\ True /\ q4) /\ True) /\
 (q23 = true -> q22) /\
 (q23 = false ->
 ((True /\ True /\ q9 /\ q2) /\ True) /\
 (∃ (x_3 : Nat), (x_3 <= q10 /\ ∀ (k : Nat), k < x_3 -> ∀ (j : Nat), j < k -> Sp.depP x.1 (Sp.insAt x.2.1 j) (Sp.insAt x.2.1 k) = true -> Sp.xAt q24 j <= Sp.xAt q24 k) /\ q1 = (↑x_3 : Int) /\ (↑q26 : Int) = q11 /\ q49) /\
 ∀ (x_3 : Nat),
 let q51 : Prop := dFact tI (↑x_3 : Int);
 let q52 : Bool := decide ((↑x_3 : Int) < q11);
 let q53 : Nat := (↑x_3 : Int).toNat;
 let q54 : List Bool := q25.getD q53 (([] : List Ty.bool.den));
 let q55 : Nat := q54.length;
 let q56 : Prop := q54 = q54;
 let q57 : Prop := (↑x_3 : Int) = (↑x_3 : Int);
 let q58 : Prop := q56 /\ q27 /\ q16 /\ q57 /\ q48 /\ q57 /\ q56 /\ q14;
 let q59 : Int := (↑x_3 : Int) + q6;
 (x_3 <= q10 /\ ∀ (k : Nat), k < x_3 -> ∀ (j : Nat), j < k -> Sp.depP x.1 (Sp.insAt x.2.1 j) (Sp.insAt x.2.1 k) = true -> Sp.xAt q24 j <= Sp.xAt q24 k) ->
 q51 /\ q15 /\ True ->
 q8 /\
 (q52 = true ->
 ((True /\ inN (↑x_3 : Int) q26 /\ q4) /\ True) /\
 q5 /\
 (∃ (x_4 : Nat), (x_4 <= x_3 /\ ∀ (k : Nat), k < x_4 -> Sp.depP x.1 (Sp.insAt x.2.1 k) (Sp.insAt x.2.1 x_3) = true -> Sp.xAt q24 k <= Sp.xAt q24 x_3) /\ q1 = (↑x_4 : Int) /\ (↑q55 : Int) = (↑x_3 : Int) /\ q58) /\
 ∀ (x_4 : Nat),
 let q60 : Bool := decide ((↑x_4 : Int) < (↑x_3 : Int));
 let q61 : Nat := (↑x_4 : Int).toNat;
 let q62 : Bool := q54.getD q61 false;
 let q63 : Prop := (true && bif q62 then true else false) = true;
 let q64 : Prop := q63 -> True;
 let q65 : Bool := bif q62 then decide (q35.getD q61 q1 > q35.getD q53 q1) else false;
 let q66 : Int := (↑x_4 : Int) + q6;
 (x_4 <= x_3 /\ ∀ (k : Nat), k < x_4 -> Sp.depP x.1 (Sp.insAt x.2.1 k) (Sp.insAt x.2.1 x_3) = true -> Sp.xAt q24 k <= Sp.xAt q24 x_3) -> dFact tI (↑x_4 : Int) /\ q51 /\ True -> q8 /\ (q60 = true -> ((True /\ inN (↑x_4 : Int) q55 /\ q4) /\ True) /\ ((True /\ True /\ q64 /\ q64 /\ (q63 -> inN (↑x_4 : Int) q43) /\ q64 /\ q64 /\ q64 /\ (q63 -> inN (↑x_3 : Int) q43) /\ q64 /\ q64 /\ True /\ True) /\ True) /\ (q65 = true -> q22) /\ (q65 = false -> ((inK IntKind.i64 q66 /\ True /\ True) /\ True) /\ ∃ (y : Nat), (y <= x_3 /\ ∀ (k : Nat), k < y -> Sp.depP x.1 (Sp.insAt x.2.1 k) (Sp.insAt x.2.1 x_3) = true -> Sp.xAt q24 k <= Sp.xAt q24 x_3) /\ x_3 - y < x_3 - x_4 /\ q66 = (↑y : Int) /\ q57 /\ q58)) /\ (q60 = false -> ((inK IntKind.i64 q59 /\ True /\ True) /\ True) /\ ∃ (y : Nat), (y <= q10 /\ ∀ (k : Nat), k < y -> ∀ (j : Nat), j < k -> Sp.depP x.1 (Sp.insAt x.2.1 j) (Sp.insAt x.2.1 k) = true -> Sp.xAt q24 j <= Sp.xAt q24 k) /\ q10 - y < q10 - x_3 /\ q59 = (↑y : Int) /\ q16 /\ q49)) /\
 (q52 = false -> q8 /\ true = q21))))) := by kernel_rfl
theorem vc28 : (funI C28 (stpS C28) S28 L28 Try.f28) = (
let q0 : Nat := (3000 : Nat);
let q1 : Int := (0 : Int);
let q2 : Nat := (2 : Nat);
let q3 : Prop := True /\ True /\ True;
let q4 : Prop := True /\ q3;
let q5 : Prop := (True /\ True) /\ True;
let q6 : Nat := (5000 : Nat);
let q7 : Prop := True /\ q4;
let q8 : List (List Int) := ([] : List tI.slice.den);
let q9 : Sp.Ord := (q8, ());
let q10 : Sp.Code := (q1, q1, q1, q1, q1, ([] : List tArr.den), ([] : List tLoop.den), ([] : List tBlk.den), ());
let q11 : Prop := q10 = q10 /\ q9 = q9 /\ True;
let q12 : Sp.Opd := (q1, q1, q1, ());
let q13 : Sp.Block := (([] : List tInst.den), (q1, q1, q12, q12, q12, List.replicate q2 q1, ()), ());
let q14 : List Step := Step.fst :: ([] : List Step);
let q15 : Int := (1 : Int);
let q16 : Nat := (5 : Nat);
let q17 : Prop := ([] : List Step) = ([] : List Step);
let q18 : Nat := (4 : Nat);
let q19 : Prop := (True /\ q18 = q18 /\ q17) /\ True;
∀ (x : Sp.Code × Unit),
 let q20 : Nat := (Sp.cA x.1).length;
 let q21 : Nat := (Sp.cB x.1).length;
 let q22 : Int × List Sp.Arr × List Sp.Opd × List Sp.Block × Unit := x.1.2.2.2.2;
 let q23 : List Sp.Arr × List Sp.Opd × List Sp.Block × Unit := q22.2;
 let q24 : List Sp.Arr := q23.1;
 let q25 : List Sp.Opd × List Sp.Block × Unit := q23.2;
 let q26 : List Sp.Opd := q25.1;
 let q27 : List Sp.Block × Unit := q25.2;
 let q28 : List Sp.Block := q27.1;
 let q29 : Nat := q28.length;
 let q30 : Int := (↑q21 : Int);
 let q31 : Int := x.1.2.2.2.1;
 let q32 : Int := q22.1;
 let q33 : Prop := x.1 = x.1 /\ q11;
 ((q20 <= q0 /\ (Sp.cL x.1).length <= q0 /\ q21 <= q0 /\ ∀ (b : Sp.Block), b ∈ Sp.cB x.1 -> b.1.length <= q0) /\ ∀ (b : Sp.Block), b ∈ Sp.cB x.1 -> ∀ (i : Sp.Inst), i ∈ b.1 -> Sp.opI i = (7 : Int) ∨ Sp.opI i = (8 : Int) ∨ Sp.opI i = (9 : Int) -> q1 <= Sp.nI i /\ Sp.nI i < (↑q20 : Int)) ->
 dFact (tI.prod (tI.prod (tI.prod (tI.prod (tI.prod (tArr.slice.prod (tLoop.slice.prod ((tInst.slice.prod ((tI.prod (tI.prod (tOpd.prod (tOpd.prod (tOpd.prod ((Ty.arr q2 tI).prod Ty.unit)))))).prod Ty.unit)).slice.prod Ty.unit)))))))) x.1 /\ True ->
 (q4 /\ True) /\
 q5 /\
 (q3 /\ True /\ True) /\
 ((True /\ True /\ q24.length <= q6 /\ True /\ True /\ q26.length <= q6 /\ True /\ True /\ q29 <= q6 /\ True /\ True) /\ True /\ q7) /\
 (q7 /\ True) /\
 (∃ (x_1 : Nat), x_1 <= q21 /\ q1 = (↑x_1 : Int) /\ (↑q29 : Int) = q30 /\ q9 = (Sp.xsR Sp.depP x.1 x_1, ()) /\ (x.1.1, x.1.2.1, x.1.2.2.1, q31, q32, q24, q26, q28, q27.2) = Sp.setB x.1 (Sp.reoN x.1 (Sp.runX Sp.depP x.1) x_1) /\ q33) /\
 ∀ (x_1 : Nat),
 let q34 : List (List Int) := Sp.xsR Sp.depP x.1 x_1;
 let q35 : Sp.Ord := (q34, ());
 let q36 : List Sp.Block := Sp.reoN x.1 (Sp.runX Sp.depP x.1) x_1;
 let q37 : Sp.Code := Sp.setB x.1 q36;
 let q38 : Bool := decide ((↑x_1 : Int) < q30);
 let q39 : Prop := inN (↑x_1 : Int) q29;
 let q40 : Nat := (↑x_1 : Int).toNat;
 let q41 : List Sp.Inst := (q28.getD q40 q13).1;
 let q42 : List Int := Sp.lstO (Sp.depP x.1) q41;
 let q43 : List (List Int) := q42 :: q8;
 let q44 : Int := (↑x_1 : Int) + q15;
 x_1 <= q21 -> dFact tI (↑x_1 : Int) /\ dFact tI q30 /\ dFact tOrd q35 /\ dFact (tI.prod (tI.prod (tI.prod (tI.prod (tI.prod (tArr.slice.prod (tLoop.slice.prod ((tInst.slice.prod ((tI.prod (tI.prod (tOpd.prod (tOpd.prod (tOpd.prod ((Ty.arr q2 tI).prod Ty.unit)))))).prod Ty.unit)).slice.prod Ty.unit)))))))) q37 /\ True -> q5 /\ (q38 = true -> (q3 /\ True) /\ ((True /\ True /\ True /\ True /\ q39 /\ True /\ True /\ (q41.length <= q0 /\ ∀ (i : Sp.Inst), i ∈ q41 -> Sp.opI i = (7 : Int) ∨ Sp.opI i = (8 : Int) ∨ Sp.opI i = (9 : Int) -> q1 <= Sp.nI i /\ Sp.nI i < (↑q20 : Int)) /\ True /\ True) /\ True) /\ (q7 /\ (↑(q34.length + q43.length) : Int) <= maxNew /\ True /\ q14 = q14 /\ True) /\ ((True /\ True /\ True /\ True /\ True /\ True /\ q39 /\ True /\ True /\ True /\ (q42.length <= q6 /\ ∀ (k : Int), k ∈ q42 -> (0 : tI.den) <= k /\ k < (↑q41.length : Int)) /\ inN (↑x_1 : Int) q36.length /\ True /\ True) /\ True /\ True) /\ ((inK IntKind.i64 q44 /\ True /\ True) /\ True) /\ ∃ (y : Nat), y <= q21 /\ q21 - y < q21 - x_1 /\ q44 = (↑y : Int) /\ q30 = q30 /\ (q34 ++ q43, ()) = (Sp.xsR Sp.depP x.1 y, ()) /\ (x.1.1, x.1.2.1, x.1.2.2.1, q31, q32, q24, q26, q36.set q40 (Sp.reoL q41 q42, (q36.getD q40 q13).2), ()) = Sp.setB x.1 (Sp.reoN x.1 (Sp.runX Sp.depP x.1) y) /\ q33) /\ (q38 = false -> q3 /\ ((True /\ q16 = q16 /\ q17) /\ q19) /\ (True /\ True /\ q19 /\ (True /\ True /\ True /\ (q37, q35, ()) = (Sp.runC Sp.depP x.1, (Sp.runX Sp.depP x.1, ()), ())) /\ True) /\ True /\ True)) := by kernel_rfl
theorem vc18 : (funI C18 (stpS C18) S18 L18 Try.f18) = (
let q0 : Nat := (3000 : Nat);
let q1 : Int := (0 : Int);
let q2 : Nat := (2 : Nat);
let q3 : Prop := True /\ True /\ True;
let q4 : Prop := True /\ q3;
let q5 : Prop := (True /\ q4) /\ True;
let q6 : Prop := (True /\ True) /\ True;
let q7 : Int := (100 : Int);
let q8 : Sp.Opd := (q1, q1, q1, ());
let q9 : Sp.Block := (([] : List tInst.den), (q1, q1, q8, q8, q8, List.replicate q2 q1, ()), ());
let q10 : Int := (1 : Int);
∀ (x : Sp.Code × Sp.Done),
 let q11 : Nat := (Sp.cA x.1).length;
 let q12 : Nat := (Sp.cB x.1).length;
 let q13 : Bool := x.1.1 == x.2.1.1;
 let q14 : Prop := (true && bif q13 then true else false) = true -> True;
 let q15 : Bool := bif q13 then x.1.2.1 == x.2.1.2.1 else false;
 let q16 : Prop := (true && bif q15 then true else false) = true -> True;
 let q17 : Bool := bif q15 then x.1.2.2.1 == x.2.1.2.2.1 else false;
 let q18 : Prop := (true && bif q17 then true else false) = true -> True;
 let q19 : Int × Int × List Sp.Arr × List Sp.Opd × List Sp.Block × Unit := x.2.1.2.2.2;
 let q20 : Bool := bif q17 then x.1.2.2.2.1 == q19.1 else false;
 let q21 : Prop := (true && bif q20 then true else false) = true -> True;
 let q22 : Int × List Sp.Arr × List Sp.Opd × List Sp.Block × Unit := x.1.2.2.2.2;
 let q23 : Int × List Sp.Arr × List Sp.Opd × List Sp.Block × Unit := q19.2;
 let q24 : Bool := bif q20 then q22.1 == q23.1 else false;
 let q25 : Prop := (true && bif q24 then true else false) = true -> True;
 let q26 : List Sp.Arr × List Sp.Opd × List Sp.Block × Unit := q22.2;
 let q27 : List Sp.Arr × List Sp.Opd × List Sp.Block × Unit := q23.2;
 let q28 : Bool := bif q24 then Sp.eqArrs q26.1 q27.1 else false;
 let q29 : Prop := (true && bif q28 then true else false) = true -> True;
 let q30 : List Sp.Opd × List Sp.Block × Unit := q26.2;
 let q31 : List Sp.Opd × List Sp.Block × Unit := q27.2;
 let q32 : Bool := !bif q28 then Sp.eqLps q30.1 q31.1 else false;
 let q33 : Prop := (true && bif q32 then false else true) = true -> True;
 let q34 : List Sp.Block := q31.2.1;
 let q35 : Nat := q34.length;
 let q36 : List Sp.Block := q30.2.1;
 let q37 : Nat := q36.length;
 let q38 : Int := (↑q37 : Int);
 let q39 : Bool := bif q32 then true else (↑q35 : Int) != q38;
 let q40 : Prop := (true && bif q39 then false else true) = true -> True;
 let q41 : Nat := x.2.2.1.1.length;
 let q42 : Bool := bif q39 then true else (↑q41 : Int) != q38;
 let q43 : Int := Sp.chkP x.1 x.2.1 x.2.2.1.1;
 let q44 : Prop := q6 /\ q7 = q43;
 let q45 : Int := (↑q12 : Int);
 let q46 : Prop := x.1 = x.1 /\ x.2.1 = x.2.1 /\ x.2.2.1 = x.2.2.1 /\ True;
 ((q11 <= q0 /\ (Sp.cL x.1).length <= q0 /\ q12 <= q0 /\ ∀ (b : Sp.Block), b ∈ Sp.cB x.1 -> b.1.length <= q0) /\ ∀ (b : Sp.Block), b ∈ Sp.cB x.1 -> ∀ (i : Sp.Inst), i ∈ b.1 -> Sp.opI i = (7 : Int) ∨ Sp.opI i = (8 : Int) ∨ Sp.opI i = (9 : Int) -> q1 <= Sp.nI i /\ Sp.nI i < (↑q11 : Int)) ->
 dFact (tI.prod (tI.prod (tI.prod (tI.prod (tI.prod (tArr.slice.prod (tLoop.slice.prod ((tInst.slice.prod ((tI.prod (tI.prod (tOpd.prod (tOpd.prod (tOpd.prod ((Ty.arr q2 tI).prod Ty.unit)))))).prod Ty.unit)).slice.prod Ty.unit)))))))) x.1 /\ dFact (tI.prod (tI.prod (tI.prod (tI.prod (tI.prod (tArr.slice.prod (tLoop.slice.prod ((tInst.slice.prod ((tI.prod (tI.prod (tOpd.prod (tOpd.prod (tOpd.prod ((Ty.arr q2 tI).prod Ty.unit)))))).prod Ty.unit)).slice.prod Ty.unit)))))))) x.2.1 /\ dFact tOrd x.2.2.1 /\ True ->
 q5 /\
 ((True /\ True /\ True /\ True /\ True /\ True /\ q14 /\ q14 /\ q14 /\ q14 /\ q14 /\ True /\ True /\ q16 /\ q16 /\ q16 /\ q16 /\ q16 /\ True /\ True /\ q18 /\ q18 /\ q18 /\ q18 /\ q18 /\ True /\ True /\ q21 /\ q21 /\ q21 /\ q21 /\ q21 /\ True /\ True /\ q25 /\ q25 /\ q25 /\ q25 /\ q25 /\ True /\ True /\ q29 /\ q29 /\ q29 /\ q29 /\ q29 /\ q3) /\ True) /\
 ((True /\ True /\ True /\ q33 /\ q33 /\ q33 /\ q33 /\ q33 /\ q33 /\ q33 /\ True /\ True /\ q40 /\ q40 /\ q40 /\ q40 /\ q40 /\ q40 /\ q40 /\ True /\ True) /\ True) /\
 (q42 = true -> q44) /\
 (q42 = false ->
 q5 /\
 (∃ (x_1 : Nat), (x_1 <= q12 /\ Sp.headB x.1 x.2.1 = true /\ (Sp.cB x.2.1).length = q12 /\ q41 = q12 /\ ∀ (k : Nat), k < x_1 -> Sp.rgtB (Sp.depQ x.1) (Sp.blkAt x.1 k).1 (Sp.xsAt x.2.2.1.1 k) = true /\ Sp.reoK x.1 x.2.2.1.1 k = Sp.blkAt x.2.1 k) /\ q1 = (↑x_1 : Int) /\ q38 = q45 /\ q46) /\
 ∀ (x_1 : Nat),
 let q47 : Bool := decide ((↑x_1 : Int) < q45);
 let q48 : Prop := inN (↑x_1 : Int) q37;
 let q49 : Prop := inN (↑x_1 : Int) q35;
 let q50 : Nat := (↑x_1 : Int).toNat;
 let q51 : Sp.Block := q36.getD q50 q9;
 let q52 : Sp.Term := q51.2.1;
 let q53 : Sp.Block := q34.getD q50 q9;
 let q54 : Sp.Term := q53.2.1;
 let q55 : Int × Sp.Opd × Sp.Opd × Sp.Opd × List Int × Unit := q52.2;
 let q56 : Int × Sp.Opd × Sp.Opd × Sp.Opd × List Int × Unit := q54.2;
 let q57 : Sp.Opd × Sp.Opd × Sp.Opd × List Int × Unit := q55.2;
 let q58 : Sp.Opd := q57.1;
 let q59 : Sp.Opd × Sp.Opd × Sp.Opd × List Int × Unit := q56.2;
 let q60 : Sp.Opd := q59.1;
 let q61 : Int × Int × Unit := q58.2;
 let q62 : Int × Int × Unit := q60.2;
 let q63 : Sp.Opd × Sp.Opd × List Int × Unit := q57.2;
 let q64 : Sp.Opd := q63.1;
 let q65 : Sp.Opd × Sp.Opd × List Int × Unit := q59.2;
 let q66 : Sp.Opd := q65.1;
 let q67 : Int × Int × Unit := q64.2;
 let q68 : Int × Int × Unit := q66.2;
 let q69 : Sp.Opd × List Int × Unit := q63.2;
 let q70 : Sp.Opd := q69.1;
 let q71 : Sp.Opd × List Int × Unit := q65.2;
 let q72 : Sp.Opd := q71.1;
 let q73 : Int × Int × Unit := q70.2;
 let q74 : Int × Int × Unit := q72.2;
 let q75 : Bool := !(decide (q52.1 = q54.1) && (decide (q55.1 = q56.1) && (decide (q58.1 = q60.1) && (decide (q61.1 = q62.1) && (decide (q61.2.1 = q62.2.1) && true)) && (decide (q64.1 = q66.1) && (decide (q67.1 = q68.1) && (decide (q67.2.1 = q68.2.1) && true)) && (decide (q70.1 = q72.1) && (decide (q73.1 = q74.1) && (decide (q73.2.1 = q74.2.1) && true)) && (decide (q69.2.1 = q71.2.1) && true))))));
 let q76 : Prop := (true && bif q75 then false else true) = true;
 let q77 : Prop := q76 -> True;
 let q78 : Prop := inN (↑x_1 : Int) q41;
 let q79 : List Sp.Inst := q51.1;
 let q80 : List Int := x.2.2.1.1.getD q50 (([] : List tI.den));
 let q81 : Bool := bif q75 then true else !Sp.rgtB (Sp.depQ x.1) q79 q80;
 let q82 : Prop := (true && bif q81 then false else true) = true;
 let q83 : Prop := q82 -> True;
 let q84 : Bool := bif q81 then true else !Sp.eqIns (Sp.reoL q79 q80) q53.1;
 let q85 : Int := (↑x_1 : Int) + q10;
 (x_1 <= q12 /\ Sp.headB x.1 x.2.1 = true /\ (Sp.cB x.2.1).length = q12 /\ q41 = q12 /\ ∀ (k : Nat), k < x_1 -> Sp.rgtB (Sp.depQ x.1) (Sp.blkAt x.1 k).1 (Sp.xsAt x.2.2.1.1 k) = true /\ Sp.reoK x.1 x.2.2.1.1 k = Sp.blkAt x.2.1 k) -> dFact tI (↑x_1 : Int) /\ dFact tI q45 /\ True -> q6 /\ (q47 = true -> (q3 /\ True) /\ ((True /\ True /\ True /\ q48 /\ q4) /\ True) /\ ((True /\ True /\ True /\ q48 /\ True /\ True /\ True /\ True /\ True /\ q49 /\ True /\ True /\ True /\ True /\ q77 /\ q77 /\ q77 /\ q77 /\ q77 /\ (q76 -> q78) /\ q77 /\ (q76 -> q79.length <= q0 /\ ∀ (i : Sp.Inst), i ∈ q79 -> Sp.opI i = (7 : Int) ∨ Sp.opI i = (8 : Int) ∨ Sp.opI i = (9 : Int) -> q1 <= Sp.nI i /\ Sp.nI i < (↑q11 : Int)) /\ q77 /\ True /\ True /\ q83 /\ q83 /\ q83 /\ q83 /\ (q82 -> q78) /\ q83 /\ (q82 -> q80.length <= (5000 : Nat) /\ ∀ (k : Int), k ∈ q80 -> (0 : tI.den) <= k /\ k < (↑q79.length : Int)) /\ q83 /\ q83 /\ q83 /\ (q82 -> q49) /\ q83 /\ q83 /\ q83 /\ q83 /\ True /\ True) /\ True) /\ (q84 = true -> q44) /\ (q84 = false -> ((inK IntKind.i64 q85 /\ True /\ True) /\ True) /\ ∃ (y : Nat), (y <= q12 /\ Sp.headB x.1 x.2.1 = true /\ (Sp.cB x.2.1).length = q12 /\ q41 = q12 /\ ∀ (k : Nat), k < y -> Sp.rgtB (Sp.depQ x.1) (Sp.blkAt x.1 k).1 (Sp.xsAt x.2.2.1.1 k) = true /\ Sp.reoK x.1 x.2.2.1.1 k = Sp.blkAt x.2.1 k) /\ q12 - y < q12 - x_1 /\ q85 = (↑y : Int) /\ q45 = q45 /\ q46)) /\ (q47 = false -> q6 /\ q1 = q43))) := by kernel_rfl
end Go.User
namespace Go.User
open Go.Lf Go.Proofs
set_option maxHeartbeats 1000000 in
theorem ok43 : FOk Try.prog 43 S43 := by
 have hC : CtxOK Try.prog C43 := okA fns_nil
 refine FOk.intro hC (stpS_ok hC) Try.call43 Try.func43 (by kernel_rfl) (by kernel_rfl) L43 ?_
 rw [vc43]
 simp only [zz, zy]
 rintro ⟨l, x, u⟩ ⟨hx, hr⟩ _
 dsimp only at hx hr ⊢
 have hx : List.length x <= 5000 := hx
 have hr : ∀ k ∈ (x : List Int), 0 <= k /\ k < (List.length l : Int) := hr
 refine ⟨⟨Int.natCast_nonneg _, Int.le_refl _, maxN (by omega)⟩, ⟨0, Nat.zero_le _, rfl, rfl⟩, ?_⟩
 intro i hi _
 have hi : i <= List.length x := hi
 have el : (Sp.reoL l (List.take i x) ++ List.replicate (List.length x - i) Sp.inst0).length = List.length x := by
  unfold Sp.reoL;rw [List.length_append, List.length_map, List.length_replicate, List.length_take];omega
 refine ⟨fun hlt => ?_, fun hge => ?_⟩
 ·have hlt : (i : Int) < (List.length x : Int) := hlt
  have hil : i < List.length x := by omega
  refine ⟨inN_of hlt, ⟨hr _ (Sp.mem_getD hlt), by rw [el]; exact inN_of hlt⟩, inK_mid (by omega) (by omega), i + 1, by show i + 1 <= List.length x; omega, by show List.length x - (i + 1) < List.length x - i; omega, rfl, ?_⟩
  have e1 : Sp.reoL l (List.take (i + 1) x) = Sp.reoL l (List.take i x) ++ [Sp.insAt l (x[i]'hil).toNat] := by
   unfold Sp.reoL;rw [List.take_add_one, List.getElem?_eq_getElem hil, List.map_append]; rfl
  have e2 : List.length x - i = List.length x - (i + 1) + 1 := by omega
  have e3 : (Sp.reoL l (List.take i x)).length = i := by
   unfold Sp.reoL;rw [List.length_map, List.length_take]; omega
  have e4 : List.getD x i 0 = x[i]'hil := by rw [List.getD_eq_getElem?_getD, List.getElem?_eq_getElem hil]; rfl
  rw [e1, e2, List.replicate_succ, List.set_append_right _ _ (by omega), e3, Nat.sub_self, List.set_cons_zero, List.append_assoc];refine congrArg (fun v => Sp.reoL l (List.take i x) ++ v) ?_
  show _ = Sp.insAt l (x[i]'hil).toNat :: _
  rw [<- e4]
  rfl
 ·have hge : (List.length x : Int) <= (i : Int) := hge
  have e : List.length x - i = 0 := by omega
  rw [e, List.take_of_length_le (by omega)];exact List.append_nil _
end Go.User
namespace Sp
theorem doneL_len (o : List Int) (n : Nat) : (doneL o n).length = n := by unfold doneL; rw [List.length_map, List.length_range]
theorem doneL_at (o : List Int) {n i : Nat} (h : i < n) (d : Bool) : (doneL o n).getD i d = mem o (i : Int) := getD_map_range _ h d
theorem doneL_nil (n : Nat) : List.replicate n false = doneL [] n := by
 refine ext_getD false (by rw [List.length_replicate, doneL_len]) fun i hi => ?_
 rw [List.length_replicate] at hi
 rw [doneL_at _ hi, List.getD_eq_getElem?_getD, List.getElem?_replicate, if_pos hi]; rfl
theorem doneL_set (o : List Int) {n m : Nat} (h : m < n) : (doneL o n).set m true = doneL (o ++ [(m : Int)]) n := by
 refine ext_getD false (by rw [List.length_set, doneL_len, doneL_len]) fun i hi => ?_
 rw [List.length_set, doneL_len] at hi
 rw [getD_set _ _ _ _ _ (by rw [doneL_len]; exact h), doneL_at _ hi, doneL_at _ hi]
 unfold mem
 rcases Nat.decEq m i with hne | rfl
 ·rw [if_neg hne]
  refine decide_eq_decide.2 ?_
  rw [List.mem_append, List.mem_singleton];exact ⟨.inl, fun h => h.elim id fun h => absurd (by omega) hne⟩
 ·rw [if_pos rfl]
  exact (decide_eq_true (List.mem_append.2 (.inr (List.mem_singleton.2 rfl)))).symm
theorem mskL_len (dep : Inst -> Inst -> Bool) (l : List Inst) : (mskL dep l).length = l.length := by unfold mskL; rw [List.length_map, List.length_range]
theorem mskL_at (dep : Inst -> Inst -> Bool) (l : List Inst) {i : Nat} (h : i < l.length) (d : List Bool) : (mskL dep l).getD i d = mskI dep l i := getD_map_range _ h d
theorem mskI_len (dep : Inst -> Inst -> Bool) (l : List Inst) (i : Nat) : (mskI dep l i).length = i := by unfold mskI; rw [List.length_map, List.length_range]
theorem mskI_at (dep : Inst -> Inst -> Bool) (l : List Inst) {i j : Nat} (h : j < i) (d : Bool) : (mskI dep l i).getD j d = dep (insAt l j) (insAt l i) := getD_map_range _ h d
theorem nxS_skip {rdy ld : Nat -> Bool} {i : Nat} (h : rdy i = false) : nxS rdy ld i = nxS rdy ld (i + 1) := by
 show _ = (if _ then _ else _)
 rw [h]; rfl
theorem nxS_take {rdy ld : Nat -> Bool} {i : Nat} (h : rdy i = true) (h2 : nxS rdy ld i < 0) : (i : Int) = nxS rdy ld (i + 1) := by
 show _ = (if _ then _ else _)
 rw [h, decide_eq_true h2]; rfl
theorem nxS_stay2 {rdy ld : Nat -> Bool} {i : Nat} (h : ld i = false) (h2 : 0 <= nxS rdy ld i) : nxS rdy ld i = nxS rdy ld (i + 1) := by
 show _ = (if _ then _ else _)
 rw [h, decide_eq_false (by omega)]
 simp
theorem atL_len (x : List Int) (n k : Nat) : (atL x n k).length = n := by unfold atL; rw [List.length_map, List.length_range]
theorem atL_at (x : List Int) {n i : Nat} (k : Nat) (h : i < n) (d : Int) : (atL x n k).getD i d = if (i : Int) ∈ x.take k then (((x.take k).idxOf (i : Int) : Nat) : Int) else -1 := getD_map_range _ h d
theorem atL_zero (x : List Int) (n : Nat) : List.replicate n (-1) = atL x n 0 := by
 refine ext_getD 0 (by rw [List.length_replicate, atL_len]) fun i hi => ?_
 rw [List.length_replicate] at hi
 rw [atL_at _ _ hi, List.getD_eq_getElem?_getD, List.getElem?_replicate, if_pos hi]
 simp
theorem atL_mem {x : List Int} {n k : Nat} {v d : Int} (h0 : 0 <= v) (h1 : v < (n : Int)) : 0 <= (atL x n k).getD v.toNat d ↔ v ∈ x.take k := by
 rw [atL_at x k (by omega)]
 have e : ((v.toNat : Nat) : Int) = v := by omega
 rw [e]
 split
 ·rename_i h; exact ⟨fun _ => h, fun _ => by omega⟩
 ·rename_i h; exact ⟨fun h' => by omega, fun h' => absurd h' h⟩
theorem take_succ_at {x : List Int} {k : Nat} {d : Int} (h : k < x.length) : x.take (k + 1) = x.take k ++ [x.getD k d] := by
 rw [List.take_add_one, List.getElem?_eq_getElem h, List.getD_eq_getElem?_getD, List.getElem?_eq_getElem h]
 rfl
theorem atL_set {x : List Int} {n k : Nat} {d : Int} (hk : k < x.length) (h0 : 0 <= x.getD k d) (h1 : x.getD k d < (n : Int)) (hn : x.getD k d ∉ x.take k) : (atL x n k).set (x.getD k d).toNat (k : Int) = atL x n (k + 1) := by
 generalize hv : x.getD k d = v at *
 refine ext_getD 0 (by rw [List.length_set, atL_len, atL_len]) fun i hi => ?_
 rw [List.length_set, atL_len] at hi
 rw [getD_set _ _ _ _ _ (by rw [atL_len]; omega), atL_at _ _ hi, atL_at _ _ hi, take_succ_at (d := d) hk, hv]
 have hlk : (x.take k).length = k := by rw [List.length_take]; omega
 rcases Nat.decEq v.toNat i with hne | he
 ·rw [if_neg hne]
  have hiv : (i : Int) ≠ v := fun e => hne (by omega)
  rcases Classical.em ((i : Int) ∈ x.take k) with hm | hm
  ·rw [if_pos hm, if_pos (List.mem_append.2 (.inl hm)), List.idxOf_append, if_pos hm]
  ·rw [if_neg hm, if_neg]
   rw [List.mem_append, List.mem_singleton];exact fun h => h.elim hm hiv
 ·rw [if_pos he]
  have hiv : (i : Int) = v := by omega
  rw [hiv, if_pos (List.mem_append.2 (.inr (List.mem_singleton.2 rfl))), List.idxOf_append, if_neg hn, hlk]
  simp
theorem nodup_take_succ {x : List Int} {k : Nat} {d : Int} (hk : k < x.length) (h : (x.take k).Nodup) (hn : x.getD k d ∉ x.take k) : (x.take (k + 1)).Nodup := by
 rw [take_succ_at (d := d) hk]
 refine List.nodup_append.2 ⟨h, List.nodup_cons.2 ⟨List.not_mem_nil, List.nodup_nil⟩, ?_⟩
 intro a ha b hb hab
 rw [List.mem_singleton] at hb
 rw [hab, hb] at ha
 exact hn ha
theorem idx_at {x : List Int} {v : Int} (h : v ∈ x) : xAt x (x.idxOf v) = v := by
 have hl := List.idxOf_lt_length_of_mem h
 unfold xAt
 rw [List.getD_eq_getElem?_getD, List.getElem?_eq_getElem hl]
 exact List.getElem_idxOf hl
theorem idx_of_at {x : List Int} (hn : x.Nodup) {p : Nat} (hp : p < x.length) : x.idxOf (xAt x p) = p := by
 unfold xAt
 rw [List.getD_eq_getElem?_getD, List.getElem?_eq_getElem hp]
 exact List.Nodup.idxOf_getElem hn p hp
theorem mem_getD' {x : List Int} {p : Nat} (hp : p < x.length) : xAt x p ∈ x := by
 unfold xAt
 rw [List.getD_eq_getElem?_getD, List.getElem?_eq_getElem hp]
 exact List.getElem_mem hp
theorem rgt_at {dep : Inst -> Inst -> Bool} {l : List Inst} {x : List Int} (hl : x.length = l.length) (hn : x.Nodup) (hr : ∀ k ∈ x, 0 <= k /\ k < (l.length : Int)) :
  rgtB (fun a b => dep b a) l x = true ↔ ∀ k, k < l.length -> ∀ j, j < k -> dep (insAt l j) (insAt l k) = true -> xAt (atL x l.length x.length) j <= xAt (atL x l.length x.length) k := by
 have hin := in_perm hl hn hr
 have hpos : ∀ i, i < l.length -> xAt (atL x l.length x.length) i = ((x.idxOf (i : Int) : Nat) : Int) := by
  intro i hi;unfold xAt;rw [atL_at x x.length hi, List.take_length, if_pos (hin i hi)]
 rw [rgtB_iff]
 constructor
 ·rintro ⟨_, _, h⟩ k hk j hj hd
  rw [hpos k hk, hpos j (by omega)]
  apply Classical.byContradiction
  intro hc;have hb := h (x.idxOf (k : Int)) (List.idxOf_lt_length_of_mem (hin k hk)) (x.idxOf (j : Int)) (List.idxOf_lt_length_of_mem (hin j (by omega)));rw [<- Bool.not_eq_true, badP_iff] at hb
  apply hb
  rw [idx_at (hin k hk), idx_at (hin j (by omega))];exact ⟨by omega, by omega, hd⟩
 ·intro h
  refine ⟨hl, hin, fun p hp q hq => ?_⟩
  rw [<- Bool.not_eq_true, badP_iff];rintro ⟨h1, h2, h3⟩;have hxp : xAt x p ∈ x := mem_getD' hp;have hxq : xAt x q ∈ x := mem_getD' hq;have rp := hr _ hxp;have rq := hr _ hxq;have := h (xAt x p).toNat (by omega) (xAt x q).toNat (by omega) h3;rw [hpos _ (by omega), hpos _ (by omega)] at this;have ep : (((xAt x p).toNat : Nat) : Int) = xAt x p := by omega
  have eq : (((xAt x q).toNat : Nat) : Int) = xAt x q := by omega
  rw [ep, eq, idx_of_at hn hp, idx_of_at hn hq] at this;omega
end Sp
