/- Which addresses stay where they are when something is stored. Stores and assignments: by value. One step, by value. Arguments as they come in: numbers, slices of numbers, numbers in structs and arrays, slices of such structs. Methods that write through their pointer: by value. Methods that write through their pointer: from the body's proposition to the contract. A body in two parts: in the second one a slot is known to point at a chosen block. -/
import Derived.Test.YtohcfjfnmgkadaaLff
import Derived.ProofKit
import Derived.SizedLaws
import Derived.Deep.Slices
set_option linter.unusedVariables false
set_option linter.unusedSimpArgs false
namespace Go.Lf

/-- The second path may lead on from the first one (no index is looked at). -/
def belowB : Path → Path → Bool
  | [], [] => false
  | [], _ :: _ => true
  | _ :: _, [] => false
  | .fst :: p, .fst :: q => belowB p q
  | .snd :: p, .snd :: q => belowB p q
  | .idx _ :: p, .idx _ :: q => belowB p q
  | _ :: _, _ :: _ => false

theorem read_out {w w' : World} {b off n : Nat} {c' : List Value} (hu : Upd w w' b off n c') (ho : ∀ k, k ≠ b → w'.heap[k]? = w.heap[k]?) {pl : Place} {k : Nat} {cs : List Value} (h : pl.read w k = some cs)
    (hdis : ∀ o, pl = .mem b o → o + k ≤ off ∨ off + n ≤ o) : pl.read w' k = some cs := by
  cases pl with
  | val _ => exact h
  | mem b0 o =>
    by_cases hb : b0 = b
    · subst hb
      obtain ⟨hl, row, row', T, h1, h2, h3, h4⟩ := hu
      simp only [Place.read, h1] at h
      split at h
      · rename_i hle
        injection h with h
        have hlen : row'.size = row.size := by
          have := congrArg List.length h4
          simp at this; omega
        simp only [Place.read, h2]
        rw [if_pos (by omega), h4, seg_upd_out _ _ _ _ hl (by simpa using h3) _ _ (by simpa using hle) (hdis o rfl), h]
      · cases h
    · simp only [Place.read] at h ⊢
      rw [ho b0 hb]; exact h

theorem loc_store {F : NSet} {w w' : World} {b off : Nat} {σ : Ty} {c' : List Value} (hu : Upd w w' b off σ.size c') (ho : ∀ k, k ≠ b → w'.heap[k]? = w.heap[k]?) :
    ∀ (q p : Path) {τ : Ty} {m : Md} {S : NSet} {pl : Place} {cs : List Value} {x : τ.den} {y : σ.den} {μ ν : Md}, (∀ k, S k → ¬ F k) → Own F w τ m S cs x → PlOk F S w pl τ.size cs →
      getP p τ x = some ⟨σ, y⟩ → getM p τ m = some μ → inR p τ x → loc w p τ pl = some (σ, .mem b off) → getM q τ m = some ν → inR q τ x → belowB p q = false → loc w' q τ pl = loc w q τ pl
  | [], _, _, _, _, _, _, _, _, _, _, _, _, _, _, _, _, _, _, _, _ => rfl
  | _ :: _, [], _, _, _, _, _, _, _, _, _, _, _, _, _, _, _, _, _, _, hb => by cases hb
  | .fst :: q, .fst :: p, .prod a c, m, S, pl, cs, x, y, μ, ν, hd, h, hp, g1, g2, g3, hl, k1, k2, hb => by
    obtain ⟨c1, c2, S1, S2, rfl, s1, s2, d, o1, o2⟩ := h
    have l1 := o1.len
    refine loc_store hu ho q p (fun k hk => hd k (s1 k hk)) o1 (hp.part s1 (by simp [Ty.size]) (seg_append_left c1 c2 _ l1)) g1 g2 g3 hl k1 k2 ?_
    simpa [belowB] using hb
  | .snd :: q, .snd :: p, .prod a c, m, S, pl, cs, x, y, μ, ν, hd, h, hp, g1, g2, g3, hl, k1, k2, hb => by
    obtain ⟨c1, c2, S1, S2, rfl, s1, s2, d, o1, o2⟩ := h
    have l1 := o1.len
    refine loc_store hu ho q p (fun k hk => hd k (s2 k hk)) o2 (hp.part s2 (by simp [Ty.size]) (seg_append_right c1 c2 _ _ l1 o2.len)) g1 g2 g3 hl k1 k2 ?_
    simpa [belowB] using hb
  | .fst :: q, .snd :: p, .prod a c, m, S, pl, cs, x, y, μ, ν, hd, h, hp, g1, g2, g3, hl, k1, k2, hb => by
    obtain ⟨c1, c2, S1, S2, rfl, s1, s2, d, o1, o2⟩ := h
    have l1 := o1.len
    have hp1 := hp.part s1 (k := a.size) (o := 0) (by simp [Ty.size]) (seg_append_left c1 c2 _ l1)
    have hp2 := hp.part s2 (k := c.size) (o := a.size) (by simp [Ty.size]) (seg_append_right c1 c2 _ _ l1 o2.len)
    obtain ⟨pl2, cs2, S3, f⟩ := focus p (fun k hk => hd k (s2 k hk)) o2 hp2 g1 g2 g3
    have e := f.loc.symm.trans hl
    simp only [Option.some.injEq, Prod.mk.injEq, true_and] at e
    subst e
    have hblk := f.blk b rfl
    refine loc_congr q o1 hp1.read (read_out hu ho hp1.read ?_) k1 k2 ?_
    · intro o heq
      cases pl with
      | val _ => cases heq
      | mem b0 o0 =>
        simp only [Place.part] at heq
        injection heq with e1 e2
        subst e1
        have := f.rng b0 off (o0 + a.size) rfl rfl
        omega
    · intro k hk
      refine ho k ?_
      rintro rfl
      rcases hblk with h | h
      · exact d k hk h
      · rw [Place.part_isB] at h
        cases pl with
        | val _ => exact h
        | mem b0 o0 =>
          have h : k = b0 := h
          subst h
          exact hp.1 (s1 _ hk)
  | .snd :: q, .fst :: p, .prod a c, m, S, pl, cs, x, y, μ, ν, hd, h, hp, g1, g2, g3, hl, k1, k2, hb => by
    obtain ⟨c1, c2, S1, S2, rfl, s1, s2, d, o1, o2⟩ := h
    have l1 := o1.len
    have hp1 := hp.part s1 (k := a.size) (o := 0) (by simp [Ty.size]) (seg_append_left c1 c2 _ l1)
    have hp2 := hp.part s2 (k := c.size) (o := a.size) (by simp [Ty.size]) (seg_append_right c1 c2 _ _ l1 o2.len)
    obtain ⟨pl2, cs2, S3, f⟩ := focus p (fun k hk => hd k (s1 k hk)) o1 hp1 g1 g2 g3
    have e := f.loc.symm.trans hl
    simp only [Option.some.injEq, Prod.mk.injEq, true_and] at e
    subst e
    have hblk := f.blk b rfl
    refine loc_congr q o2 hp2.read (read_out hu ho hp2.read ?_) k1 k2 ?_
    · intro o heq
      cases pl with
      | val _ => cases heq
      | mem b0 o0 =>
        simp only [Place.part] at heq
        injection heq with e1 e2
        subst e1
        have := f.rng b0 off (o0 + 0) rfl rfl
        omega
    · intro k hk
      refine ho k ?_
      rintro rfl
      rcases hblk with h | h
      · exact d k h hk
      · rw [Place.part_isB] at h
        cases pl with
        | val _ => exact h
        | mem b0 o0 =>
          have h : k = b0 := h
          subst h
          exact hp.1 (s2 _ hk)
  | .idx i :: q, .idx j :: p, .slice e, .own me, S, pl, cs, xs, y, μ, ν, hd, h, hp, g1, g2, g3, hl, k1, k2, hb => by
    obtain ⟨ao, cap, rfl, hc, hlm, h⟩ := h
    obtain ⟨hi, k2⟩ := k2
    obtain ⟨hj, g3⟩ := g3
    rcases h with ⟨_, h⟩ | ⟨b1, off1, row, T, Si, rfl, hb1, hrow, hsz, s, nb, d, he⟩
    · omega
    have hini : (i + 1) * e.size ≤ cap * e.size := Nat.mul_le_mul_right _ (by omega)
    rw [Nat.add_mul, Nat.one_mul] at hini
    have hinj : (j + 1) * e.size ≤ cap * e.size := Nat.mul_le_mul_right _ (by omega)
    rw [Nat.add_mul, Nat.one_mul] at hinj
    have r1 : pl.read w 1 = _ := hp.read
    have elt : ∀ i, (i * e.size + e.size ≤ cap * e.size) → PlOk F (Si i) w (.mem b1 (off1 + i * e.size)) e.size (seg row.toList (off1 + i * e.size) e.size) :=
      fun i hi => ⟨nb i, hd b1 hb1, row, T, hrow, by omega, rfl⟩
    have hl' : loc w p e (.mem b1 (off1 + j * e.size)) = some (σ, .mem b off) := by
      have hl := hl
      simp only [loc, r1] at hl
      rwa [if_pos hj] at hl
    obtain ⟨pl2, cs2, S3, f⟩ := focus p (fun k hk => hd k (s j k hk)) (Own.list_get he hj) (elt j hinj) g1 g2 g3
    have e1 := f.loc.symm.trans hl'
    simp only [Option.some.injEq, Prod.mk.injEq, true_and] at e1
    subst e1
    have hblk := f.blk b rfl
    have hbS : S b := hblk.elim (s j b) (fun h => by have h : b = b1 := h; rw [h]; exact hb1)
    have r2 : pl.read w' 1 = _ := read_out hu ho r1 (fun o heq => by subst heq; exact absurd hbS hp.1)
    simp only [loc, r1, r2]
    rw [if_pos hi, if_pos hi]
    by_cases hij : i = j
    · subst hij
      exact loc_store hu ho q p (fun k hk => hd k (s i k hk)) (Own.list_get he hi) (elt i hini) g1 g2 g3 hl' k1 k2 (by simpa [belowB] using hb)
    · refine loc_congr q (Own.list_get he hi) (elt i hini).read (read_out hu ho (elt i hini).read ?_) k1 k2 ?_
      · intro o heq
        injection heq with e1 e2
        subst e1
        have hr := f.rng b1 off (off1 + j * e.size) rfl rfl
        rcases Nat.lt_or_gt_of_ne hij with hlt | hgt
        · have := Nat.mul_le_mul_right e.size (show i + 1 ≤ j by omega)
          rw [Nat.add_mul, Nat.one_mul] at this
          omega
        · have := Nat.mul_le_mul_right e.size (show j + 1 ≤ i by omega)
          rw [Nat.add_mul, Nat.one_mul] at this
          omega
      · intro k hk
        refine ho k ?_
        rintro rfl
        rcases hblk with h | h
        · exact d i j hij k hk h
        · have h : k = b1 := h
          subst h
          exact nb i hk
  | .idx i :: q, .idx j :: p, .arr n e, m, S, pl, cs, xs, y, μ, ν, hd, h, hp, g1, g2, g3, hl, k1, k2, hb => by
    obtain ⟨hn, hlen, Si, s, d, he⟩ := h
    obtain ⟨hi, k2⟩ := k2
    obtain ⟨hj, g3⟩ := g3
    have hini : (i + 1) * e.size ≤ n * e.size := Nat.mul_le_mul_right _ (by omega)
    rw [Nat.add_mul, Nat.one_mul] at hini
    have hinj : (j + 1) * e.size ≤ n * e.size := Nat.mul_le_mul_right _ (by omega)
    rw [Nat.add_mul, Nat.one_mul] at hinj
    have elt : ∀ i, (i * e.size + e.size ≤ n * e.size) → PlOk F (Si i) w (pl.part (i * e.size) e.size) e.size (seg cs (i * e.size) e.size) :=
      fun i hi => hp.part (s i) (by simpa [Ty.size] using hi) rfl
    have hl' : loc w p e (pl.part (j * e.size) e.size) = some (σ, .mem b off) := by
      have hl := hl
      simp only [loc] at hl
      rwa [if_pos (by omega)] at hl
    obtain ⟨pl2, cs2, S3, f⟩ := focus p (fun k hk => hd k (s j k hk)) (Own.list_get he hj) (elt j hinj) g1 g2 g3
    have e1 := f.loc.symm.trans hl'
    simp only [Option.some.injEq, Prod.mk.injEq, true_and] at e1
    subst e1
    have hblk := f.blk b rfl
    simp only [loc]
    rw [if_pos (by omega), if_pos (by omega)]
    by_cases hij : i = j
    · subst hij
      exact loc_store hu ho q p (fun k hk => hd k (s i k hk)) (Own.list_get he hi) (elt i hini) g1 g2 g3 hl' k1 k2 (by simpa [belowB] using hb)
    · refine loc_congr q (Own.list_get he hi) (elt i hini).read (read_out hu ho (elt i hini).read ?_) k1 k2 ?_
      · intro o heq
        cases pl with
        | val _ => cases heq
        | mem b0 o0 =>
          simp only [Place.part] at heq
          injection heq with e1 e2
          subst e1
          have hr := f.rng b0 off (o0 + j * e.size) rfl rfl
          rcases Nat.lt_or_gt_of_ne hij with hlt | hgt
          · have := Nat.mul_le_mul_right e.size (show i + 1 ≤ j by omega)
            rw [Nat.add_mul, Nat.one_mul] at this
            omega
          · have := Nat.mul_le_mul_right e.size (show j + 1 ≤ i by omega)
            rw [Nat.add_mul, Nat.one_mul] at this
            omega
      · intro k hk
        refine ho k ?_
        rintro rfl
        rcases hblk with h | h
        · exact d i j hij k hk h
        · rw [Place.part_isB] at h
          cases pl with
          | val _ => exact h
          | mem b0 o0 =>
            have h : k = b0 := h
            subst h
            exact hp.1 (s i _ hk)
  | .fst :: _, .idx _ :: _, .prod _ _, _, _, _, _, _, _, _, _, _, _, _, g1, _, _, _, _, _, _ => by simp [getP] at g1
  | .snd :: _, .idx _ :: _, .prod _ _, _, _, _, _, _, _, _, _, _, _, _, g1, _, _, _, _, _, _ => by simp [getP] at g1
  | .idx _ :: _, .fst :: _, .slice _, _, _, _, _, _, _, _, _, _, _, _, g1, _, _, _, _, _, _ => by simp [getP] at g1
  | .idx _ :: _, .snd :: _, .slice _, _, _, _, _, _, _, _, _, _, _, _, g1, _, _, _, _, _, _ => by simp [getP] at g1
  | .idx _ :: _, .fst :: _, .arr _ _, _, _, _, _, _, _, _, _, _, _, _, g1, _, _, _, _, _, _ => by simp [getP] at g1
  | .idx _ :: _, .snd :: _, .arr _ _, _, _, _, _, _, _, _, _, _, _, _, g1, _, _, _, _, _, _ => by simp [getP] at g1
  | .idx _ :: _, .idx _ :: _, .slice _, .shr, _, _, _, _, _, _, _, _, _, _, _, _, _, _, hm, _, _ => by simp [getM] at hm
  | .idx _ :: _, .idx _ :: _, .slice _, .pair _ _, _, _, _, _, _, _, _, _, _, _, _, _, _, _, hm, _, _ => by simp [getM] at hm
  | .idx _ :: _, _ :: _, .prod _ _, _, _, _, _, _, _, _, _, _, _, _, _, _, _, _, hm, _, _ => by simp [getM] at hm
  | .fst :: _, _ :: _, .slice _, _, _, _, _, _, _, _, _, _, _, _, _, _, _, _, hm, _, _ => by simp [getM] at hm
  | .snd :: _, _ :: _, .slice _, _, _, _, _, _, _, _, _, _, _, _, _, _, _, _, hm, _, _ => by simp [getM] at hm
  | .fst :: _, _ :: _, .arr _ _, _, _, _, _, _, _, _, _, _, _, _, _, _, _, _, hm, _, _ => by simp [getM] at hm
  | .snd :: _, _ :: _, .arr _ _, _, _, _, _, _, _, _, _, _, _, _, _, _, _, _, hm, _, _ => by simp [getM] at hm
  | a :: _, _ :: _, .int _, _, _, _, _, _, _, _, _, _, _, _, _, _, _, _, hm, _, _ => by cases a <;> simp [getM] at hm
  | a :: _, _ :: _, .bool, _, _, _, _, _, _, _, _, _, _, _, _, _, _, _, hm, _, _ => by cases a <;> simp [getM] at hm
  | a :: _, _ :: _, .str, _, _, _, _, _, _, _, _, _, _, _, _, _, _, _, hm, _, _ => by cases a <;> simp [getM] at hm
  | a :: _, _ :: _, .unit, _, _, _, _, _, _, _, _, _, _, _, _, _, _, _, hm, _, _ => by cases a <;> simp [getM] at hm
  | a :: _, _ :: _, .abs _, _, _, _, _, _, _, _, _, _, _, _, _, _, _, _, hm, _, _ => by cases a <;> simp [getM] at hm

theorem inR_list' {i j : Nat} {e : Ty} {xs : List e.den} {z : e.den} {q : Path} (hz : inR q e (xs.getD i e.dflt) → inR q e z) (h : j < xs.length ∧ inR q e (xs.getD j e.dflt)) :
    j < (xs.set i z).length ∧ inR q e ((xs.set i z).getD j e.dflt) := by
  refine ⟨by simpa using h.1, ?_⟩
  rw [List.getD_eq_getElem?_getD, List.getElem?_set]
  by_cases hij : i = j
  · subst hij
    rw [if_pos rfl, if_pos h.1]
    exact hz h.2
  · rw [if_neg hij, ← List.getD_eq_getElem?_getD]
    exact h.2
theorem inR_store : ∀ (p q : Path) (τ : Ty) (x x' : τ.den) {σ : Ty} {y : σ.den}, setP p τ x σ y = some x' → belowB p q = false → inR q τ x → inR q τ x'
  | _, [], _, _, _, _, _, _, _, _ => trivial
  | [], _ :: _, _, _, _, _, _, _, hb, _ => by cases hb
  | .fst :: p, c :: q, .prod a b, x, x', σ, y, h, hb, hr => by
    simp only [setP, Option.map_eq_some_iff] at h
    obtain ⟨z, h1, rfl⟩ := h
    cases c with
    | fst => exact inR_store p q a x.1 z h1 (by simpa [belowB] using hb) hr
    | snd => exact hr
    | idx _ => exact hr
  | .snd :: p, c :: q, .prod a b, x, x', σ, y, h, hb, hr => by
    simp only [setP, Option.map_eq_some_iff] at h
    obtain ⟨z, h1, rfl⟩ := h
    cases c with
    | fst => exact hr
    | snd => exact inR_store p q b x.2 z h1 (by simpa [belowB] using hb) hr
    | idx _ => exact hr
  | .idx i :: p, c :: q, .slice e, xs, x', σ, y, h, hb, hr => by
    simp only [setP, Option.map_eq_some_iff] at h
    obtain ⟨z, h1, rfl⟩ := h
    cases c with
    | fst => exact hr
    | snd => exact hr
    | idx j => exact inR_list' (fun h => inR_store p q e _ z h1 (by simpa [belowB] using hb) h) hr
  | .idx i :: p, c :: q, .arr n e, xs, x', σ, y, h, hb, hr => by
    simp only [setP, Option.map_eq_some_iff] at h
    obtain ⟨z, h1, rfl⟩ := h
    cases c with
    | fst => exact hr
    | snd => exact hr
    | idx j => exact inR_list' (fun h => inR_store p q e _ z h1 (by simpa [belowB] using hb) h) hr
  | .fst :: _, _ :: _, .slice _, _, _, _, _, h, _, _ => by simp [setP] at h
  | .fst :: _, _ :: _, .arr _ _, _, _, _, _, h, _, _ => by simp [setP] at h
  | .snd :: _, _ :: _, .slice _, _, _, _, _, h, _, _ => by simp [setP] at h
  | .snd :: _, _ :: _, .arr _ _, _, _, _, _, h, _, _ => by simp [setP] at h
  | .idx _ :: _, _ :: _, .prod _ _, _, _, _, _, h, _, _ => by simp [setP] at h
  | a :: _, _ :: _, .int _, _, _, _, _, h, _, _ => by cases a <;> simp [setP] at h
  | a :: _, _ :: _, .bool, _, _, _, _, h, _, _ => by cases a <;> simp [setP] at h
  | a :: _, _ :: _, .str, _, _, _, _, h, _, _ => by cases a <;> simp [setP] at h
  | a :: _, _ :: _, .unit, _, _, _, _, h, _, _ => by cases a <;> simp [setP] at h
  | a :: _, _ :: _, .abs _, _, _, _, _, h, _, _ => by cases a <;> simp [setP] at h

theorem getM_store : ∀ (p q : Path) (τ : Ty) (m m' : Md) {μ : Md}, setM p τ m μ = some m' → belowB p q = false → (getM q τ m).isSome = true → (getM q τ m').isSome = true
  | _, [], _, _, _, _, _, _, _ => rfl
  | [], _ :: _, _, _, _, _, _, hb, _ => by cases hb
  | .fst :: p, c :: q, .prod a b, m, m', μ, h, hb, hr => by
    simp only [setM, Option.map_eq_some_iff] at h
    obtain ⟨z, h1, rfl⟩ := h
    cases c with
    | fst => exact getM_store p q a m.fst z h1 (by simpa [belowB] using hb) hr
    | snd => exact hr
    | idx _ => exact hr
  | .snd :: p, c :: q, .prod a b, m, m', μ, h, hb, hr => by
    simp only [setM, Option.map_eq_some_iff] at h
    obtain ⟨z, h1, rfl⟩ := h
    cases c with
    | fst => exact hr
    | snd => exact getM_store p q b m.snd z h1 (by simpa [belowB] using hb) hr
    | idx _ => exact hr
  | .idx _ :: _, _ :: _, .prod _ _, _, _, _, h, _, _ => by simp [setM] at h
  | a :: _, _ :: _, .slice _, _, _, _, h, _, _ => by cases a <;> simp [setM] at h
  | a :: _, _ :: _, .arr _ _, _, _, _, h, _, _ => by cases a <;> simp [setM] at h
  | a :: _, _ :: _, .int _, _, _, _, h, _, _ => by cases a <;> simp [setM] at h
  | a :: _, _ :: _, .bool, _, _, _, h, _, _ => by cases a <;> simp [setM] at h
  | a :: _, _ :: _, .str, _, _, _, h, _, _ => by cases a <;> simp [setM] at h
  | a :: _, _ :: _, .unit, _, _, _, h, _, _ => by cases a <;> simp [setM] at h
  | a :: _, _ :: _, .abs _, _, _, _, h, _, _ => by cases a <;> simp [setM] at h
end Go.Lf
namespace Go.Lf

/-- What is stored: the value, its mode, the owners that it is taken from, whether it is what has been appended to the place. -/
def valS (σ : Ty) (μ : Md) (l : Al) (v : View) : Option (σ.den × Md × List Nat × Bool) :=
  match v.e with
  | .nilS => match nilOwn σ μ with
    | some y => some (y, μ, [], false)
    | none => match nilD σ with
      | some y => some (y, .shr, [], false)
      | none => none
  | .own _ m' _ => match v.ownAs σ m' with
    | some (y, u) => some (y, m', u, false)
    | none => none
  | .sub r [] => match v.r with
    | .own _ m' _ => match v.shrAs σ with
      | some y => some (y, μ, [], false)
      | none => match ownR σ m' v with
        | some (y, u) => some (y, m', u, false)
        | none => none
    | .box _ m' _ => match v.shrAs σ with
      | some y => some (y, μ, [], false)
      | none => match ownR σ m' v with
        | some (y, u) => some (y, m', u, false)
        | none => none
    | _ => match v.shrAs σ with
      | some y => some (y, bif σ.flat then μ else .shr, [], false)
      | none => none
  | .pend r p e me x => bif Nat.beq r l.r && decide (μ = .own me) then (match castD (τ := .slice e) (σ := σ) x with
    | some y => some (y, μ, [], true)
    | none => none) else none
  | _ => match v.shrAs σ with
    | some y => some (y, bif σ.flat then μ else .shr, [], false)
    | none => none

def modeS (l : Al) (μ μ' : Md) : Option Md := bif decide (μ' = μ) then some l.m else setM l.p l.τ l.m μ'

/-- What has been appended goes where it came from. -/
def pendC (v : View) (l : Al) : Prop := match v.e with
  | .pend _ p _ _ _ => p = l.p
  | _ => True

/-- Whether a slice lies at a path. -/
def slAt : Path → Ty → Bool
  | [], .slice _ => true
  | .fst :: p, .prod a _ => slAt p a
  | .snd :: p, .prod _ b => slAt p b
  | .idx _ :: p, .slice e => slAt p e
  | .idx _ :: p, .arr _ e => slAt p e
  | _, _ => false
def Ty.scal : Ty → Bool
  | .int _ => true
  | .bool => true
  | _ => false
/-- What stays of what hangs on an owner when a number is stored in it. -/
def keepE (r : Nat) (τ : Ty) (e : Ent) : Ent := match e with
  | .addr r' q => .addr r' q
  | .sub r' q => bif Nat.beq r' r then (bif slAt q τ then .sub r' q else .dead) else .sub r' q
  | e => killE r e
def keepS (env : St) (r : Nat) (τ : Ty) : St := fun t => keepE r τ (env t)
/-- A number is stored, and not what has been taken from an owner. -/
def flatS (σ : Ty) (μ μ' : Md) (used : List Nat) : Bool := σ.scal && decide (μ' = μ) && used.isEmpty

/-- What stays of what hangs on an owner when something is stored at a path in it: the addresses that do not lead on from there. -/
def keepA (r : Nat) (p : Path) (e : Ent) : Ent := match e with
  | .addr r' q => bif Nat.beq r' r && belowB p q then .dead else .addr r' q
  | e => killE r e
def keepAS (env : St) (r : Nat) (p : Path) : St := fun t => keepA r p (env t)

def storeE (C : Ctx) (st : St) (T : TypeId) (va vv : View) : Option (Prop × St) :=
  match va.addr? with
  | some l => match getP l.p l.τ l.x, getM l.p l.τ l.m with
    | some ⟨σ, _⟩, some μ => bif decide (look C.tys T = some σ) then
        (match valS σ μ l vv with
        | some (y, μ', used, _) => match setP l.p l.τ l.x σ y, modeS l μ μ' with
          | some x', some m' => bif nodupN (l.r :: used) then some (pendC vv l, upd (bif flatS σ μ μ' used then keepS st l.r l.τ else keepAS (dropAll st used) l.r l.p) l.r (reown (st l.r) l.τ m' x')) else none
          | _, _ => none
        | none => none) else none
    | _, _ => none
  | none => none

section
variable {P : Program} {C : Ctx} {N : NP} {w0 : World} {F0 H : NSet} {env : St} {a : Act} {w : World} {F : NSet} {S : Nat → NSet} {d : Nat}

theorem killE_same {r : Nat} {e : Ent} (h : e.root ≠ some r) : killE r e = e := by
  unfold killE
  cases h' : e.root with
  | none => rfl
  | some r' =>
    have : r' ≠ r := fun e => h (by rw [h', e])
    simp [nbeq_ne this]

theorem keepA_cases (r : Nat) (p : Path) (e : Ent) : keepA r p e = .dead ∨ (keepA r p e = e ∧ (e.root ≠ some r ∨ ∃ q, e = .addr r q ∧ belowB p q = false)) := by
  unfold keepA
  split
  · rename_i r' q
    by_cases h : r' = r
    · subst h
      cases hb : belowB p q
      · right; simp
        exact .inr hb
      · left; simp
    · right
      rw [nbeq_ne h]
      exact ⟨rfl, .inl (by simp [Ent.root, h])⟩
  · unfold killE
    cases h : e.root with
    | none => right; simp
    | some r' =>
      by_cases e' : r' = r
      · left; simp [e']
      · right
        simp [nbeq_ne e', e']
theorem keepA_owner {r : Nat} {p : Path} {e : Ent} (h : e.isOwner = true) : keepA r p e = e := by
  cases e <;> first | rfl | cases h
theorem getP_ty : ∀ (p : Path) (τ : Ty) (x x' : τ.den), (getP p τ x).isSome = true → (getP p τ x').isSome = true
  | [], _, _, _, _ => rfl
  | .fst :: p, .prod a _, x, x', h => getP_ty p a x.1 x'.1 h
  | .snd :: p, .prod _ b, x, x', h => getP_ty p b x.2 x'.2 h
  | .idx i :: p, .slice e, x, x', h => getP_ty p e _ _ h
  | .idx i :: p, .arr _ e, x, x', h => getP_ty p e _ _ h
  | .fst :: _, .int _, _, _, h => h
  | .fst :: _, .bool, _, _, h => h
  | .fst :: _, .str, _, _, h => h
  | .fst :: _, .abs _, _, _, h => h
  | .fst :: _, .unit, _, _, h => h
  | .fst :: _, .slice _, _, _, h => h
  | .fst :: _, .arr _ _, _, _, h => h
  | .snd :: _, .int _, _, _, h => h
  | .snd :: _, .bool, _, _, h => h
  | .snd :: _, .str, _, _, h => h
  | .snd :: _, .abs _, _, _, h => h
  | .snd :: _, .unit, _, _, h => h
  | .snd :: _, .slice _, _, _, h => h
  | .snd :: _, .arr _ _, _, _, h => h
  | .idx _ :: _, .int _, _, _, h => h
  | .idx _ :: _, .bool, _, _, h => h
  | .idx _ :: _, .str, _, _, h => h
  | .idx _ :: _, .abs _, _, _, h => h
  | .idx _ :: _, .unit, _, _, h => h
  | .idx _ :: _, .prod _ _, _, _, h => h

theorem store_core (hC : CtxOK P C) (hi : Inv0 P N w0 F0 H env a w F S) {r : Nat} {p : Path} {τ : Ty} {m m' : Md} {x x' : τ.den} {pl : Place} {S0 S' : NSet} {cs : List Value} {σ : Ty} {μ μ' : Md} {b off : Nat} {y : σ.den} {T : TypeId} {S1 : NSet} {v : Value} {used : List Nat}
    (hT : look C.tys T = some σ) (hR : Root F w (S r) (a.tmps.getD r undef) (env r) τ m x pl S0 cs) (hP : Plug F w τ m S0 pl x p σ μ (.mem b off) S')
    (hrow : ∃ row T0, w.heap[b]? = some (.cells row T0 (0, 0)) ∧ off + σ.size ≤ row.size) (hv : OwnV F w σ μ' S1 v y) (hn : nodupN (r :: used) = true)
    (hS1 : ∀ k, S1 k → ¬ (S0 k ∧ ¬ S' k) ∧ ¬ pl.isB k ∧ (S r k ∨ SL S used k) ∧ k ≠ b) (hset : setP p τ x σ y = some x') (hm : μ' = μ ∧ m' = m ∨ setM p τ m μ' = some m')
    {y1 : σ.den} (hgp : getP p τ x = some ⟨σ, y1⟩) (hgm : getM p τ m = some μ) (hir : inR p τ x) :
    ∃ w', (storeVar T ⟨b, off, none⟩ v).run P w = .ok () w' ∧ Inv P N w0 F0 H (upd (keepAS (dropAll env used) r p) r (reown (env r) τ m' x')) a w' := by
  obtain ⟨hnr, _⟩ := nodup_cons hn
  have hi2 := hi.dropAll' used
  have ho : (env r).isOwner = true := hR.isOwner
  have hdr := kill_dropAll_owner used ho hnr
  obtain ⟨c', rfl, hvo⟩ := hv
  obtain ⟨row, T0, hr1, hr2⟩ := hrow
  obtain ⟨w', k1, k2, k3, k4, k5, k6, k7⟩ := (hC.types T _ hT).storeVar hr1 hr2 hvo.len hvo.one
  have hbS : S r b := (hP.blk b rfl).elim (hR.sub b) hR.isB
  have hF : ∀ k, F k → w'.heap[k]? = w.heap[k]? := fun k hk => k3 k (fun e => (hi.sb r b hbS).2.2 (e ▸ hk))
  have hvo' : Own F w' σ μ' S1 c' y := hvo.congr hF (fun k hk => k3 k (hS1 k hk).2.2.2)
  have hnF : ∀ k, S1 k → ¬ F k := by
    intro k hk
    rcases (hS1 k hk).2.2.1 with h | ⟨t, _, h⟩
    · exact (hi.sb r k h).2.2
    · exact (hi.sb t k h).2.2
  obtain ⟨cs2, g1, g2⟩ := hP.plug F w' b off S1 c' μ' m' y x' rfl (fun _ h => h) (fun k hk => ⟨fun h => (hi.sb r k (hR.sub k h)).2.2 hk, fun h => (hi.sb r k (hR.isB h)).2.2 hk⟩)
    (fun k _ hne => k3 k hne) (fun k _ hne => k3 k hne) k2 hvo' (fun k hk => ⟨(hS1 k hk).1, hnF k hk, (hS1 k hk).2.2.2, (hS1 k hk).2.1⟩) hm hset
  have hroot : ∃ S0', Root F w' (fun k => ((S0 k ∧ ¬ S' k) ∨ S1 k) ∨ pl.isB k) (a.tmps.getD r undef) (reown (env r) τ m' x') τ m' x' pl S0' cs2 := by
    rcases hR.1 with ⟨hE, hpl, hs, hvv⟩ | ⟨hE, b0, hpl, hs, hvv, hb0⟩
    · rw [hE]
      subst hpl
      have hcs : cs = cs2 := g1
      subst hcs
      simp only [reown]
      exact ⟨_, .inl ⟨rfl, rfl, rfl, hvv⟩, rfl, g2.mono (fun _ h => h) (fun k hk => .inl hk)⟩
    · rw [hE]
      subst hpl
      simp only [reown]
      refine ⟨_, .inr ⟨rfl, b0, rfl, ?_, hvv, .inr rfl⟩, g1, g2⟩
      funext k
      apply propext
      constructor
      · intro h
        exact ⟨.inl h, fun e => by subst e; exact g1.1 h⟩
      · rintro ⟨h | h, hne⟩
        · exact h
        · exact absurd h hne
  obtain ⟨S0', hroot⟩ := hroot
  refine ⟨w', k1, F, fun t => if t = r then (fun k => ((S0 k ∧ ¬ S' k) ∨ S1 k) ∨ pl.isB k) else if t ∈ used then none' else S t, ?_⟩
  have hset2 := hi2.setRoot (r := r) (by rw [hdr]; exact ho) (w' := w') (Sr := fun k => ((S0 k ∧ ¬ S' k) ∨ S1 k) ∨ pl.isB k) (E := reown (env r) τ m' x') (by unfold reown; split <;> rfl)
    k5 k6 k7 (by omega) (fun k hk hH => k3 k (fun e => by subst e; exact (hi.sb r k hbS).1.elim (fun h => by omega) hH))
    (by
      rintro k (hk | ⟨t, ht, hk⟩)
      · exact hF k hk
      · refine k3 k (fun e => ?_)
        subst e
        split at hk
        · exact hk
        · exact hi.sd t r ht k hk hbS)
    (by
      intro k hk
      have hk2 : S r k ∨ SL S used k := by
        rcases hk with (hk | hk) | hk
        · exact .inl (hR.sub k hk.1)
        · exact (hS1 k hk).2.2.1
        · exact .inl (hR.isB hk)
      rcases hk2 with h | ⟨u, hu, h⟩
      · obtain ⟨q1, q2, q3⟩ := hi.sb r k h
        refine ⟨q1, by omega, q3, fun t ht hk => ?_⟩
        split at hk
        · exact hk
        · exact hi.sd t r ht k hk h
      · obtain ⟨q1, q2, q3⟩ := hi.sb u k h
        refine ⟨q1, by omega, q3, fun t ht hk => ?_⟩
        split at hk
        · exact hk
        · rename_i htu
          exact hi.sd t u (fun e => htu (e ▸ hu)) k hk h)
    (by
      have : EntOK P F w' (upd (kill (dropAll env used) r) r (reown (env r) τ m' x')) (fun t => a.tmps.getD t undef) (fun t => if t = r then (fun k => ((S0 k ∧ ¬ S' k) ∨ S1 k) ∨ pl.isB k) else if t ∈ used then none' else S t) r (reown (env r) τ m' x') := by
        rcases hR.1 with ⟨hE, _⟩ | ⟨hE, _⟩
        · rw [hE] at hroot ⊢
          simp only [reown, EntOK, if_true] at hroot ⊢
          exact ⟨pl, _, cs2, hroot⟩
        · rw [hE] at hroot ⊢
          simp only [reown, EntOK, if_true] at hroot ⊢
          exact ⟨pl, _, cs2, hroot⟩
      exact this)
  refine { hset2 with ent := ?_ }
  intro t
  by_cases htr : t = r
  · subst htr
    have := hset2.ent t
    rw [upd_same] at this ⊢
    rcases hR.1 with ⟨hE', _⟩ | ⟨hE', _⟩
    · rw [hE'] at this hroot ⊢
      simp only [reown, EntOK, if_true] at this hroot ⊢
      exact this
    · rw [hE'] at this hroot ⊢
      simp only [reown, EntOK, if_true] at this hroot ⊢
      exact this
  · rw [upd_ne _ _ htr]
    show EntOK _ _ _ _ _ _ t (keepA r p (dropAll env used t))
    rcases keepA_cases r p (dropAll env used t) with h | ⟨h, h2⟩
    · rw [h]; trivial
    · rw [h]
      rcases h2 with h2 | ⟨q, h2, hq⟩
      · have h3 := hset2.ent t
        rw [upd_ne _ _ htr] at h3
        have h4 : kill (dropAll env used) r t = dropAll env used t := killE_same h2
        rw [h4] at h3
        refine EntOK.keep (fun _ h => h) (fun b _ => rfl) rfl ?_ ?_ h3
        · intro u hu
          have hur : u ≠ r := fun e => h2 (e ▸ hu)
          refine ⟨fun ho => ?_, fun _ => rfl, rfl, fun b hb => rfl, fun b h1 h2 => absurd h1 h2, fun b hb => (hset2.sb u b hb).2.2⟩
          rw [upd_ne _ _ hur] at ho ⊢
          rw [upd_ne _ _ hur]
          rcases kill_cases (dropAll env used) r u with h5 | ⟨h5, _⟩
          · rw [h5] at ho; cases ho
          · rw [h5] at ho ⊢
            exact keepA_owner ho
        · intro _
          exact ⟨rfl, fun b hb => rfl, fun b h1 h2 => absurd h1 h2⟩
      · have h3 := hi2.ent t
        rw [h2] at h3 ⊢
        simp only [EntOK] at h3 ⊢
        obtain ⟨τ1, m1, x1, pl1, S01, cs1', σ1, μ1, b1, off1, e1, e2, e3, e4, e5, e6⟩ := h3
        rw [if_neg hnr, hdr] at e1
        obtain ⟨f1, f2, f3, f4⟩ := e1.uniq hR
        injection f1 with f5 f6
        subst f5; cases f6; subst f2; subst f3; subst f4
        obtain ⟨ν, hν⟩ := Option.isSome_iff_exists.1 (show (getM q τ1 m').isSome = true by
          rcases hm with ⟨_, rfl⟩ | hm
          · rw [e5]; rfl
          · exact getM_store _ _ _ _ _ hm hq (by rw [e5]; rfl))
        refine ⟨τ1, m', x', pl1, S0', cs2, σ1, ν, b1, off1, ?_, ?_, e3, getP_ty _ _ _ _ e4, hν, inR_store _ _ _ _ _ hset hq e6⟩
        · simp only [if_true, upd_same]
          exact hroot
        · rw [loc_store k2 k3 q p (fun k hk => (hi.sb r k (hR.sub k hk)).2.2) hR.2.2 hR.2.1 hgp hgm hir hP.loc e5 e6 hq]
          exact e2

theorem keepE_cases (r : Nat) (τ : Ty) (e : Ent) : keepE r τ e = .dead ∨ (keepE r τ e = e ∧ (e.root ≠ some r ∨ (∃ q, e = .addr r q) ∨ ∃ q, e = .sub r q ∧ slAt q τ = true)) := by
  unfold keepE
  split
  · rename_i r' q
    right
    refine ⟨rfl, ?_⟩
    by_cases h : r' = r
    · subst h; exact .inr (.inl ⟨q, rfl⟩)
    · left; simp [Ent.root, h]
  · rename_i r' q
    by_cases h : r' = r
    · subst h
      rw [Nat.beq_refl]
      cases hs : slAt q τ
      · left; rfl
      · right; exact ⟨rfl, .inr (.inr ⟨q, rfl, hs⟩)⟩
    · right
      rw [nbeq_ne h]
      exact ⟨rfl, .inl (by simp [Ent.root, h])⟩
  · unfold killE
    cases h : e.root with
    | none => right; simp
    | some r' =>
      by_cases e' : r' = r
      · left; simp [e']
      · right
        simp [nbeq_ne e', e']
theorem keepE_owner {r : Nat} {τ : Ty} {e : Ent} (h : e.isOwner = true) : keepE r τ e = e := by
  cases e <;> first | rfl | cases h
theorem slAt_slice : ∀ (p : Path) (τ : Ty) (x : τ.den) {σ : Ty} {y : σ.den}, slAt p τ = true → getP p τ x = some ⟨σ, y⟩ → ∃ e, σ = .slice e
  | [], .slice e, x, σ, y, h, hg => by
    simp only [getP, Option.some.injEq, Sigma.mk.injEq] at hg
    exact ⟨e, hg.1.symm⟩
  | .fst :: p, .prod a _, x, _, _, h, hg => slAt_slice p a x.1 h hg
  | .snd :: p, .prod _ b, x, _, _, h, hg => slAt_slice p b x.2 h hg
  | .idx i :: p, .slice e, x, _, _, h, hg => slAt_slice p e _ h hg
  | .idx i :: p, .arr _ e, x, _, _, h, hg => slAt_slice p e _ h hg
  | [], .int _, _, _, _, h, _ => by cases h
  | [], .bool, _, _, _, h, _ => by cases h
  | [], .str, _, _, _, h, _ => by cases h
  | [], .abs _, _, _, _, h, _ => by cases h
  | [], .unit, _, _, _, h, _ => by cases h
  | [], .prod _ _, _, _, _, h, _ => by cases h
  | [], .arr _ _, _, _, _, h, _ => by cases h
  | .fst :: _, .int _, _, _, _, h, _ => by cases h
  | .fst :: _, .bool, _, _, _, h, _ => by cases h
  | .fst :: _, .str, _, _, _, h, _ => by cases h
  | .fst :: _, .abs _, _, _, _, h, _ => by cases h
  | .fst :: _, .unit, _, _, _, h, _ => by cases h
  | .fst :: _, .slice _, _, _, _, h, _ => by cases h
  | .fst :: _, .arr _ _, _, _, _, h, _ => by cases h
  | .snd :: _, .int _, _, _, _, h, _ => by cases h
  | .snd :: _, .bool, _, _, _, h, _ => by cases h
  | .snd :: _, .str, _, _, _, h, _ => by cases h
  | .snd :: _, .abs _, _, _, _, h, _ => by cases h
  | .snd :: _, .unit, _, _, _, h, _ => by cases h
  | .snd :: _, .slice _, _, _, _, h, _ => by cases h
  | .snd :: _, .arr _ _, _, _, _, h, _ => by cases h
  | .idx _ :: _, .int _, _, _, _, h, _ => by cases h
  | .idx _ :: _, .bool, _, _, _, h, _ => by cases h
  | .idx _ :: _, .str, _, _, _, h, _ => by cases h
  | .idx _ :: _, .abs _, _, _, _, h, _ => by cases h
  | .idx _ :: _, .unit, _, _, _, h, _ => by cases h
  | .idx _ :: _, .prod _ _, _, _, _, h, _ => by cases h

theorem inR_scal {q : Path} {τ : Ty} {x x' : τ.den} (hs : τ.scal = true) (h : inR q τ x) : inR q τ x' := by
  cases q with
  | nil => trivial
  | cons a q =>
    exfalso
    cases τ with
    | int _ => cases a <;> exact h
    | bool => cases a <;> exact h
    | _ => cases hs

theorem inR_list {i j : Nat} {e : Ty} {xs : List e.den} {z : e.den} {q : Path} (hz : inR q e (xs.getD i e.dflt) → inR q e z) (h : j < xs.length ∧ inR q e (xs.getD j e.dflt)) :
    j < (xs.set i z).length ∧ inR q e ((xs.set i z).getD j e.dflt) := by
  refine ⟨by simpa using h.1, ?_⟩
  rw [List.getD_eq_getElem?_getD, List.getElem?_set]
  by_cases hij : i = j
  · subst hij
    rw [if_pos rfl, if_pos h.1]
    exact hz h.2
  · rw [if_neg hij, ← List.getD_eq_getElem?_getD]
    exact h.2
theorem inR_setP : ∀ (p q : Path) (τ : Ty) (x x' : τ.den) {σ : Ty} {y : σ.den}, σ.scal = true → setP p τ x σ y = some x' → inR q τ x → inR q τ x'
  | [], q, τ, x, x', σ, y, hs, h, hr => by
    simp only [setP] at h
    split at h
    · rename_i he
      subst he
      exact inR_scal hs hr
    · cases h
  | .fst :: p, q, .prod a b, x, x', σ, y, hs, h, hr => by
    simp only [setP, Option.map_eq_some_iff] at h
    obtain ⟨z, h1, rfl⟩ := h
    cases q with
    | nil => trivial
    | cons c q => cases c with
      | fst => exact inR_setP p q a x.1 z hs h1 hr
      | snd => exact hr
      | idx _ => exact hr
  | .snd :: p, q, .prod a b, x, x', σ, y, hs, h, hr => by
    simp only [setP, Option.map_eq_some_iff] at h
    obtain ⟨z, h1, rfl⟩ := h
    cases q with
    | nil => trivial
    | cons c q => cases c with
      | fst => exact hr
      | snd => exact inR_setP p q b x.2 z hs h1 hr
      | idx _ => exact hr
  | .idx i :: p, q, .slice e, xs, x', σ, y, hs, h, hr => by
    simp only [setP, Option.map_eq_some_iff] at h
    obtain ⟨z, h1, rfl⟩ := h
    cases q with
    | nil => trivial
    | cons c q => cases c with
      | fst => exact hr
      | snd => exact hr
      | idx j => exact inR_list (fun h => inR_setP p q e _ z hs h1 h) hr
  | .idx i :: p, q, .arr n e, xs, x', σ, y, hs, h, hr => by
    simp only [setP, Option.map_eq_some_iff] at h
    obtain ⟨z, h1, rfl⟩ := h
    cases q with
    | nil => trivial
    | cons c q => cases c with
      | fst => exact hr
      | snd => exact hr
      | idx j => exact inR_list (fun h => inR_setP p q e _ z hs h1 h) hr
  | .fst :: _, _, .int _, _, _, _, _, _, h, _ => by cases h
  | .fst :: _, _, .bool, _, _, _, _, _, h, _ => by cases h
  | .fst :: _, _, .str, _, _, _, _, _, h, _ => by cases h
  | .fst :: _, _, .abs _, _, _, _, _, _, h, _ => by cases h
  | .fst :: _, _, .unit, _, _, _, _, _, h, _ => by cases h
  | .fst :: _, _, .slice _, _, _, _, _, _, h, _ => by cases h
  | .fst :: _, _, .arr _ _, _, _, _, _, _, h, _ => by cases h
  | .snd :: _, _, .int _, _, _, _, _, _, h, _ => by cases h
  | .snd :: _, _, .bool, _, _, _, _, _, h, _ => by cases h
  | .snd :: _, _, .str, _, _, _, _, _, h, _ => by cases h
  | .snd :: _, _, .abs _, _, _, _, _, _, h, _ => by cases h
  | .snd :: _, _, .unit, _, _, _, _, _, h, _ => by cases h
  | .snd :: _, _, .slice _, _, _, _, _, _, h, _ => by cases h
  | .snd :: _, _, .arr _ _, _, _, _, _, _, h, _ => by cases h
  | .idx _ :: _, _, .int _, _, _, _, _, _, h, _ => by cases h
  | .idx _ :: _, _, .bool, _, _, _, _, _, h, _ => by cases h
  | .idx _ :: _, _, .str, _, _, _, _, _, h, _ => by cases h
  | .idx _ :: _, _, .abs _, _, _, _, _, _, h, _ => by cases h
  | .idx _ :: _, _, .unit, _, _, _, _, _, h, _ => by cases h
  | .idx _ :: _, _, .prod _ _, _, _, _, _, _, h, _ => by cases h

/-- The slices stay where they are. -/
def SK (w w' : World) : Prop := ∀ (pl : Place) ao n c, pl.read w 1 = some [.slice ao n c] → pl.read w' 1 = some [.slice ao n c]
theorem SK.of_upd {w w' : World} {b off : Nat} {c' : List Value} {row : Array Value} {T0 : TypeId} {v : Value} (hu : Upd w w' b off 1 c') (ho : ∀ k, k ≠ b → w'.heap[k]? = w.heap[k]?)
    (hr : w.heap[b]? = some (.cells row T0 (0, 0))) (hs : seg row.toList off 1 = [v]) (hv : ∀ ao n c, v ≠ .slice ao n c) : SK w w' := by
  intro pl ao n c h
  cases pl with
  | val cs => exact h
  | mem k o =>
    by_cases hk : k = b
    · subst hk
      obtain ⟨hl, row1, row', T, h1, h2, h3, h4⟩ := hu
      rw [hr] at h1
      injection h1 with h1; injection h1 with h1; subst h1
      simp only [Place.read, hr] at h
      split at h
      · rename_i hle
        injection h with h
        have hlen : row'.size = row.size := by
          have := congrArg List.length h4
          simp at this; omega
        simp only [Place.read, h2]
        rw [if_pos (by omega)]
        have hne : o ≠ off := by
          rintro rfl
          rw [hs] at h
          injection h with h _
          exact hv _ _ _ h
        have : seg row'.toList o 1 = seg row.toList o 1 := by
          rw [h4]
          exact seg_upd_out _ _ _ _ hl (by simpa using h3) _ _ (by simpa using hle) (by omega)
        rw [this, h]
      · cases h
    · simp only [Place.read] at h ⊢
      rw [ho k hk]; exact h
theorem loc_keep {w w' : World} (h : SK w w') : ∀ (p : Path) (τ : Ty) (pl : Place) {y : Ty × Place}, loc w p τ pl = some y → loc w' p τ pl = some y
  | [], _, _, _, he => he
  | .fst :: p, .prod a _, pl, _, he => loc_keep h p a _ he
  | .snd :: p, .prod a b, pl, _, he => loc_keep h p b _ he
  | .idx i :: p, .slice e, pl, _, he => by
    simp only [loc] at he ⊢
    split at he
    · rename_i b off len c hr
      rw [h pl _ _ _ hr]
      simp only []
      split at he
      · rename_i hi
        rw [if_pos hi]
        exact loc_keep h p e _ he
      · cases he
    · cases he
  | .idx i :: p, .arr n e, pl, _, he => by
    simp only [loc] at he ⊢
    split at he
    · rename_i hi
      rw [if_pos hi]
      exact loc_keep h p e _ he
    · cases he
  | .fst :: _, .int _, _, _, he => by simp [loc] at he
  | .fst :: _, .bool, _, _, he => by simp [loc] at he
  | .fst :: _, .str, _, _, he => by simp [loc] at he
  | .fst :: _, .abs _, _, _, he => by simp [loc] at he
  | .fst :: _, .unit, _, _, he => by simp [loc] at he
  | .fst :: _, .slice _, _, _, he => by simp [loc] at he
  | .fst :: _, .arr _ _, _, _, he => by simp [loc] at he
  | .snd :: _, .int _, _, _, he => by simp [loc] at he
  | .snd :: _, .bool, _, _, he => by simp [loc] at he
  | .snd :: _, .str, _, _, he => by simp [loc] at he
  | .snd :: _, .abs _, _, _, he => by simp [loc] at he
  | .snd :: _, .unit, _, _, he => by simp [loc] at he
  | .snd :: _, .slice _, _, _, he => by simp [loc] at he
  | .snd :: _, .arr _ _, _, _, he => by simp [loc] at he
  | .idx _ :: _, .int _, _, _, he => by simp [loc] at he
  | .idx _ :: _, .bool, _, _, he => by simp [loc] at he
  | .idx _ :: _, .str, _, _, he => by simp [loc] at he
  | .idx _ :: _, .abs _, _, _, he => by simp [loc] at he
  | .idx _ :: _, .unit, _, _, he => by simp [loc] at he
  | .idx _ :: _, .prod _ _, _, _, he => by simp [loc] at he
theorem Own.scal {F : NSet} {w : World} {σ : Ty} {μ : Md} {S : NSet} {cs : List Value} {y : σ.den} (hs : σ.scal = true) (h : Own F w σ μ S cs y) : σ.size = 1 ∧ ∃ v, cs = [v] ∧ ∀ ao n c, v ≠ .slice ao n c := by
  cases σ with
  | int k => exact ⟨rfl, _, h.1, fun _ _ _ h => by cases h⟩
  | bool => exact ⟨rfl, _, h, fun _ _ _ h => by cases h⟩
  | _ => cases hs

/-- A number is stored: the aliases of slices and the addresses stay. -/
theorem store_scal (hC : CtxOK P C) (hi : Inv0 P N w0 F0 H env a w F S) {r : Nat} {p : Path} {τ : Ty} {m : Md} {x x' : τ.den} {pl : Place} {S0 S' : NSet} {cs cs1 : List Value} {σ : Ty} {μ : Md} {b off : Nat} {y y1 : σ.den} {T : TypeId} {S1 : NSet} {v : Value}
    (hT : look C.tys T = some σ) (hR : Root F w (S r) (a.tmps.getD r undef) (env r) τ m x pl S0 cs) (hf : Focus F w τ m S0 pl x p σ y1 μ (.mem b off) cs1 S') (hs : σ.scal = true)
    (hv : OwnV F w σ μ S1 v y) (hset : setP p τ x σ y = some x') :
    ∃ w', (storeVar T ⟨b, off, none⟩ v).run P w = .ok () w' ∧ Inv P N w0 F0 H (upd (keepS env r τ) r (reown (env r) τ m x')) a w' := by
  have hP := hf.toPlug
  have ho : (env r).isOwner = true := hR.isOwner
  obtain ⟨c', rfl, hvo0⟩ := hv
  have hvo1 : Own F w σ μ none' c' y := Own.flat (by cases σ <;> first | rfl | cases hs) hvo0
  obtain ⟨q1, q2, row, T0, hr1, hr2, hr3⟩ := hf.ok
  obtain ⟨w', k1, k2, k3, k4, k5, k6, k7⟩ := (hC.types T _ hT).storeVar hr1 hr2 hvo1.len hvo1.one
  have hbS : S r b := (hP.blk b rfl).elim (hR.sub b) hR.isB
  have hF : ∀ k, F k → w'.heap[k]? = w.heap[k]? := fun k hk => k3 k (fun e => (hi.sb r b hbS).2.2 (e ▸ hk))
  have hvo' : Own F w' σ μ none' c' y := hvo1.congr hF (fun k hk => hk.elim)
  have hm : μ = μ ∧ m = m ∨ setM p τ m μ = some m := .inl ⟨rfl, rfl⟩
  obtain ⟨hz, v1, hv1, hv2⟩ := hf.own.scal hs
  have hsk : SK w w' := SK.of_upd (hz ▸ k2) k3 hr1 (by rw [hz] at hr3; rw [hr3, hv1]) hv2
  obtain ⟨cs2, g1, g2⟩ := hP.plug F w' b off none' c' μ m y x' rfl (fun _ h => h) (fun k hk => ⟨fun h => (hi.sb r k (hR.sub k h)).2.2 hk, fun h => (hi.sb r k (hR.isB h)).2.2 hk⟩)
    (fun k _ hne => k3 k hne) (fun k _ hne => k3 k hne) k2 hvo' (fun k hk => hk.elim) hm hset
  have hroot : ∃ S0', Root F w' (fun k => ((S0 k ∧ ¬ S' k) ∨ none' k) ∨ pl.isB k) (a.tmps.getD r undef) (reown (env r) τ m x') τ m x' pl S0' cs2 := by
    rcases hR.1 with ⟨hE, hpl, hs, hvv⟩ | ⟨hE, b0, hpl, hs, hvv, hb0⟩
    · rw [hE]
      subst hpl
      have hcs : cs = cs2 := g1
      subst hcs
      simp only [reown]
      exact ⟨_, .inl ⟨rfl, rfl, rfl, hvv⟩, rfl, g2.mono (fun _ h => h) (fun k hk => .inl hk)⟩
    · rw [hE]
      subst hpl
      simp only [reown]
      refine ⟨_, .inr ⟨rfl, b0, rfl, ?_, hvv, .inr rfl⟩, g1, g2⟩
      funext k
      apply propext
      constructor
      · intro h
        exact ⟨.inl h, fun e => by subst e; exact g1.1 h⟩
      · rintro ⟨h | h, hne⟩
        · exact h
        · exact absurd h hne
  obtain ⟨S0', hroot⟩ := hroot
  have hE : (reown (env r) τ m x').isOwner = true := by unfold reown; split <;> rfl
  have hset2 := hi.setRoot (r := r) ho (w' := w') (Sr := fun k => ((S0 k ∧ ¬ S' k) ∨ none' k) ∨ pl.isB k) (E := reown (env r) τ m x') hE
    k5 k6 k7 (by omega) (fun k hk hH => k3 k (fun e => by subst e; exact (hi.sb r k hbS).1.elim (fun h => by omega) hH))
    (by
      rintro k (hk | ⟨t, ht, hk⟩)
      · exact hF k hk
      · refine k3 k (fun e => ?_)
        subst e
        exact hi.sd t r ht k hk hbS)
    (by
      intro k hk
      have hk2 : S r k := by
        rcases hk with (hk | hk) | hk
        · exact hR.sub k hk.1
        · exact hk.elim
        · exact hR.isB hk
      obtain ⟨q1, q2, q3⟩ := hi.sb r k hk2
      exact ⟨q1, by omega, q3, fun t ht hk => hi.sd t r ht k hk hk2⟩)
    (by
      have : EntOK P F w' (upd (kill env r) r (reown (env r) τ m x')) (fun t => a.tmps.getD t undef) (fun t => if t = r then (fun k => ((S0 k ∧ ¬ S' k) ∨ none' k) ∨ pl.isB k) else S t) r (reown (env r) τ m x') := by
        rcases hR.1 with ⟨hE, _⟩ | ⟨hE, _⟩
        · rw [hE] at hroot ⊢
          simp only [reown, EntOK, if_true] at hroot ⊢
          exact ⟨pl, _, cs2, hroot⟩
        · rw [hE] at hroot ⊢
          simp only [reown, EntOK, if_true] at hroot ⊢
          exact ⟨pl, _, cs2, hroot⟩
      exact this)
  refine ⟨w', k1, F, fun t => if t = r then (fun k => ((S0 k ∧ ¬ S' k) ∨ none' k) ∨ pl.isB k) else S t, ?_⟩
  refine { hset2 with ent := ?_ }
  intro t
  by_cases htr : t = r
  · subst htr
    have := hset2.ent t
    rw [upd_same] at this ⊢
    rcases hR.1 with ⟨hE', _⟩ | ⟨hE', _⟩
    · rw [hE'] at this hroot ⊢
      simp only [reown, EntOK, if_true] at this hroot ⊢
      exact this
    · rw [hE'] at this hroot ⊢
      simp only [reown, EntOK, if_true] at this hroot ⊢
      exact this
  · rw [upd_ne _ _ htr]
    show EntOK _ _ _ _ _ _ t (keepE r τ (env t))
    rcases keepE_cases r τ (env t) with h | ⟨h, h2⟩
    · rw [h]; trivial
    · rw [h]
      rcases h2 with h2 | ⟨q, h2⟩ | ⟨q, h2, hq⟩
      · have h3 := hset2.ent t
        rw [upd_ne _ _ htr] at h3
        have h4 : kill env r t = env t := killE_same h2
        rw [h4] at h3
        refine EntOK.keep (fun _ h => h) (fun b _ => rfl) rfl ?_ ?_ h3
        · intro u hu
          have hur : u ≠ r := fun e => h2 (e ▸ hu)
          refine ⟨fun ho => ?_, fun _ => rfl, rfl, fun b hb => rfl, fun b h1 h2 => absurd h1 h2, fun b hb => (hset2.sb u b hb).2.2⟩
          rw [upd_ne _ _ hur] at ho ⊢
          rw [upd_ne _ _ hur]
          rcases kill_cases env r u with h5 | ⟨h5, _⟩
          · rw [h5] at ho; cases ho
          · rw [h5] at ho ⊢
            exact keepE_owner ho
        · intro _
          exact ⟨rfl, fun b hb => rfl, fun b h1 h2 => absurd h1 h2⟩
      · have h3 := hi.ent t
        rw [h2] at h3 ⊢
        simp only [EntOK] at h3 ⊢
        obtain ⟨τ1, m1, x1, pl1, S01, cs1', σ1, μ1, b1, off1, e1, e2, e3, e4, e5, e6⟩ := h3
        obtain ⟨f1, f2, f3, f4⟩ := e1.uniq hR
        injection f1 with f5 f6
        subst f5; cases f6; subst f2; subst f3; subst f4
        refine ⟨τ1, m1, x', pl1, S0', cs2, σ1, μ1, b1, off1, ?_, loc_keep hsk _ _ _ e2, e3, getP_ty _ _ _ _ e4, e5, inR_setP _ _ _ _ _ hs hset e6⟩
        simp only [if_true, upd_same]
        exact hroot
      · have h3 := hi.ent t
        rw [h2] at h3 ⊢
        simp only [EntOK] at h3 ⊢
        obtain ⟨τ1, m1, x1, pl1, S01, cs1', σ1, μ1, pl', cs', e1, e2, e3, e4, e5, e6, e7⟩ := h3
        obtain ⟨f1, f2, f3, f4⟩ := e1.uniq hR
        injection f1 with f5 f6
        subst f5; cases f6; subst f2; subst f3; subst f4
        cases hg : getP q τ1 x1 with
        | none => rw [hg] at e5; cases e5
        | some g =>
          obtain ⟨σ2, y2⟩ := g
          obtain ⟨e, rfl⟩ := slAt_slice q τ1 x1 hq hg
          obtain ⟨pl3, cs3, S3, f⟩ := focus q (fun k hk => (hi.sb _ k (hR.sub k hk)).2.2) hR.2.2 hR.2.1 hg e6 e7
          have e8 := f.loc.symm.trans e2
          simp only [Option.some.injEq, Prod.mk.injEq] at e8
          obtain ⟨e8, e9⟩ := e8
          subst e8; subst e9
          have e10 := f.ok.read.symm.trans e3
          simp only [Option.some.injEq] at e10; subst e10
          obtain ⟨ao, cap, hcs, _⟩ := f.own
          have hrd : pl3.read w' (Ty.slice e).size = some cs3 := by
            rw [hcs] at e3 ⊢
            exact hsk pl3 _ _ _ e3
          refine ⟨τ1, m1, x', pl1, S0', cs2, .slice e, μ1, pl3, cs3, ?_, loc_keep hsk _ _ _ e2, hrd, e4, getP_ty _ _ _ _ e5, e6, inR_setP _ _ _ _ _ hs hset e7⟩
          simp only [if_true, upd_same]
          exact hroot
end
end Go.Lf
namespace Go.Lf

structure Taken where
  τ : Ty
  m : Md
  x : τ.den
  t : Nat

/-- A value that may be taken over whole, and the owner that it is taken from. -/
def takeE (v : View) : Option Taken :=
  match v.e with
  | .own τ m x => match v.s with
    | some t => some ⟨τ, m, x, t⟩
    | none => none
  | .pend r _ e me x => some ⟨.slice e, .own me, x, r⟩
  | .sub r [] => match v.r with
    | .own τ m x => some ⟨τ, m, x, r⟩
    | _ => none
  | _ => none

def isSub : Ent → Bool
  | .sub _ _ => true
  | _ => false

def ownA (C : Ctx) (d : Nat) (st : St) (v : View) : Option (Prop × St) :=
  bif isSub v.e && isNone (look C.mds d) then none else match takeE v with
  | some k => some (True, put (drop st k.t) d (mkE C d k.τ k.m k.x))
  | none => none

def pureStp (C : Ctx) (st : St) (o : Oper) : Option (Prop × St) :=
  match o.dst, opE C o (viewO st) with
  | some d, some (c, e, l) => some (c, put (dropAll st l) d e)
  | _, _ => none

def appC (C : Ctx) (st : St) (o : Oper) (q : Call) : Option (Prop × St) :=
  match q.callee, q.args.toList, q.argTypes.toList, o.dst with
  | .builtin .append, [x, y], [T, T2], some d => bif wrB C d then appE C d st T T2 (viewO st x) (viewO st y) else none
  | _, _, _, _ => none

/-- Several results are handed on. -/
def mvT (C : Ctx) (st : St) (o : Oper) (x : Operand) : Option (Prop × St) :=
  match x, o.dst with
  | .tmp t, some d => match st t with
    | .tup τ m x => bif wrB C d then some (True, put (drop st t) d (.tup τ m x)) else none
    | _ => none
  | _, _ => none

def stp (C : Ctx) (st : St) (o : Oper) : Option (Prop × St) :=
  match o.op with
  | .move x => match mvT C st o x with
    | some r => some r
    | none => pureStp C st o
  | .store T x v => bif isNone o.dst then storeE C st T (viewO st x) (viewO st v) else none
  | .assign x => match o.dst with
    | some d => match (bif wrB C d then ownA C d st (viewO st x) else none) with
      | some r => some r
      | none => pureStp C st o
    | none => none
  | .panic _ => some (False, st)
  | .call q => match appC C st o q with
    | some r => some r
    | none => pureStp C st o
  | _ => pureStp C st o

section
variable {P : Program} {C : Ctx} {N : NP} {w0 : World} {F0 H : NSet} {env : St} {a : Act} {w : World} {F : NSet} {S : Nat → NSet} {d : Nat}

theorem pend_ok (hi : Inv0 P N w0 F0 H env a w F S) {v : Value} {vw : View} (hv : ViewOK P F w env (fun t => a.tmps.getD t undef) S v vw) {r : Nat} {p : Path} {e : Ty} {me : Md} {x : List e.den} (he : vw.e = .pend r p e me x) :
    ∃ τ m z pl S0 cs y pl' S' Sp, Root F w (S r) (a.tmps.getD r undef) (env r) τ m z pl S0 cs ∧ Plug F w τ m S0 pl z p (.slice e) (.own me) pl' S' ∧
      getM p τ m = some (.own me) ∧ inR p τ z ∧ getP p τ z = some ⟨.slice e, y⟩ ∧ OwnV F w (.slice e) (.own me) Sp v x ∧ Sub Sp (S r) ∧ (∀ k, Sp k → ¬ (S0 k ∧ ¬ S' k) ∧ ¬ pl.isB k) := by
  have h1 := hv.ent (by rw [he]; rfl) (r + 1) (by rw [he]; simp [Ent.root])
  rw [he] at h1
  simp only [EntOK, if_true] at h1
  obtain ⟨τ0, m0, x0, pl, S0, cs, y, pl', S', Sp, cp, g1, g2, g3, g4, g5, g6, g7, g8, g9⟩ := h1
  simp only [show ¬ (r = r + 1) from by omega, if_false] at g1
  exact ⟨τ0, m0, x0, pl, S0, cs, y, pl', S', Sp, g1, g2, g3, g4, g5, ⟨cp, g6, g7⟩, g8, g9⟩

theorem takeE_ok (hi : Inv0 P N w0 F0 H env a w F S) {v : Value} {vw : View} (hv : ViewOK P F w env (fun t => a.tmps.getD t undef) S v vw) {k : Taken} (h : takeE vw = some k) :
    ∃ Sd, Sub Sd (S k.t) ∧ OwnV F w k.τ k.m Sd v k.x := by
  unfold takeE at h
  split at h
  · rename_i τ m x he
    split at h
    · rename_i t hs
      simp only [Option.some.injEq] at h
      subst h
      obtain ⟨t', g1, g2, rfl⟩ := hv.own (by rw [he]; rfl)
      rw [hs] at g1; injection g1 with g1; subst g1
      have h3 := hi.ent t
      rw [g2, he] at h3
      obtain ⟨pl, S0, cs, h3⟩ := h3
      obtain ⟨_, _, e3, e4, e5⟩ := h3.own_inj
      subst e4
      exact ⟨_, fun _ h => h, cs, e5, h3.2.2⟩
    · cases h
  · rename_i r p e me x he
    simp only [Option.some.injEq] at h
    subst h
    obtain ⟨τ, m, z, pl, S0, cs, y, pl', S', Sp, g1, g2, g3, g4, g5, g6, g7, g8⟩ := pend_ok hi hv he
    exact ⟨Sp, g7, g6⟩
  · rename_i r he
    split at h
    · rename_i τ m x hr
      simp only [Option.some.injEq] at h
      subst h
      have h2 := hv.ent (by rw [he]; rfl) (r + 1) (by rw [he]; simp [Ent.root])
      rw [he] at h2
      simp only [EntOK, if_true] at h2
      obtain ⟨τ0, m0, x0, pl, S0, cs, σ', μ, pl', cs', g1, g2, g3, g4, g5, g6, g7⟩ := h2
      simp only [show ¬ (r = r + 1) from by omega, if_false] at g1
      have hroot := hv.root
      rw [he] at hroot
      simp only [rootE, Ent.root] at hroot
      rw [← hroot, hr] at g1
      obtain ⟨e1, e2, e3, e4, e5⟩ := g1.own_inj
      injection e1 with e6 e7
      subst e6; cases e7; subst e2; subst e3; subst e4
      simp only [loc, Option.some.injEq, Prod.mk.injEq] at g2
      obtain ⟨rfl, rfl⟩ := g2
      simp only [Place.read, Option.some.injEq] at g3
      subst g3
      exact ⟨_, fun _ h => h, cs, g4, g1.2.2⟩
    · cases h
  · cases h

theorem Inv0.takeOver (hi : Inv0 P N w0 F0 H env a w F S) {t : Nat} {τ : Ty} {m : Md} {x : τ.den} {v : Value} {Sd : NSet} (hd : Wr N d) (hs : Sub Sd (S t)) (hv : OwnV F w τ m Sd v x) :
    ∃ F2 S2, Inv0 P N w0 F0 H (Go.Lf.put (Go.Lf.drop env t) d (mkE C d τ m x)) (a.put (some d) v) w F2 S2 := by
  refine (hi.drop t).putNew hd (RowKit.Below.refl _ _) (fun _ h => h) hi.fb (fun b h1 h2 => absurd h1 h2) ?_ hv
  intro b hb
  obtain ⟨h1, h2, h3⟩ := hi.sb t b (hs b hb)
  refine ⟨h1, h2, h3, fun u hu => ?_⟩
  by_cases h : u = t
  · simp [h] at hu; exact hu
  · simp only [h, if_false] at hu
    exact hi.sd u t h b hu (hs b hb)

theorem ownA_ok (hi : Inv0 P C.np w0 F0 H env a w F S) (hd : Wr C.np d) {v : Value} {vw : View} (hv : ViewOK P F w env (fun t => a.tmps.getD t undef) S v vw) {c : Prop} {st' : St} (h : ownA C d env vw = some (c, st')) :
    Inv P C.np w0 F0 H st' (a.put (some d) v) w := by
  unfold ownA at h
  cases hb : (isSub vw.e && isNone (look C.mds d))
  · rw [hb] at h
    simp only [cond_false] at h
    split at h
    · rename_i k hk
      simp only [Option.some.injEq, Prod.mk.injEq] at h
      obtain ⟨_, rfl⟩ := h
      obtain ⟨Sd, g1, g2⟩ := takeE_ok hi hv hk
      exact hi.takeOver hd g1 g2
    · cases h
  · rw [hb] at h; cases h

theorem valS_ok (hi : Inv0 P N w0 F0 H env a w F S) {v : Value} {vw : View} (hv : ViewOK P F w env (fun t => a.tmps.getD t undef) S v vw) {σ : Ty} {μ μ' : Md} {l : Al} {y : σ.den} {u : List Nat}
    (h : valS σ μ l vw = some (y, μ', u, false)) : (u = [] ∧ OwnV F w σ μ' none' v y) ∨ ∃ t, u = [t] ∧ OwnV F w σ μ' (S t) v y := by
  have hsh : ∀ {y : σ.den}, vw.shrAs σ = some y → OwnV F w σ (bif σ.flat then μ else .shr) none' v y := by
    intro y hy
    have := shrAs_ok hi hv hy
    cases hf : σ.flat
    · exact this
    · exact OwnV.flat hf this
  unfold valS at h
  split at h
  · rename_i he
    split at h
    · rename_i z hz
      simp only [Option.some.injEq, Prod.mk.injEq] at h
      obtain ⟨rfl, rfl, rfl, _⟩ := h
      have := ownAs_ok (e := σ) (m := μ) (x := z) (l := []) hi hv (by unfold View.ownAs; rw [he]; simp [hz])
      rcases this with ⟨_, h⟩ | ⟨t, h, _⟩
      · exact .inl ⟨rfl, h⟩
      · cases h
    · split at h
      · rename_i z hz
        simp only [Option.some.injEq, Prod.mk.injEq] at h
        obtain ⟨rfl, rfl, rfl, _⟩ := h
        exact .inl ⟨rfl, shrAs_ok hi hv (by unfold View.shrAs; rw [he]; exact hz)⟩
      · cases h
  · split at h
    · rename_i z u' hz
      simp only [Option.some.injEq, Prod.mk.injEq] at h
      obtain ⟨rfl, rfl, rfl, _⟩ := h
      exact ownAs_ok hi hv hz
    · cases h
  · rename_i r he
    split at h
    · split at h
      · rename_i z hz
        simp only [Option.some.injEq, Prod.mk.injEq] at h
        obtain ⟨rfl, rfl, rfl, _⟩ := h
        have hfl : σ.flat = true := by
          unfold View.shrAs at hz
          rw [he] at hz
          simp only [] at hz
          cases hf : σ.flat
          · rw [hf] at hz; cases hz
          · rfl
        exact .inl ⟨rfl, OwnV.flat hfl (shrAs_ok hi hv hz)⟩
      · split at h
        · rename_i z u' hz
          simp only [Option.some.injEq, Prod.mk.injEq] at h
          obtain ⟨rfl, rfl, rfl, _⟩ := h
          exact ownR_ok hi hv hz
        · cases h
    · split at h
      · rename_i z hz
        simp only [Option.some.injEq, Prod.mk.injEq] at h
        obtain ⟨rfl, rfl, rfl, _⟩ := h
        have hfl : σ.flat = true := by
          unfold View.shrAs at hz
          rw [he] at hz
          simp only [] at hz
          cases hf : σ.flat
          · rw [hf] at hz; cases hz
          · rfl
        exact .inl ⟨rfl, OwnV.flat hfl (shrAs_ok hi hv hz)⟩
      · split at h
        · rename_i z u' hz
          simp only [Option.some.injEq, Prod.mk.injEq] at h
          obtain ⟨rfl, rfl, rfl, _⟩ := h
          exact ownR_ok hi hv hz
        · cases h
    · split at h
      · rename_i z hz
        simp only [Option.some.injEq, Prod.mk.injEq] at h
        obtain ⟨rfl, rfl, rfl, _⟩ := h
        exact .inl ⟨rfl, hsh hz⟩
      · cases h
  · rename_i r p e me x he
    cases hb : (Nat.beq r l.r && decide (μ = .own me))
    · rw [hb] at h; cases h
    · rw [hb] at h
      simp only [cond_true] at h
      split at h
      · simp only [Option.some.injEq, Prod.mk.injEq] at h
        obtain ⟨_, _, _, h⟩ := h
        cases h
      · cases h
  · split at h
    · rename_i z hz
      simp only [Option.some.injEq, Prod.mk.injEq] at h
      obtain ⟨rfl, rfl, rfl, _⟩ := h
      exact .inl ⟨rfl, hsh hz⟩
    · cases h

theorem valS_pend {vw : View} {σ : Ty} {μ μ' : Md} {l : Al} {y : σ.den} {u : List Nat} (h : valS σ μ l vw = some (y, μ', u, true)) :
    ∃ p e me x, vw.e = .pend l.r p e me x ∧ μ = .own me ∧ μ' = μ ∧ u = [] ∧ (⟨.slice e, x⟩ : Σ τ : Ty, τ.den) = ⟨σ, y⟩ := by
  unfold valS at h
  split at h
  · split at h
    · simp only [Option.some.injEq, Prod.mk.injEq] at h; obtain ⟨_, _, _, h⟩ := h; cases h
    · split at h
      · simp only [Option.some.injEq, Prod.mk.injEq] at h; obtain ⟨_, _, _, h⟩ := h; cases h
      · cases h
  · split at h
    · simp only [Option.some.injEq, Prod.mk.injEq] at h; obtain ⟨_, _, _, h⟩ := h; cases h
    · cases h
  · split at h
    · split at h
      · simp only [Option.some.injEq, Prod.mk.injEq] at h; obtain ⟨_, _, _, h⟩ := h; cases h
      · split at h
        · simp only [Option.some.injEq, Prod.mk.injEq] at h; obtain ⟨_, _, _, h⟩ := h; cases h
        · cases h
    · split at h
      · simp only [Option.some.injEq, Prod.mk.injEq] at h; obtain ⟨_, _, _, h⟩ := h; cases h
      · split at h
        · simp only [Option.some.injEq, Prod.mk.injEq] at h; obtain ⟨_, _, _, h⟩ := h; cases h
        · cases h
    · split at h
      · simp only [Option.some.injEq, Prod.mk.injEq] at h; obtain ⟨_, _, _, h⟩ := h; cases h
      · cases h
  · rename_i r p e me x he
    cases hb : (Nat.beq r l.r && decide (μ = .own me))
    · rw [hb] at h; cases h
    · rw [hb] at h
      simp only [cond_true] at h
      simp only [Bool.and_eq_true, nbeq_iff, decide_eq_true_eq] at hb
      obtain ⟨h1, h3⟩ := hb
      split at h
      · rename_i z hz
        simp only [Option.some.injEq, Prod.mk.injEq] at h
        obtain ⟨rfl, rfl, rfl, _⟩ := h
        exact ⟨p, e, me, x, by rw [he, h1], h3, rfl, rfl, castD_some hz⟩
      · cases h
  · split at h
    · simp only [Option.some.injEq, Prod.mk.injEq] at h; obtain ⟨_, _, _, h⟩ := h; cases h
    · cases h

theorem storeE_ok (hC : CtxOK P C) (hi : Inv0 P N w0 F0 H env a w F S) {T : TypeId} {x z : Operand} {o : Oper} (ho : o.op = .store T x z) (hod : o.dst = none) {vx vz : View}
    (hx : ViewOK P F w env (fun t => a.tmps.getD t undef) S (a.eval x) vx) (hz : ViewOK P F w env (fun t => a.tmps.getD t undef) S (a.eval z) vz)
    {c : Prop} {st' : St} (h : storeE C env T vx vz = some (c, st')) (hc : c) {K : Act → World → Prop} {Q : Exit → Act → World → Prop} (hK : ∀ a' w', Inv P N w0 F0 H st' a' w' → K a' w') : o.wp P a w K Q := by
  unfold storeE at h
  split at h
  · rename_i l hl
    obtain ⟨σ, y0, μ, pl, S0, cs, b, off, hA, hv⟩ := addr?_ok hi hx hl
    rw [hA.get, hA.mode] at h
    simp only [] at h
    cases hT : decide (look C.tys T = some σ)
    · rw [hT] at h; cases h
    have hT' := of_decide_eq_true hT
    rw [hT] at h
    simp only [cond_true] at h
    split at h
    · rename_i y μ' used isP hvs
      split at h
      · rename_i x' m' hset hmode
        cases hn : nodupN (l.r :: used)
        · rw [hn] at h; cases h
        rw [hn] at h
        simp only [cond_true, Option.some.injEq, Prod.mk.injEq] at h
        obtain ⟨rfl, rfl⟩ := h
        have hm : μ' = μ ∧ m' = l.m ∨ setM l.p l.τ l.m μ' = some m' := by
          unfold modeS at hmode
          cases hd : decide (μ' = μ)
          · rw [hd] at hmode; exact .inr hmode
          · rw [hd] at hmode
            simp only [cond_true, Option.some.injEq] at hmode
            exact .inl ⟨of_decide_eq_true hd, hmode.symm⟩
        obtain ⟨cs2, S', f⟩ := hA.focus (fun b hb => (hi.sb _ b hb).2.2)
        obtain ⟨q1, q2, row, T0, q3, q4, q5⟩ := f.ok
        have fin : ∀ w', (storeVar T ⟨b, off, none⟩ (a.eval z)).run P w = .ok () w' → (execOp a.eval o).run P w = .ok .skip w' := by
          intro w' hw'
          simp [execOp, ho, Instr.storeAt, hv, Instr.sureAddr, hw']
        cases hfl : flatS σ μ μ' used with
        | true =>
          rw [hfl] at hK
          simp only [cond_true] at hK
          unfold flatS at hfl
          simp only [Bool.and_eq_true, decide_eq_true_eq, List.isEmpty_iff] at hfl
          obtain ⟨⟨hs, rfl⟩, rfl⟩ := hfl
          have hm' : m' = l.m := by
            unfold modeS at hmode
            rw [decide_eq_true rfl] at hmode
            simp only [cond_true, Option.some.injEq] at hmode; exact hmode.symm
          subst hm'
          cases isP with
          | true =>
            obtain ⟨pp, e, me, xs, he, h1, h2, h3, h4⟩ := valS_pend hvs
            injection h4 with h5 _
            subst h5; cases hs
          | false =>
            have hval := valS_ok hi hz hvs
            have hown : ∃ S1, OwnV F w σ μ' S1 (a.eval z) y := by
              rcases hval with ⟨_, h⟩ | ⟨t, h0, h⟩
              · exact ⟨none', h⟩
              · cases h0
            obtain ⟨S1, k2⟩ := hown
            obtain ⟨w', g1, g2⟩ := store_scal hC hi hT' hA.root f hs k2 hset
            unfold Oper.wp
            rw [fin w' g1, Oper.upon_skip, hod]
            exact hK a w' g2
        | false =>
        rw [hfl] at hK
        simp only [cond_false] at hK
        have goal : ∀ w', (storeVar T ⟨b, off, none⟩ (a.eval z)).run P w = .ok () w' → Inv P N w0 F0 H (upd (keepAS (dropAll env used) l.r l.p) l.r (reown (env l.r) l.τ m' x')) a w' → o.wp P a w K Q := by
          intro w' hw' hinv
          unfold Oper.wp
          rw [fin w' hw', Oper.upon_skip, hod]
          exact hK a w' hinv
        have hbS : S l.r b := (f.blk b rfl).elim (hA.root.sub b) hA.root.isB
        cases isP with
        | false =>
          have hval := valS_ok hi hz hvs
          have hown : ∃ S1, Sub S1 (SL S used) ∧ OwnV F w σ μ' S1 (a.eval z) y := by
            rcases hval with ⟨rfl, h⟩ | ⟨t, rfl, h⟩
            · exact ⟨none', fun _ h => h.elim, h⟩
            · exact ⟨S t, fun b hb => ⟨t, by simp, hb⟩, h⟩
          obtain ⟨S1, k1, k2⟩ := hown
          obtain ⟨hnr, _⟩ := nodup_cons hn
          have hdis : ∀ k, S1 k → ¬ S l.r k := by
            intro k hk hr
            obtain ⟨t, ht, hk⟩ := k1 k hk
            exact hi.sd t l.r (fun e => hnr (e ▸ ht)) k hk hr
          obtain ⟨w', g1, g2⟩ := store_core hC hi hT' hA.root f.toPlug ⟨row, T0, q3, q4⟩ k2 hn (fun k hk => ⟨fun h => hdis k hk (hA.root.sub k h.1), fun h => hdis k hk (hA.root.isB h), .inr (k1 k hk), fun e => hdis k hk (e ▸ hbS)⟩) hset hm hA.get hA.mode hA.inr
          exact goal w' g1 g2
        | true =>
          obtain ⟨pp, e, me, xs, he, h1, h2, h3, h4⟩ := valS_pend hvs
          have hpp : pp = l.p := by
            have := hc
            unfold pendC at this
            rw [he] at this; exact this
          subst hpp
          subst h2; subst h3
          obtain ⟨τ, m, z0, pl2, S02, cs3, y2, pl3, S3, Sp, g1, g2, g3, g4, g5, g6, g7, g8⟩ := pend_ok hi hz he
          obtain ⟨e1, e2, e3, e4⟩ := g1.uniq hA.root
          injection e1 with e5 e6
          subst e5; cases e6; subst e2; subst e3; subst e4
          injection h4 with h5 h6
          subst h5; cases h6; subst h1
          have hpl : pl3 = .mem b off := by
            have := g2.loc.symm.trans hA.loc
            simp only [Option.some.injEq, Prod.mk.injEq, true_and] at this
            exact this
          subst hpl
          obtain ⟨w', k1, k2⟩ := store_core hC hi hT' g1 g2 ⟨row, T0, q3, q4⟩ g6 hn (fun k hk => ⟨(g8 k hk).1, (g8 k hk).2, .inl (g7 k hk), fun e => by
            subst e
            have h1 := g2.out k rfl
            rcases g2.blk k rfl with h | h
            · exact (g8 k hk).1 ⟨h, h1⟩
            · exact (g8 k hk).2 h⟩) hset hm hA.get hA.mode hA.inr
          exact goal w' k1 k2
      · cases h
    · cases h
  · cases h

theorem pureStp_ok (hC : CtxOK P C) (hi : Inv0 P C.np w0 F0 H env a w F S) {o : Oper} {c : Prop} {st' : St} (h : pureStp C env o = some (c, st')) (hc : c) {K : Act → World → Prop} {Q : Exit → Act → World → Prop}
    (hK : ∀ a' w', Inv P C.np w0 F0 H st' a' w' → K a' w') : o.wp P a w K Q := by
  unfold pureStp at h
  split at h
  · rename_i d c' e l hd ho
    simp only [Option.some.injEq, Prod.mk.injEq] at h
    obtain ⟨rfl, rfl⟩ := h
    have hv : VOK P F w env a S o.op (viewO env) := by
      unfold VOK
      split
      · exact ⟨viewO_ok hi _, fun _ _ _ => viewO_ok hi _, fun _ _ _ => viewO_ok hi _⟩
      · exact fun z _ => viewO_ok hi z
    obtain ⟨d', h1, _, h2⟩ := opE_ok hC hi hv ho hc
    rw [hd] at h1; injection h1 with h1; subst h1
    exact h2 K Q (fun v w' F2 S2 h => hK _ _ ⟨F2, S2, h⟩)
  · cases h

theorem appC_ok (hC : CtxOK P C) (hi : Inv0 P C.np w0 F0 H env a w F S) {o : Oper} {q : Call} (ho : o.op = .call q) {c : Prop} {st' : St} (h : appC C env o q = some (c, st')) (hc : c) {K : Act → World → Prop} {Q : Exit → Act → World → Prop}
    (hK : ∀ a' w', Inv P C.np w0 F0 H st' a' w' → K a' w') : o.wp P a w K Q := by
  obtain ⟨callee, args, ts⟩ := q
  unfold appC at h
  split at h
  · rename_i x y T T2 d hcal hargs hts hd
    simp only [] at hcal hargs hts
    cases hb : wrB C d
    · rw [hb] at h; cases h
    rw [hb] at h
    simp only [cond_true] at h
    have e1 : args = #[x, y] := by apply Array.ext'; simpa using hargs
    have e2 : ts = #[T, T2] := by apply Array.ext'; simpa using hts
    subst e1; subst e2; subst hcal
    have hx := viewO_ok hi x
    have hy := viewO_ok hi y
    unfold appE at h
    split at h
    · rename_i e e2 r p al hT hT2 he hs
      obtain ⟨σ, z, μ, pl, S0, cs, pl', cs', hA, hrd, hv⟩ := sub?_ok hi hx hs
      split at h
      · rename_i e' xs' me hg hm
        split at h
        · rename_i xs ys l hcast hsrc
          cases hn : (nodupN (al.r :: l) && !Nat.beq d al.r)
          · rw [hn] at h; cases h
          rw [hn] at h
          simp only [cond_true, Option.some.injEq, Prod.mk.injEq] at h
          obtain ⟨rfl, rfl⟩ := h
          simp only [Bool.and_eq_true, Bool.not_eq_true'] at hn
          have hdr : d ≠ al.r := fun h => by rw [nbeq_iff.2 h] at hn; exact absurd hn.2 (by simp)
          obtain ⟨rfl, rfl⟩ := castD_slice hcast
          have e3 := hA.get.symm.trans hg
          simp only [Option.some.injEq, Sigma.mk.injEq] at e3
          obtain ⟨rfl, e3⟩ := e3; cases e3
          have e4 := hA.mode.symm.trans hm
          simp only [Option.some.injEq] at e4; subst e4
          obtain ⟨ao2, n2, cap2, cs2, Si2, me', q2, hm2⟩ := srcE_ok hi hy hsrc
          obtain ⟨v, w', F2, S2, k1, k2⟩ := appE_core (ty := o.type) hC hi (wrB_iff hb) hT hT2 hA hrd (q2.fix hm2) hn.1 hdr (by simpa using hc)
          unfold Oper.wp
          have hrun : (execOp a.eval o).run P w = .ok (.value v) w' := by
            simp only [execOp, ho, resolve, invoke, builtin, Sem.run_bind, Sem.run_pure, Result.andThen, List.map_toArray, List.map_cons, List.map_nil]
            rw [hv, k1]
          rw [hrun, Oper.upon_value, hd]
          exact hK _ _ ⟨F2, S2, k2⟩
        · cases h
      · cases h
    · cases h
  · cases h

theorem mvT_ok (hi : Inv0 P C.np w0 F0 H env a w F S) {o : Oper} {x : Operand} (ho : o.op = .move x) {c : Prop} {env' : St} (h : mvT C env o x = some (c, env')) {K : Act → World → Prop} {Q : Exit → Act → World → Prop}
    (hK : ∀ a' w', Inv P C.np w0 F0 H env' a' w' → K a' w') : o.wp P a w K Q := by
  unfold mvT at h
  split at h
  · rename_i t d hd
    split at h
    · rename_i τ m y he
      cases hb : wrB C d
      · rw [hb] at h; cases h
      rw [hb] at h
      simp only [cond_true, Option.some.injEq, Prod.mk.injEq] at h
      obtain ⟨_, rfl⟩ := h
      have h1 := hi.ent t
      rw [he] at h1
      obtain ⟨vs, h2, h3⟩ := h1
      have hd' := wrB_iff hb
      have hVd : (a.put (some d) (a.eval (.tmp t))).tmps.getD d undef = a.eval (.tmp t) := by rw [Act.getD_put (by rw [hi.slots.size]; exact hd'.1), if_pos rfl]
      unfold Oper.wp
      have hrun : (execOp a.eval o).run P w = .ok (.value (a.eval (.tmp t))) w := by simp [execOp, ho]
      rw [hrun, Oper.upon_value, hd]
      refine hK _ _ ⟨F, _, (hi.drop t).put (Sd := S t) hd' (RowKit.Below.refl _ _) (fun _ h => h) hi.fb (fun b h1 h2 => absurd h1 h2) ?_ ?_⟩
      · intro b hb
        obtain ⟨g1, g2, g3⟩ := hi.sb t b hb
        refine ⟨g1, g2, g3, fun u _ hu => ?_⟩
        by_cases h : u = t
        · simp [h] at hu; exact hu
        · simp only [h, if_false] at hu
          exact hi.sd u t h b hu hb
      · simp only [EntOK, if_true, hVd]
        exact ⟨vs, h2, h3⟩
    · cases h
  · cases h

theorem stp_ok (hC : CtxOK P C) : StpOK P C (stp C) := by
  intro w0 F0 H env env' a w o c hi h hc K Q hK
  obtain ⟨F, S, hi⟩ := hi
  unfold stp at h
  split at h
  · rename_i x hop
    split at h
    · rename_i r hr
      simp only [Option.some.injEq] at h
      subst h
      exact mvT_ok hi hop hr hK
    · exact pureStp_ok hC hi h hc hK
  · rename_i T x v hop
    cases hd : isNone o.dst
    · rw [hd] at h; cases h
    · rw [hd] at h
      exact storeE_ok hC hi hop (isNone_iff.1 hd) (viewO_ok hi x) (viewO_ok hi v) h hc hK
  · rename_i x hop
    split at h
    · rename_i d hd
      split at h
      · rename_i r hr
        cases hb : wrB C d
        · rw [hb] at hr; cases hr
        · rw [hb] at hr
          simp only [cond_true] at hr
          simp only [Option.some.injEq] at h
          subst h
          have := ownA_ok hi (wrB_iff hb) (viewO_ok hi x) hr
          unfold Oper.wp
          have hrun : (execOp a.eval o).run P w = .ok (.value (a.eval x)) w := by simp [execOp, hop]
          rw [hrun, Oper.upon_value, hd]
          exact hK _ _ this
      · exact pureStp_ok hC hi h hc hK
    · cases h
  · simp only [Option.some.injEq, Prod.mk.injEq] at h
    obtain ⟨rfl, _⟩ := h
    exact hc.elim
  · rename_i q hop
    split at h
    · rename_i r hr
      simp only [Option.some.injEq] at h
      subst h
      exact appC_ok hC hi hop hr hc hK
    · exact pureStp_ok hC hi h hc hK
  · exact pureStp_ok hC hi h hc hK
end
end Go.Lf
namespace Go.Lf
open Go.ChangeShapes Go.WideShapes Go.ChangeAt Go.RowKit

section
variable {P : Program} {H : Type} {enc : TypeId × Value → H}

/-- A slice of integers that came in. -/
theorem argOK_ints {W : World} {base : Nat} {t e : TypeId} {k : IntKind} {v : Value} {d : DataW H} {p : List MemPlace} (ht : P.underlying t = some (.slice e)) (he : P.underlying e = some (.int k)) (hc : P.cellsOf e = 1)
    (hval : Value.okWide P W .any base t v) (h : DataW.Trod enc P W 0 (fun _ => true) true t v d p) (hlt : ∀ x ∈ p, x.block < W.heap.size) (hsz : ∀ xs ys, d = .slice xs ys → xs.length ≤ lim) :
    ∃ xs : List Int, OwnV (fun b => b < W.heap.size) W (.slice (.int k)) .shr none' v xs := by
  obtain ⟨a1, len, cap, rfl⟩ := okWide_slice ht hval
  obtain ⟨fuel, hf⟩ := h
  rcases open_ints ht he hc hf with ⟨hcs, hx⟩ | ⟨a, len', cap', zs, hcs, _, hl, hm, hz, hx, hcell, hwz⟩
  · simp [Value.cells] at hcs
    obtain ⟨rfl, rfl, rfl⟩ := hcs
    exact ⟨[], [.slice none 0 0], rfl, none, 0, rfl, Nat.le_refl _, Nat.zero_le _, .inl rfl⟩
  · simp [Value.cells] at hcs
    obtain ⟨rfl, rfl, rfl⟩ := hcs
    simp only [Prod.mk.injEq] at hx
    obtain ⟨rfl, rfl⟩ := hx
    simp only [if_true] at hz
    have hlim : len ≤ lim := by
      have := hsz _ _ rfl
      simp only [lits, List.length_map, List.length_take] at this
      omega
    by_cases hl0 : len = 0
    · subst hl0
      exact ⟨[], [.slice (some a) 0 cap], rfl, some a, cap, rfl, by simp, by simp, .inl rfl⟩
    · obtain ⟨b, off, spot⟩ := a
      have hspot : spot = none := by simpa [Addr.add] using World.cell?_spot (hcell 0 (by omega))
      subst hspot
      have h0 := hcell 0 (by omega)
      rw [add_mk] at h0
      simp only [World.cell?] at h0
      have hb : b < W.heap.size := hlt (.cell b off) (MemPlace.mem_row.2 ⟨0, by omega, by simp⟩)
      have hlen : (zs.take len).length = len := by simp; omega
      split at h0
      · rename_i row T fr hr
        have hc : ∀ i, i < zs.length → row[off + i]? = some (.int k (zs.getD i 0)) := by
          intro i hi
          have := hcell i hi
          rw [add_mk] at this
          simpa [World.cell?, hr] using this
        refine ⟨zs.take len, [.slice (some ⟨b, off, none⟩) len cap], rfl, some ⟨b, off, none⟩, cap, by rw [hlen], by rw [hlen]; exact hl, by rw [hlen]; exact hlim, .inr ⟨b, off, row, T, fr, rfl, hb, hr, ?_, ?_⟩⟩
        · have := hc (len - 1) (by omega)
          have h1 : off + (len - 1) < row.size := by
            rcases Nat.lt_or_ge (off + (len - 1)) row.size with h | h
            · exact h
            · rw [Array.getElem?_eq_none h] at this; cases this
          rw [hlen]
          simp only [Ty.size, Nat.mul_one]
          omega
        · intro i x hx
          have hi : i < len := by
            rcases Nat.lt_or_ge i len with h | h
            · exact h
            · rw [List.getElem?_eq_none (by omega)] at hx; cases hx
          have hci := hc i (by omega)
          have hxz : zs.getD i 0 = x := by
            rw [List.getElem?_take, if_pos hi] at hx
            simp [hx]
          have hmem : x ∈ zs := by
            rw [List.getElem?_take, if_pos hi] at hx
            exact List.mem_of_getElem? hx
          have hw := hwz x hmem
          simp only [Lit.wf, Bool.and_eq_true, decide_eq_true_eq] at hw
          refine ⟨?_, hw.1, hw.2⟩
          rw [hxz] at hci
          simp only [Ty.size, Nat.mul_one]
          have : row.toList[off + i]? = some (.int k x) := by simpa using hci
          unfold seg
          rw [List.drop_eq_getElem_cons (by
            rcases Nat.lt_or_ge (off + i) row.toList.length with h | h
            · exact h
            · rw [List.getElem?_eq_none h] at this; cases this)]
          rw [List.take_one]
          simp only [List.head?_cons, Option.toList_some]
          congr 1
          have h2 := List.getElem?_eq_some_iff.1 this
          exact h2.2
      · cases h0
end
def leaves : Ty → List Ty
  | .int k => [.int k]
  | .bool => [.bool]
  | .str => [.str]
  | .unit => []
  | .prod a b => leaves a ++ leaves b
  | .slice e => [.slice e]
  | .abs k => [.abs k]
  | .arr n e => (List.replicate n (leaves e)).flatten
def LeafOK : Ty → Value → Prop
  | .int k, v => ∃ n, v = .int k n ∧ k.min ≤ n ∧ n ≤ k.max
  | .bool, v => ∃ b, v = .bool b
  | _, _ => False
def Lv : List Ty → List Value → Prop
  | [], [] => True
  | l :: ls, v :: vs => LeafOK l v ∧ Lv ls vs
  | _, _ => False
theorem Lv.split : ∀ {a b : List Ty} {cs : List Value}, Lv (a ++ b) cs → ∃ c1 c2, cs = c1 ++ c2 ∧ Lv a c1 ∧ Lv b c2
  | [], b, cs, h => ⟨[], cs, rfl, trivial, h⟩
  | l :: a, b, [], h => by simp [Lv] at h
  | l :: a, b, v :: cs, h => by
    obtain ⟨c1, c2, rfl, h1, h2⟩ := Lv.split (a := a) h.2
    exact ⟨v :: c1, c2, rfl, ⟨h.1, h1⟩, h2⟩
section
variable {F : NSet} {w : World}
end
end Go.Lf
namespace Go.Lf

/-- The slot that points at the chosen block, if there is one. -/
def pinB (C : Ctx) (r : Nat) : Bool := match C.pin with
  | some t => Nat.beq t r
  | none => true
def mkP (C : Ctx) (d : Nat) (s : PSpec) (z : s.res.den) : Ent := bif s.multi then .dead else mkE C d s.res s.rm z

/-- Pointers to the whole variable stay. -/
def restS (st : St) (r d : Nat) (st' : St) : St := bif Nat.beq d r then st' else fun t => match st t with
  | .addr r' [] => bif Nat.beq r' r && !Nat.beq t d && !Nat.beq t r then .addr r' [] else st' t
  | _ => st' t

/-- A call of such a method on a variable. -/
def ptrE (C : Ctx) (d : Nat) (st : St) (s : PSpec) (v : View) (vs : List View) : Option (Prop × St) :=
  match v.addr? with
  | some l => match l.p with
    | [] => bif pinB C l.r && (s.τ.flat || decide (l.m = s.m)) then (match castD (τ := l.τ) (σ := s.τ) l.x, argsE s.args vs with
      | some x, some (y, true) => match castD (τ := s.τ) (σ := l.τ) (s.fn x y) with
        | some x' => some (s.pre x y, restS st l.r d (put (upd (kill st l.r) l.r (reown (st l.r) l.τ l.m x')) d (mkP C d s (s.out x y))))
        | none => none
      | _, _ => none) else none
    | _ => none
  | none => none

def ptrC (C : Ctx) (st : St) (o : Oper) (q : Call) : Option (Prop × St) :=
  match q.callee, q.args.toList, o.dst with
  | .value (.func f), z :: zs, some d => match look C.ptrs f with
    | some s => bif wrB C d then ptrE C d st s (viewO st z) (zs.map (viewO st)) else none
    | none => none
  | _, _, _ => none

/-- A call of a function that captures the pointer to the chosen block. -/
def thkC (C : Ctx) (st : St) (o : Oper) (q : Call) : Option (Prop × St) :=
  match q.callee, q.args.toList, o.dst, C.thk, C.pin with
  | .value (.tmp t), [], some d, some ts, some s => bif wrB C d then (match st t, st s with
    | .shr (.abs .thk) z, .box τ m x => bif decide (m = ts.m) then (match castD (τ := τ) (σ := ts.τ) x with
      | some x1 => match castD (τ := ts.τ) (σ := τ) (ts.fn (Option.getD z (0, 0, [])).2 x1) with
        | some x' => some (Option.isSome z = true ∧ (Option.getD z (0, 0, [])).1 = C.q ∧ ts.pre (Option.getD z (0, 0, [])).2 x1, restS st s d (put (upd (kill st s) s (reown (st s) τ m x')) d .dead))
        | none => none
      | none => none) else none
    | _, _ => none) else none
  | _, _, _, _, _ => none

/-- Variables that a function value captures are not written any more. -/
def frz1 (st : St) : Operand → St
  | .tmp t => match st t with
    | .box τ _ x => upd (kill st t) t (.saddr τ x)
    | _ => st
  | _ => st
def frzL (st : St) : List Operand → St
  | [] => st
  | z :: l => frzL (frz1 st z) l

/-- All of a region's tail. -/
def stpP (C : Ctx) (st : St) (o : Oper) : Option (Prop × St) :=
  match o.op with
  | .call q => match ptrC C st o q with
    | some r => some r
    | none => match thkC C st o q with
      | some r => some r
      | none => stp C st o
  | .makeFunc _ _ caps => pureStp C (frzL st caps.toList) o
  | _ => stp C st o

section
variable {P : Program} {C : Ctx} {N : NP} {w0 : World} {F0 H : NSet} {env : St} {a : Act} {w : World} {F : NSet} {S : Nat → NSet} {d : Nat}

theorem PlOk.any {G S' G' S'' : NSet} {w : World} {b n : Nat} {cs : List Value} (h : PlOk G S' w (.mem b 0) n cs) (h1 : ¬ S'' b) (h2 : ¬ G' b) : PlOk G' S'' w (.mem b 0) n cs :=
  ⟨h1, h2, h.2.2⟩

/-- An owner's memory changes; what was its may have become shared. -/
theorem Inv0.setRootF (hi : Inv0 P N w0 F0 H env a w F S) {r : Nat} (hr : (env r).isOwner = true) {w' : World} {F' Sr : NSet} {E : Ent} (hE : E.isOwner = true)
    (h1 : w'.os = w.os) (h2 : w'.tape = w.tape) (h3 : w'.output = w.output) (h4 : w.heap.size ≤ w'.heap.size) (h6 : ∀ k, k < w0.heap.size → ¬ H k → w'.heap[k]? = w.heap[k]?)
    (hFF : Sub F F') (hFb : ∀ b, F' b → b < w'.heap.size) (hFn : ∀ b, F' b → ¬ F b → (w0.heap.size ≤ b ∨ H b) ∧ ∀ t, t ≠ r → ¬ S t b)
    (h5 : ∀ b, F b ∨ (∃ t, t ≠ r ∧ S t b) → w'.heap[b]? = w.heap[b]?) (hS : ∀ b, Sr b → (w0.heap.size ≤ b ∨ H b) ∧ b < w'.heap.size ∧ ¬ F' b ∧ ∀ t, t ≠ r → ¬ S t b)
    (he : EntOK P F' w' (upd (kill env r) r E) (fun t => a.tmps.getD t undef) (fun t => if t = r then Sr else S t) r E) :
    Inv0 P N w0 F0 H (upd (kill env r) r E) a w' F' (fun t => if t = r then Sr else S t) := by
  refine ⟨h1.trans hi.os, h2.trans hi.tape, h3.trans hi.output, Nat.le_trans hi.size h4, fun k hk hH => (h6 k hk hH).trans (hi.block k hk hH), hFb, fun b hb => hFF b (hi.f0 b hb), ?_, ?_, ?_, ?_, hi.defers, hi.slots⟩
  · intro b hb h0
    by_cases hF : F b
    · exact hi.fn b hF h0
    · exact (hFn b hb hF).1
  · intro t b ht
    by_cases h : t = r
    · simp only [h, if_true] at ht
      exact ⟨(hS b ht).1, (hS b ht).2.1, (hS b ht).2.2.1⟩
    · simp only [h, if_false] at ht
      obtain ⟨g1, g2, g3⟩ := hi.sb t b ht
      exact ⟨g1, Nat.lt_of_lt_of_le g2 h4, fun hF => (hFn b hF g3).2 t h ht⟩
  · intro t u htu b hb1 hb2
    by_cases h : t = r
    · simp only [h, if_true] at hb1
      by_cases h' : u = r
      · exact htu (h.trans h'.symm)
      · simp only [h', if_false] at hb2
        exact (hS b hb1).2.2.2 u h' hb2
    · simp only [h, if_false] at hb1
      by_cases h' : u = r
      · simp only [h', if_true] at hb2
        exact (hS b hb2).2.2.2 t h hb1
      · simp only [h', if_false] at hb2
        exact hi.sd t u htu b hb1 hb2
  · intro t
    by_cases h : t = r
    · subst h
      rw [upd_same]; exact he
    · rw [upd_ne _ _ h]
      rcases kill_cases env r t with h' | ⟨h', hne⟩
      · rw [h']; trivial
      · rw [h']
        refine EntOK.keep hFF (fun b hb => h5 b (.inl hb)) rfl ?_ ?_ (hi.ent t)
        · intro q hq
          have hqr : q ≠ r := fun e => hne (e ▸ hq)
          refine ⟨fun ho => ?_, fun _ => rfl, by simp [hqr], fun b hb => h5 b (.inr ⟨q, hqr, hb⟩), fun b h1 h2 => (hFn b h1 h2).2 q hqr, fun b hb => (hi.sb q b hb).2.2⟩
          rw [upd_ne _ _ hqr]; unfold kill killE; rw [Ent.owner_root ho]
        · intro _
          exact ⟨by simp [h], fun b hb => h5 b (.inr ⟨t, h, hb⟩), fun b h1 h2 => (hFn b h1 h2).2 t h⟩

theorem RetV.dead {F' : NSet} {w' : World} {τ : Ty} {m : Md} {S' : NSet} {v : Value} {x : τ.den} (h : RetV F' w' true τ m S' v x) : True := trivial

/-- What is behind a call of a method on the variable r: by what the method says. -/
theorem Inv0.putPtr (hi : Inv0 P N w0 F0 H env a w F S) (hd : Wr N d) {s : PSpec} {r b : Nat} {lm : Md} {x : s.τ.den} {y : kdens s.args} {S0 : NSet}
    (hbox : env r = .box s.τ lm x) (hval : a.tmps.getD r undef = .pointer (some ⟨b, 0, none⟩)) (hS0 : S0 = fun k => S r k ∧ k ≠ b) (hsb : S r b)
    (hm : s.τ.flat = true ∨ lm = s.m) {e : Ending} {w' : World} (hp : PPost F S0 w b s x y e w') :
    ∃ v F2 S2, e = .returned v ∧ Inv0 P N w0 F0 H (Go.Lf.put (upd (kill env r) r (reown (env r) s.τ lm (s.fn x y))) d (mkP C d s (s.out x y))) (a.put (some d) v) w' F2 S2 := by
  obtain ⟨v, F', S', Sr, cs', q0, q1, q2, q3, q4, q5, q6, q7, q8, q9, q10, q11, q12, q13⟩ := hp
  have hb := hi.sb r b hsb
  have hsub : ∀ k, S0 k → S r k := by rw [hS0]; exact fun k hk => hk.1
  have hnb : ∀ k, S r k → ¬ S0 k → k = b := by
    intro k h1 h2
    rw [hS0] at h2
    by_cases hk : k = b
    · exact hk
    · exact absurd ⟨h1, hk⟩ h2
  have h1 : ∀ k, (w.heap.size ≤ k ∨ S0 k) → (w0.heap.size ≤ k ∨ H k) ∧ ∀ t, t ≠ r → ¬ S t k := by
    rintro k (hk | hk)
    · exact ⟨.inl (Nat.le_trans hi.size hk), fun t _ ht => by have := (hi.sb t k ht).2.1; omega⟩
    · exact ⟨(hi.sb r k (hsub k hk)).1, fun t ht h => hi.sd t r ht k h (hsub k hk)⟩
  have hb' : ¬ F' b := q11.2.1
  have hset : Inv0 P N w0 F0 H (upd (kill env r) r (reown (env r) s.τ lm (s.fn x y))) a w' F' (fun t => if t = r then (fun k => S' k ∨ k = b) else S t) := by
    refine hi.setRootF (by rw [hbox]; rfl) (by rw [hbox]; rfl) q1 q2 q3 q4 ?_ q6 (fun k hk => q8 k (.inl hk)) ?_ ?_ ?_ ?_
    · intro k hk hH
      refine q5 k (Nat.lt_of_lt_of_le hk hi.size) ?_ ?_
      · rintro rfl
        rcases hb.1 with h | h
        · omega
        · exact hH h
      · intro h
        rcases (hi.sb r k (hsub k h)).1 with h | h
        · omega
        · exact hH h
    · intro k hk hF
      exact h1 k (q7 k hk hF)
    · rintro k (hk | ⟨t, g1, g2⟩)
      · exact q5 k (hi.fb k hk) (fun e => hb.2.2 (e ▸ hk)) (fun h => (hi.sb r k (hsub k h)).2.2 hk)
      · exact q5 k (hi.sb t k g2).2.1 (fun e => hi.sd t r g1 k g2 (e ▸ hsb)) (fun h => hi.sd t r g1 k g2 (hsub k h))
    · rintro k (hk | rfl)
      · obtain ⟨g1, g2⟩ := q9 k hk
        exact ⟨(h1 k g1).1, q8 k (.inr (.inl hk)), g2, (h1 k g1).2⟩
      · exact ⟨hb.1, Nat.lt_of_lt_of_le hb.2.1 q4, hb', fun t ht h => hi.sd t r ht k h hsb⟩
    · rw [hbox]
      have hSb : ¬ S' b := q11.1
      refine ⟨.mem b 0, S', cs', .inr ⟨rfl, b, rfl, ?_, hval, ?_⟩, q11, ?_⟩
      · simp only [if_true]
        funext k
        by_cases hk : k = b
        · subst hk; simp [hSb]
        · simp [hk]
      · simp
      · rcases hm with hm | hm
        · exact q12.flat hm
        · rw [hm]; exact q12
  unfold mkP
  cases hmu : s.multi
  · rw [hmu] at q13
    have q13 : OwnV F' w' s.res s.rm Sr v (s.out x y) := q13
    have hSr : ∀ k, Sr k → (w0.heap.size ≤ k ∨ H k) ∧ k < w'.heap.size ∧ ¬ F' k ∧ ∀ t, ¬ (if t = r then (fun k => S' k ∨ k = b) else S t) k := by
      intro k hk
      obtain ⟨g1, g2, g3, g4⟩ := q10 k hk
      refine ⟨(h1 k g1).1, q8 k (.inr (.inr hk)), g2, fun t ht => ?_⟩
      split at ht
      · rcases ht with h | h
        · exact g3 h
        · exact g4 h
      · rename_i hne
        exact (h1 k g1).2 t hne ht
    obtain ⟨F2, S2, hh⟩ := hset.putNew (C := C) (d := d) hd (RowKit.Below.refl _ _) (fun _ h => h) (fun k hk => q8 k (.inl hk)) (fun k g1 g2 => absurd g1 g2) hSr q13
    exact ⟨v, F2, S2, q0, hh⟩
  · exact ⟨v, _, _, q0, hset.putSimple hd rfl (by simp [Ent.root]) trivial⟩

theorem kill_addr {st : St} {r t : Nat} {p : Path} (h : st t = .addr r p) : kill st r t = .dead := by
  unfold kill killE
  rw [h]
  simp [Ent.root]
theorem put_other {st : St} {d t : Nat} {e : Ent} (h : t ≠ d) : put st d e t = st t ∨ put st d e t = .dead := by
  unfold put
  cases (st d).isOwner
  · left; simp only [cond_false]; rw [upd_ne _ _ h]
  · simp only [cond_true]
    rw [upd_ne _ _ h]
    rcases kill_cases st d t with h' | ⟨h', _⟩
    · exact .inr h'
    · exact .inl h'
theorem Inv0.restore {a' : Act} {w' : World} {F2 : NSet} {S2 : Nat → NSet} {st : St} {r d b : Nat} (hi : Inv0 P N w0 F0 H env a w F S) (hst : env = st) {E : Ent} {e : Ent} (h' : Inv0 P N w0 F0 H (Go.Lf.put (upd (kill st r) r E) d e) a' w' F2 S2)
    {τ : Ty} {m : Md} {x : τ.den} (hr : st r = .box τ m x) (hv : a.tmps.getD r undef = .pointer (some ⟨b, 0, none⟩)) {τ2 : Ty} {m2 : Md} {x2 : τ2.den} (hE : E = .box τ2 m2 x2)
    (hsame : ∀ t, t ≠ d → a'.tmps.getD t undef = a.tmps.getD t undef) : Inv0 P N w0 F0 H (restS st r d (Go.Lf.put (upd (kill st r) r E) d e)) a' w' F2 S2 := by
  subst hst
  unfold restS
  cases hdr : Nat.beq d r
  · simp only [cond_false]
    have hdr : d ≠ r := fun e => by rw [nbeq_iff.2 e] at hdr; cases hdr
    have hpr : Go.Lf.put (upd (kill env r) r E) d e r = E ∨ Go.Lf.put (upd (kill env r) r E) d e r = .dead := by
      rcases put_other (st := upd (kill env r) r E) (e := e) (Ne.symm hdr) with h | h
      · left; rw [h, upd_same]
      · exact .inr h
    have hpr : Go.Lf.put (upd (kill env r) r E) d e r = E := by
      unfold Go.Lf.put
      cases (upd (kill env r) r E d).isOwner
      · simp only [cond_false]; rw [upd_ne _ _ (Ne.symm hdr), upd_same]
      · simp only [cond_true]
        rw [upd_ne _ _ (Ne.symm hdr)]
        unfold kill killE
        rw [upd_same, hE]
        rfl
    have key : ∀ t, env t = .addr r [] → t ≠ d → t ≠ r → a'.tmps.getD t undef = .pointer (some ⟨b, 0, none⟩) := by
      intro t ht htd htr
      rw [hsame t htd]
      have h1 := hi.ent t
      rw [ht] at h1
      obtain ⟨τ1, m1, x1, pl, S0, cs, σ, μ, b1, off, g1, g2, g3, _⟩ := h1
      rw [hr] at g1
      obtain ⟨_, _, b2, hpl, _, hv2, _⟩ := g1.box_inj
      subst hpl
      simp only [Go.Lf.loc, Option.some.injEq, Prod.mk.injEq, Place.mem.injEq] at g2
      obtain ⟨_, rfl, rfl⟩ := g2
      have hv2 : a.tmps.getD r undef = .pointer (some ⟨b2, 0, none⟩) := hv2
      rw [hv] at hv2
      injection hv2 with hv2; injection hv2 with hv2; injection hv2 with hv2
      rw [hv2]; exact g3
    have hroot := h'.ent r
    rw [hpr, hE] at hroot
    obtain ⟨plr, S0r, csr, hroot⟩ := hroot
    obtain ⟨_, _, br, hplr, hS0r, hvr, _⟩ := hroot.box_inj
    have hvr : a'.tmps.getD r undef = .pointer (some ⟨br, 0, none⟩) := hvr
    have hbr : br = b := by
      rw [hsame r (Ne.symm hdr), hv] at hvr
      injection hvr with hvr; injection hvr with hvr; injection hvr with hvr
      exact hvr.symm
    subst hbr
    refine { h' with ent := ?_ }
    intro t
    have hnew : ∀ q, (Go.Lf.put (upd (kill env r) r E) d e q).isOwner = true → (match env q with | .addr r' [] => bif Nat.beq r' r && !Nat.beq q d && !Nat.beq q r then Ent.addr r' [] else Go.Lf.put (upd (kill env r) r E) d e q | _ => Go.Lf.put (upd (kill env r) r E) d e q) = Go.Lf.put (upd (kill env r) r E) d e q := by
      intro q hq
      split
      · rename_i r' hq2
        cases hc : (Nat.beq r' r && !Nat.beq q d && !Nat.beq q r)
        · rfl
        · simp only [Bool.and_eq_true, Bool.not_eq_true'] at hc
          obtain ⟨⟨c1, c2⟩, c3⟩ := hc
          have c1 := nbeq_iff.1 c1
          subst c1
          have c2 : q ≠ d := fun e => by rw [nbeq_iff.2 e] at c2; cases c2
          have c3 : q ≠ r' := fun e => by rw [nbeq_iff.2 e] at c3; cases c3
          exfalso
          rcases put_other (st := upd (kill env r') r' E) (e := e) c2 with h | h
          · rw [h, upd_ne _ _ c3, kill_addr hq2] at hq; cases hq
          · rw [h] at hq; cases hq
      · rfl
    have keep : EntOK P F2 w' (fun q => match env q with | .addr r' [] => bif Nat.beq r' r && !Nat.beq q d && !Nat.beq q r then Ent.addr r' [] else Go.Lf.put (upd (kill env r) r E) d e q | _ => Go.Lf.put (upd (kill env r) r E) d e q) (fun t => a'.tmps.getD t undef) S2 t (Go.Lf.put (upd (kill env r) r E) d e t) := by
      refine EntOK.keep (fun _ h => h) (fun _ _ => rfl) rfl ?_ (fun _ => ⟨rfl, fun _ _ => rfl, fun b h1 h2 => absurd h1 h2⟩) (h'.ent t)
      intro q hq
      exact ⟨fun ho => hnew q ho, fun _ => rfl, rfl, fun _ _ => rfl, fun b h1 h2 => absurd h1 h2, fun b hb => (h'.sb q b hb).2.2⟩
    show EntOK _ _ _ _ _ _ t (match env t with | .addr r' [] => bif Nat.beq r' r && !Nat.beq t d && !Nat.beq t r then Ent.addr r' [] else Go.Lf.put (upd (kill env r) r E) d e t | _ => Go.Lf.put (upd (kill env r) r E) d e t)
    split
    · rename_i r' ht
      cases hc : (Nat.beq r' r && !Nat.beq t d && !Nat.beq t r)
      · exact keep
      · simp only [Bool.and_eq_true, Bool.not_eq_true'] at hc
        obtain ⟨⟨c1, c2⟩, c3⟩ := hc
        have c1 := nbeq_iff.1 c1
        subst c1
        have c2 : t ≠ d := fun e => by rw [nbeq_iff.2 e] at c2; cases c2
        have c3 : t ≠ r' := fun e => by rw [nbeq_iff.2 e] at c3; cases c3
        simp only [cond_true, EntOK]
        rw [hnew r' (by rw [hpr, hE]; rfl), hpr, hE]
        refine ⟨τ2, m2, x2, plr, S0r, csr, τ2, m2, br, 0, hroot, ?_, key t ht c2 c3, rfl, rfl, trivial⟩
        rw [hplr]; rfl
    · exact keep
  · exact h'

theorem ptrE_ok (hC : CtxOK P C) (hi : Inv0 P C.np w0 F0 H env a w F S) (hd : Wr C.np d) {f : FuncId} {s : PSpec} (hs : look C.ptrs f = some s) {z : Operand} {zs : List Operand} {args : Array Operand} (hargs : args.toList = z :: zs) {ts : Array TypeId} {o : Oper}
    (ho : o.op = .call { callee := .value (.func f), args, argTypes := ts }) (hod : o.dst = some d)
    {c : Prop} {env' : St} (h : ptrE C d env s (viewO env z) (zs.map (viewO env)) = some (c, env')) (hc : c) {K : Act → World → Prop} {Q : Exit → Act → World → Prop} (hK : ∀ a' w', Inv P C.np w0 F0 H env' a' w' → K a' w') : o.wp P a w K Q := by
  have hv := viewO_ok hi z
  unfold ptrE at h
  split at h
  · rename_i l hl
    split at h
    · rename_i hp
      cases hf : (pinB C l.r && (s.τ.flat || decide (l.m = s.m)))
      · rw [hf] at h; cases h
      rw [hf] at h
      simp only [cond_true] at h
      simp only [Bool.and_eq_true, Bool.or_eq_true, decide_eq_true_eq] at hf
      obtain ⟨hpin, hf⟩ := hf
      split at h
      · rename_i x y hx hy
        have := castD_some hx
        obtain ⟨σ, y0, μ, pl, S0, cs, b, off, hA, hval⟩ := addr?_ok hi hv hl
        obtain ⟨lr, lp, lτ, lm, lx⟩ := l
        simp only at hp hx this h hf hpin
        subst hp
        injection this with e1 e2
        subst e1; cases e2
        split at h
        · rename_i y' hy'
          have hy' := castD_some hy'
          injection hy' with _ e3
          cases e3
          simp only [Option.some.injEq, Prod.mk.injEq] at h
          obtain ⟨rfl, rfl⟩ := h
          have hroot := hA.root
          have hloc := hA.loc
          simp only [Go.Lf.loc, Option.some.injEq, Prod.mk.injEq] at hloc
          obtain ⟨rfl, hpl⟩ := hloc
          subst hpl
          simp only at hroot
          have hsb : S lr b := hroot.isB rfl
          obtain ⟨hbox, hS0, hvr⟩ : env lr = .box s.τ lm x ∧ S0 = (fun k => S lr k ∧ k ≠ b) ∧ off = 0 ∧ a.tmps.getD lr undef = .pointer (some ⟨b, 0, none⟩) := by
            rcases hroot.1 with ⟨_, h, _⟩ | ⟨h, b', h2, h3, h4, _⟩
            · cases h
            · injection h2 with h2 h5
              subst h2
              exact ⟨h, h3, h5, h4⟩
          obtain ⟨rfl, hvr⟩ := hvr
          have hb := hi.sb lr b hsb
          have hsh : ArgsOK P F w s.args (zs.map a.eval) y := argsE_ok hi (VsOK_map (f := viewO env) (fun z' _ => viewO_ok hi z')) hy
          obtain ⟨on, ⟨k1, k2⟩, k3⟩ := hC.ptrs f s hs
          have hone : ∀ q, on = some q → b = q := by
            intro q hq
            obtain ⟨g1, g2⟩ := k3 q hq
            subst g2
            obtain ⟨t, ht⟩ := Option.isSome_iff_exists.1 g1
            unfold pinB at hpin
            rw [ht] at hpin
            have := nbeq_iff.1 hpin
            subst this
            have h4 := hi.slots.pin t ht
            rw [hvr] at h4
            injection h4 with h4; injection h4 with h4; injection h4
          have hown : Own F w s.τ s.m S0 cs x := by
            rcases hf with hf | hf
            · exact hroot.2.2.flat hf
            · rw [← hf]; exact hroot.2.2
          have hcall := k2 w F S0 b cs x _ y hone hb.2.1 hi.fb (fun k hk => by
            rw [hS0] at hk
            exact ⟨(hi.sb lr k hk.1).2.1, (hi.sb lr k hk.1).2.2⟩) hroot.2.1 hown hsh hc
          have hrun : (execOp a.eval o).run P w = .ok (.enter f (.pointer (some ⟨b, 0, none⟩) :: zs.map a.eval).toArray) w := by
            simp only [execOp, ho, resolve, Sem.run_bind, Act.eval, Deferred.ofValue, Sem.run_pure, Result.andThen, invoke]
            have := k1 ((.pointer (some ⟨b, 0, none⟩) :: zs.map a.eval).toArray) w
            rw [← this]
            congr 1
            congr 1
            apply Array.ext'
            simp [hargs, ← hval]
          unfold Oper.wp
          rw [hrun, Oper.upon_enter]
          refine hcall.mono ?_
          intro e w' hpost
          obtain ⟨v, F2, S2, rfl, hh⟩ := hi.putPtr (C := C) hd hbox hvr hS0 hsb hf hpost
          rw [hod]
          exact hK _ _ ⟨F2, S2, hi.restore rfl hh hbox hvr (by rw [hbox]; rfl) (fun t ht => by rw [Act.getD_put (by rw [hi.slots.size]; exact hd.1), if_neg ht])⟩
        · cases h
      · cases h
    · cases h
  · cases h

theorem thkC_ok (hC : CtxOK P C) (hi : Inv0 P C.np w0 F0 H env a w F S) {q : Call} {o : Oper} (ho : o.op = .call q) {c : Prop} {env' : St} (h : thkC C env o q = some (c, env')) (hc : c) {K : Act → World → Prop} {Q : Exit → Act → World → Prop}
    (hK : ∀ a' w', Inv P C.np w0 F0 H env' a' w' → K a' w') : o.wp P a w K Q := by
  obtain ⟨callee, args, tys⟩ := q
  unfold thkC at h
  simp only at h
  split at h
  · rename_i t d ts s h2 h3 h4 h5
    cases hb : wrB C d
    · rw [hb] at h; cases h
    rw [hb] at h
    simp only [cond_true] at h
    split at h
    · rename_i z τ m x ht hs
      cases hf : decide (m = ts.m)
      · rw [hf] at h; cases h
      rw [hf] at h
      simp only [cond_true] at h
      have hm := of_decide_eq_true hf
      split at h
      · rename_i x1 hx
        have := castD_some hx
        injection this with e1 e2
        subst e1; cases e2
        split at h
        · rename_i x' hx'
          have := castD_some hx'
          injection this with _ e3
          cases e3
          simp only [Option.some.injEq, Prod.mk.injEq] at h
          obtain ⟨rfl, rfl⟩ := h
          obtain ⟨hz, hzq, hpre⟩ := hc
          obtain ⟨z1, rfl⟩ := Option.isSome_iff_exists.1 hz
          simp only [Option.getD_some] at hzq hpre hK
          obtain ⟨zq, z1⟩ := z1
          simp only at hzq hpre hK
          subst hzq
          have ht1 := hi.ent t
          rw [ht] at ht1
          obtain ⟨cs1, hv1, caps, hcs, hcap⟩ := ht1
          have hvt : a.tmps.getD t undef = .func (.func z1.1) #[] caps := by
            have hv1 : a.tmps.getD t undef = _ := hv1
            rw [hv1, hcs]; rfl
          have hs1 := hi.ent s
          rw [hs] at hs1
          obtain ⟨pl, S0, cs, hr⟩ := hs1
          obtain ⟨_, _, b, rfl, hS0, hvs, hsb⟩ := hr.box_inj
          have hvs : a.tmps.getD s undef = .pointer (some ⟨b, 0, none⟩) := hvs
          have hpin := hi.slots.pin s h5
          have hbb : b = C.q := by
            rw [hvs] at hpin
            injection hpin with hpin; injection hpin with hpin; injection hpin
          subst hbb
          have hb' := hi.sb s _ hsb
          obtain ⟨k1, k2⟩ := hC.thk ts h4 z1 w F S0 cs x1 caps.toList hb'.2.1 hi.fb (fun k hk => by
            rw [hS0] at hk
            exact ⟨(hi.sb s k hk.1).2.1, (hi.sb s k hk.1).2.2⟩) hr.2.1 (by rw [← hm]; exact hr.2.2) hcap hpre
          have e0 : args = #[] := by apply Array.ext'; simpa using h2
          subst e0
          have hrun : (execOp a.eval o).run P w = .ok (.enter z1.1 caps.toList.toArray) w := by
            simp only [execOp, ho, resolve, Sem.run_bind, Act.eval, hvt, Deferred.ofValue, Sem.run_pure, Result.andThen, invoke]
            have := k1 caps.toList.toArray w
            rw [← this]
            congr 1
            congr 1
            apply Array.ext'
            simp
          unfold Oper.wp
          rw [hrun, Oper.upon_enter]
          refine k2.mono ?_
          intro e w' hpost
          obtain ⟨v, F2, S2, rfl, hh⟩ := hi.putPtr (C := C) (s := ts.at z1) (y := ()) (wrB_iff hb) hs hvs hS0 hsb (.inr hm) hpost
          rw [h3]
          exact hK _ _ ⟨F2, S2, hi.restore rfl hh hs hvs (by rw [hs]; rfl) (fun t ht => by rw [Act.getD_put (by rw [hi.slots.size]; exact (wrB_iff hb).1), if_neg ht])⟩
        · cases h
      · cases h
    · cases h
  · cases h

theorem Inv0.freeze (hi : Inv0 P N w0 F0 H env a w F S) {r : Nat} {τ : Ty} {m : Md} {x : τ.den} (hr : env r = .box τ m x) :
    Inv0 P N w0 F0 H (upd (kill env r) r (.saddr τ x)) a w (fun b => F b ∨ S r b) (fun t => if t = r then none' else S t) := by
  have hap : ∀ t b, t ≠ r → S t b → ¬ S r b := fun t b h h1 h2 => hi.sd t r h b h1 h2
  refine ⟨hi.os, hi.tape, hi.output, hi.size, hi.block, ?_, fun b hb => .inl (hi.f0 b hb), ?_, ?_, ?_, ?_, hi.defers, hi.slots⟩
  · rintro b (hb | hb)
    · exact hi.fb b hb
    · exact (hi.sb r b hb).2.1
  · rintro b (hb | hb) hn
    · exact hi.fn b hb hn
    · exact (hi.sb r b hb).1
  · intro t b ht
    by_cases h : t = r
    · simp only [h, if_true] at ht; exact ht.elim
    · simp only [h, if_false] at ht
      obtain ⟨g1, g2, g3⟩ := hi.sb t b ht
      exact ⟨g1, g2, fun hF => hF.elim g3 (hap t b h ht)⟩
  · intro t u htu b h1 h2
    by_cases h : t = r
    · simp only [h, if_true] at h1; exact h1
    · simp only [h, if_false] at h1
      by_cases h' : u = r
      · simp only [h', if_true] at h2; exact h2
      · simp only [h', if_false] at h2
        exact hi.sd t u htu b h1 h2
  · intro t
    by_cases h : t = r
    · subst h
      rw [upd_same]
      have h1 := hi.ent t
      rw [hr] at h1
      obtain ⟨pl, S0, cs, h1⟩ := h1
      obtain ⟨_, _, b, rfl, hS0, hval, hsb⟩ := h1.box_inj
      obtain ⟨q1, q2, row, T0, q3, q4, q5⟩ := h1.2.1
      refine ⟨b, 0, row, T0, (0, 0), hval, .inr hsb, q3, q4, ?_⟩
      rw [q5]
      exact (Own.freeze (S' := none') h1.2.2).mono (fun k hk => hk.imp id (fun hk => h1.sub k hk)) (fun _ h => h)
    · rw [upd_ne _ _ h]
      rcases kill_cases env r t with h' | ⟨h', hne⟩
      · rw [h']; trivial
      · rw [h']
        refine EntOK.keep (fun b hb => .inl hb) (fun _ _ => rfl) rfl ?_ ?_ (hi.ent t)
        · intro q hq
          have hqr : q ≠ r := fun e => hne (e ▸ hq)
          refine ⟨fun ho => ?_, fun _ => rfl, by simp [hqr], fun _ _ => rfl, ?_, fun b hb => (hi.sb q b hb).2.2⟩
          · rw [upd_ne _ _ hqr]; unfold kill killE; rw [Ent.owner_root ho]
          · rintro b (h1 | h1) h2
            · exact absurd h1 h2
            · exact fun h3 => hap q b hqr h3 h1
        · intro _
          refine ⟨by simp [h], fun _ _ => rfl, ?_⟩
          rintro b (h1 | h1) h2
          · exact absurd h1 h2
          · exact fun h3 => hap t b h h3 h1

theorem frzL_ok : ∀ {l : List Operand} {env : St}, Inv P N w0 F0 H env a w → Inv P N w0 F0 H (frzL env l) a w
  | [], _, h => h
  | z :: l, env, h => by
    refine frzL_ok (l := l) ?_
    unfold frz1
    split
    · rename_i t
      split
      · rename_i τ m x hr
        obtain ⟨F, S, hi⟩ := h
        exact ⟨_, _, hi.freeze hr⟩
      · exact h
    · exact h

theorem stpP_ok (hC : CtxOK P C) : StpOK P C (stpP C) := by
  intro w0 F0 H env env' a w o c hi h hc K Q hK
  unfold stpP at h
  split at h
  · rename_i q hop
    split at h
    · rename_i r hr
      simp only [Option.some.injEq] at h
      subst h
      obtain ⟨F, S, hi⟩ := hi
      unfold ptrC at hr
      split at hr
      · rename_i f z zs d h1 h2 h3
        split at hr
        · rename_i s hs
          cases hb : wrB C d
          · rw [hb] at hr; cases hr
          rw [hb] at hr
          obtain ⟨callee, args, ts⟩ := q
          simp only at h1 h2
          subst h1
          exact ptrE_ok hC hi (wrB_iff hb) hs h2 hop h3 hr hc hK
        · cases hr
      · cases hr
    · split at h
      · rename_i r hr
        simp only [Option.some.injEq] at h
        subst h
        obtain ⟨F, S, hi⟩ := hi
        exact thkC_ok hC hi hop hr hc hK
      · exact stp_ok hC hi h hc K Q hK
  · rename_i fn first caps hop
    obtain ⟨F, S, hi'⟩ := frzL_ok (l := caps.toList) hi
    exact pureStp_ok hC hi' h hc hK
  · exact stp_ok hC hi h hc K Q hK

end
end Go.Lf
namespace Go.Lf

/-- What is left at the pointer, and what is returned. -/
def leftP (s : PSpec) (x' : s.τ.den) (st : St) : Prop := match st 0 with
  | .box σ m z => bif s.τ.flat || decide (m = s.m) then (match castD (τ := σ) (σ := s.τ) z with
    | some z => z = x'
    | none => False) else False
  | _ => False
def backP (s : PSpec) (rs : List ResultVar) (y' : s.res.den) (st : St) : Prop := bif s.multi then rs = [] ∧ s.res = .unit else match rs with
  | [.tmp t] => (match ownR s.res s.rm (viewO st (.tmp t)) with
    | some (z, l) => z = y' ∧ memN l 0 = false
    | none => False)
  | _ => False
def retPP (s : PSpec) (rs : List ResultVar) (x' : s.τ.den) (y' : s.res.den) (st : St) : Prop := leftP s x' st ∧ backP s rs y' st

/-- The proposition for a method's body. -/
def funP (C : Ctx) (stp : St → Oper → Option (Prop × St)) (s : PSpec) (L : s.τ.den → kdens s.args → List LoopI) (fn : Func) : Prop :=
  match fn.body with
  | some c => ∀ x y, s.pre x y → dFact s.τ x → factsK s.args y → wpI C stp (L x y) c 0 (ofL ((0, .box s.τ s.m x) :: argsEnt s.args y 1)) (retPP s fn.results.toList (s.fn x y) (s.out x y)) (fun _ _ => False) (retPP s fn.results.toList (s.fn x y) (s.out x y))
  | none => False

section
variable {P : Program} {C : Ctx} {N : NP} {w0 : World} {F0 H : NSet} {env : St} {a : Act} {w : World} {F : NSet} {S : Nat → NSet} {d : Nat}

theorem Inv0.startP {s : PSpec} {vs : List Value} {y : kdens s.args} {cs : List Value} {x : s.τ.den} {b n : Nat} {S0 : NSet} (hb : b < w.heap.size) (hF : ∀ k, F k → k < w.heap.size) (hS0 : ∀ k, S0 k → k < w.heap.size ∧ ¬ F k)
    (h1 : PlOk F S0 w (.mem b 0) s.τ.size cs) (h2 : Own F w s.τ s.m S0 cs x) (ha : ArgsOK P F w s.args vs y) (hn : vs.length + 1 ≤ n) :
    Inv0 P ⟨n, some 0, b⟩ w F (fun k => S0 k ∨ k = b) (ofL ((0, .box s.τ s.m x) :: argsEnt s.args y 1)) { tmps := (.pointer (some ⟨b, 0, none⟩) :: vs).toArray ++ Array.replicate (n - (vs.length + 1)) undef, defers := [] } w F
      (fun t k => t = 0 ∧ (S0 k ∨ k = b)) := by
  have hget : ∀ i v, (.pointer (some ⟨b, 0, none⟩) :: vs)[i]? = some v → ((.pointer (some ⟨b, 0, none⟩) :: vs).toArray ++ Array.replicate (n - (vs.length + 1)) undef).getD i undef = v := by
    intro i v hv
    have hi : i < (Value.pointer (some ⟨b, 0, none⟩) :: vs).length := by
      rcases Nat.lt_or_ge i (Value.pointer (some ⟨b, 0, none⟩) :: vs).length with h | h
      · exact h
      · rw [List.getElem?_eq_none h] at hv; cases hv
    rw [Array.getD_eq_getD_getElem?, Array.getElem?_append_left (by simpa using hi)]
    simp only [List.getElem?_toArray, hv, Option.getD_some]
  have hV := hget 0 _ rfl
  have he := argsEnt_ok (env := ofL ((0, .box s.τ s.m x) :: argsEnt s.args y 1)) (S := fun t k => t = 0 ∧ (S0 k ∨ k = b)) (V := fun t => ((.pointer (some ⟨b, 0, none⟩) :: vs).toArray ++ Array.replicate (n - (vs.length + 1)) undef).getD t undef) (n := 1) ha
    (fun i v hv => hget (1 + i) v (by rw [Nat.add_comm]; simpa using hv))
  refine ⟨rfl, rfl, rfl, Nat.le_refl _, fun _ _ _ => rfl, hF, fun _ h => h, fun b h1 h2 => absurd h1 h2, ?_, ?_, ?_, rfl, ⟨by simp; omega, ?_⟩⟩
  · rintro t k ⟨rfl, hk | rfl⟩
    · exact ⟨.inr (.inl hk), (hS0 k hk).1, (hS0 k hk).2⟩
    · exact ⟨.inr (.inr rfl), hb, h1.2.1⟩
  · rintro t u htu k ⟨rfl, _⟩ ⟨rfl, _⟩
    exact htu rfl
  · intro t
    show EntOK P F w (ofL ((0, .box s.τ s.m x) :: argsEnt s.args y 1)) _ _ t (match look ((0, .box s.τ s.m x) :: argsEnt s.args y 1) t with | some e => e | none => .dead)
    cases t with
    | zero =>
      refine ⟨.mem b 0, S0, cs, .inr ⟨rfl, b, rfl, ?_, hV, ⟨rfl, .inr rfl⟩⟩, h1, h2⟩
      funext k
      by_cases hk : k = b
      · subst hk; simp [h1.1]
      · simp [hk]
    | succ t =>
      have e1 : look ((0, Ent.box s.τ s.m x) :: argsEnt s.args y 1) (t + 1) = look (argsEnt s.args y 1) (t + 1) := rfl
      rw [e1]
      cases hl : look (argsEnt s.args y 1) (t + 1) with
      | none => trivial
      | some e => exact (he.2 _ e hl).2.2
  · intro s' hs'
    injection hs' with hs'
    subst hs'
    exact hV

theorem TupOK.empty {τ : Ty} {m : Md} (h : τ = .unit) (x : τ.den) : TupOK F w τ m none' [] x := by subst h; rfl

theorem retPP_ok (hN : N.p = some 0) {s : PSpec} {x : s.τ.den} {y : kdens s.args} {fn : Func} {S0 : NSet} (hH : H = fun k => S0 k ∨ k = N.q) (hq : retPP s fn.results.toList (s.fn x y) (s.out x y) env) (hi : Inv P N w0 F0 H env a w) :
    bodyPost P fn (PPost F0 S0 w0 N.q s x y) .normal a w := by
  obtain ⟨F, S, hi⟩ := hi
  obtain ⟨hl, hb⟩ := hq
  unfold leftP at hl
  split at hl
  · rename_i σ m z hz
    cases hf : (s.τ.flat || decide (m = s.m))
    · rw [hf] at hl; cases hl
    rw [hf] at hl
    simp only [cond_true] at hl
    simp only [Bool.or_eq_true, decide_eq_true_eq] at hf
    split at hl
    · rename_i z' hz'
      have := castD_some hz'
      injection this with e1 e2
      subst e1; cases e2
      subst hl
      have h0 := hi.ent 0
      rw [hz] at h0
      obtain ⟨pl, S1, cs, hr⟩ := h0
      obtain ⟨_, _, b, rfl, hS1, hv, hsb⟩ := hr.box_inj
      have hpin := hi.slots.pin 0 hN
      have hv : a.tmps.getD 0 undef = .pointer (some ⟨b, 0, none⟩) := hv
      rw [hv] at hpin
      have hbb : b = N.q := by injection hpin with h; injection h with h; injection h
      subst hbb
      have hown : Own F w s.τ s.m S1 cs (s.fn x y) := by
        rcases hf with hf | hf
        · exact hr.2.2.flat hf
        · rw [← hf]; exact hr.2.2
      have hout : ∀ k, (w0.heap.size ≤ k ∨ H k) → k ≠ N.q → (w0.heap.size ≤ k ∨ S0 k) := by
        rintro k (hk | hk) hne
        · exact .inl hk
        · rw [hH] at hk
          exact hk.elim .inr (fun h => absurd h hne)
      have hfin : ∀ (v : Value) (Sr : NSet), (∀ k, Sr k → (∃ u, u ≠ 0 ∧ S u k)) → RetV F w s.multi s.res s.rm Sr v (s.out x y) → PPost F0 S0 w0 N.q s x y (.returned v) w := by
        intro v Sr hSr hret
        refine ⟨v, F, S1, Sr, cs, rfl, hi.os, hi.tape, hi.output, hi.size, ?_, hi.f0, ?_, ?_, ?_, ?_, hr.2.1, hown, hret⟩
        · intro k hk hne hS
          exact hi.block k hk (by rw [hH]; rintro (h | h); exact hS h; exact hne h)
        · intro k hk hF
          refine hout k (hi.fn k hk hF) ?_
          rintro rfl
          exact (hi.sb 0 _ hsb).2.2 hk
        · rintro k (hk | hk | hk)
          · exact hi.fb k hk
          · exact (hi.sb 0 k (hr.sub k hk)).2.1
          · obtain ⟨u, _, hu⟩ := hSr k hk; exact (hi.sb u k hu).2.1
        · intro k hk
          have h1 := hi.sb 0 k (hr.sub k hk)
          refine ⟨hout k h1.1 ?_, h1.2.2⟩
          rintro rfl
          rw [hS1] at hk; exact hk.2 rfl
        · intro k hk
          obtain ⟨u, hu0, hu⟩ := hSr k hk
          have h1 := hi.sb u k hu
          have hne : k ≠ N.q := by
            rintro rfl; exact hi.sd u 0 hu0 _ hu hsb
          exact ⟨hout k h1.1 hne, h1.2.2, fun h => hi.sd u 0 hu0 _ hu (hr.sub k h), hne⟩
      unfold backP at hb
      cases hmu : s.multi
      · rw [hmu] at hb hfin
        simp only [cond_false] at hb
        split at hb
        · rename_i t hrs
          have hrun := results_run (P := P) (w := w) (a := a) (fn := fn) (vs := [a.tmps.getD t undef]) (by rw [hrs]; simp [resG, Sem.run_bind, Sem.run_pure, Result.andThen])
          refine ⟨hi.defers, _, hrun, ?_⟩
          simp only [List.size_toArray, List.length_cons, List.length_nil, Nat.zero_add, dite_true]
          show PPost F0 S0 w0 N.q s x y (.returned (a.tmps.getD t undef)) w
          split at hb
          · rename_i z l hz2
            obtain ⟨rfl, hl0⟩ := hb
            rcases ownR_ok hi (viewO_ok hi (.tmp t)) hz2 with ⟨rfl, h⟩ | ⟨u, rfl, h⟩
            · exact hfin _ none' (fun _ h => h.elim) h
            · refine hfin _ (S u) (fun k hk => ⟨u, ?_, hk⟩) h
              rintro rfl
              simp [memN] at hl0
          · cases hb
        · cases hb
      · rw [hmu] at hb hfin
        simp only [cond_true] at hb
        obtain ⟨hrs, hres⟩ := hb
        have hrs' : fn.results = #[] := by apply Array.ext'; simpa using hrs
        refine ⟨hi.defers, .tuple #[], by simp [results, hrs'], hfin _ none' (fun _ h => h.elim) ⟨[], rfl, TupOK.empty hres _⟩⟩
    · cases hl
  · cases hl

/-- A method does what its specification says, if its body's proposition holds. -/
theorem POk.introQ {q : Nat} (hC : CtxOK P C) {stp : St → Oper → Option (Prop × St)} (hstp : StpOK P C stp) {f : FuncId} {s : PSpec} {fn : Func} (hdef : FnDef P f) (hf : P.funcs[f]? = some fn)
    (hN : C.np = ⟨fn.ntmps, some 0, q⟩) (hlen : Nat.ble (s.args.length + 1) fn.ntmps = true) (L : s.τ.den → kdens s.args → List LoopI) (h : funP C stp s L fn) : POk P f s (some q) := by
  refine ⟨hdef, ?_⟩
  intro w F S0 b cs x vs y hq hb hF hS0 h1 h2 ha hpre
  have hq := hq q rfl
  subst hq
  unfold funP at h
  split at h
  · rename_i c hbd
    have hl := ArgsOK.len ha
    have hlen' : s.args.length + 1 ≤ fn.ntmps := Nat.le_of_ble_eq_true hlen
    have hst := Inv0.startP (P := P) (n := fn.ntmps) hb hF hS0 h1 h2 ha (by omega)
    rw [← hN] at hst
    refine calls_of_wp hf hbd ?_
    have hend : ∀ st a w', retPP s fn.results.toList (s.fn x y) (s.out x y) st → Inv P C.np w F (fun k => S0 k ∨ k = b) st a w' → bodyPost P fn (PPost F S0 w b s x y) .normal a w' := by
      intro st a w' hq hi
      have hqq : C.np.q = b := by rw [hN]
      have := retPP_ok (N := C.np) (by rw [hN]) (x := x) (y := y) (S0 := S0) (by rw [hqq]) hq hi
      rwa [hqq] at this
    refine wpI_ok hC hstp c (h x y hpre h2.fact (factsK_ok ha)) ⟨F, _, by simpa using hst⟩ ?_ (fun _ _ _ _ h => h.elim) ?_
    · intro st a w' hq hi
      exact hend st a w' hq hi
    · intro st a w' hq hi
      exact hend st a w' hq hi
  · cases h

theorem POk.all {f : FuncId} {s : PSpec} (h : ∀ q, POk P f s (some q)) : POk P f s :=
  ⟨(h 0).1, fun w F S0 b cs x vs y _ hb hF hS0 h1 h2 ha hp => (h b).2 w F S0 b cs x vs y (fun q hq => by injection hq) hb hF hS0 h1 h2 ha hp⟩

theorem POk.intro {C : Nat → Ctx} (hC : ∀ q, CtxOK P (C q)) {stp : Nat → St → Oper → Option (Prop × St)} (hstp : ∀ q, StpOK P (C q) (stp q)) {f : FuncId} {s : PSpec} {fn : Func} (hdef : FnDef P f) (hf : P.funcs[f]? = some fn)
    (hN : ∀ q, (C q).np = ⟨fn.ntmps, some 0, q⟩) (hlen : Nat.ble (s.args.length + 1) fn.ntmps = true) (L : Nat → s.τ.den → kdens s.args → List LoopI) (h : ∀ q, funP (C q) (stp q) s (L q) fn) : POk P f s :=
  POk.all fun q => POk.introQ (hC q) (hstp q) hdef hf (hN q) hlen (L q) (h q)
end
end Go.Lf
namespace Go.Lf

/-- The first part of a body by one context, the rest by another one, in which the slot s points at the block q. The bools lead to the rest. -/
def wpJ (C1 : Ctx) (stp1 : St → Oper → Option (Prop × St)) (C2 : Nat → Ctx) (stp2 : Nat → St → Oper → Option (Prop × St)) (s : Nat) (L1 : List LoopI) (L2 : Nat → List LoopI) :
    List Bool → Code → Nat → St → (St → Prop) → (Nat → St → Prop) → (St → Prop) → Prop
  | true :: fl, .seq a b, k, st, Qn, Qx, Qr => wpI C1 stp1 L1 a k st (fun st' => wpJ C1 stp1 C2 stp2 s L1 L2 fl b (k + nl a) st' Qn Qx Qr) Qx Qr
  | false :: fl, .block id b, k, st, Qn, Qx, Qr => wpJ C1 stp1 C2 stp2 s L1 L2 fl b k st Qn (fun i st' => bif Nat.beq i id then Qn st' else Qx i st') Qr
  | [], c, k, st, Qn, Qx, Qr => match st s with
    | .box _ _ _ => ∀ q, wpI (C2 q) (stp2 q) (L2 q) c k st Qn Qx Qr
    | _ => False
  | _, _, _, _, _, _, _ => False

/-- The proposition for a function's body in two parts. -/
def funJ (C1 : Ctx) (stp1 : St → Oper → Option (Prop × St)) (C2 : Nat → Ctx) (stp2 : Nat → St → Oper → Option (Prop × St)) (t : Nat) (fl : List Bool) (s : FSpec) (L1 : kdens s.args → List LoopI) (L2 : Nat → kdens s.args → List LoopI) (fn : Func) : Prop :=
  match fn.body with
  | some c => ∀ x, s.pre x → factsK s.args x → wpJ C1 stp1 C2 stp2 t (L1 x) (fun q => L2 q x) fl c 0 (ofL (argsEnt s.args x 0)) (retP C1 fn.results.toList s (s.fn x)) (fun _ _ => False) (retP C1 fn.results.toList s (s.fn x))
  | none => False

section
variable {P : Program} {C : Ctx} {N : NP} {w0 : World} {F0 H : NSet} {env : St} {a : Act} {w : World} {F : NSet} {S : Nat → NSet} {d : Nat}

theorem Inv0.rebase (hi : Inv0 P N w0 F0 H env a w F S) {s : Nat} {τ : Ty} {m : Md} {x : τ.den} (hs : env s = .box τ m x) :
    ∃ q, Inv0 P ⟨N.n, some s, q⟩ w F (fun b => ∃ t, S t b) env a w F S := by
  have h := hi.ent s
  rw [hs] at h
  obtain ⟨pl, S0, cs, hr⟩ := h
  obtain ⟨_, _, b, _, _, hv, _⟩ := hr.box_inj
  refine ⟨b, rfl, rfl, rfl, Nat.le_refl _, fun _ _ _ => rfl, hi.fb, fun _ h => h, fun b h1 h2 => absurd h1 h2, fun t b h => ⟨.inr ⟨t, h⟩, (hi.sb t b h).2.1, (hi.sb t b h).2.2⟩, hi.sd, hi.ent, hi.defers, ⟨hi.slots.size, ?_⟩⟩
  intro s' hs'
  injection hs' with hs'
  subst hs'
  exact hv

theorem Inv0.unbase (hi : Inv0 P N w0 F0 H env a w F S) (hN : N.p = none) {p : Option Nat} {q : Nat} {env2 : St} {a2 : Act} {w2 : World} {F2 : NSet} {S2 : Nat → NSet}
    (hi2 : Inv0 P ⟨N.n, p, q⟩ w F (fun b => ∃ t, S t b) env2 a2 w2 F2 S2) : Inv0 P N w0 F0 H env2 a2 w2 F2 S2 := by
  have h0 := hi.size
  have hH : ∀ b, (w.heap.size ≤ b ∨ ∃ t, S t b) → w0.heap.size ≤ b ∨ H b := by
    rintro b (h | ⟨t, h⟩)
    · exact .inl (by omega)
    · exact (hi.sb t b h).1
  refine ⟨hi2.os.trans hi.os, hi2.tape.trans hi.tape, hi2.output.trans hi.output, Nat.le_trans h0 hi2.size, ?_, hi2.fb, fun b hb => hi2.f0 b (hi.f0 b hb), ?_, fun t b h => ⟨hH b (hi2.sb t b h).1, (hi2.sb t b h).2⟩, hi2.sd, hi2.ent, hi2.defers, ⟨hi2.slots.size, fun s h => by rw [hN] at h; cases h⟩⟩
  · intro k hk hn
    rw [hi2.block k (by omega) ?_]
    · exact hi.block k hk hn
    · rintro ⟨t, ht⟩
      rcases (hi.sb t k ht).1 with h | h
      · omega
      · exact hn h
  · intro b h1 h2
    by_cases hF : F b
    · exact hi.fn b hF h2
    · exact hH b (hi2.fn b h1 hF)

theorem wpJ_ok {C1 : Ctx} {C2 : Nat → Ctx} {stp1 : St → Oper → Option (Prop × St)} {stp2 : Nat → St → Oper → Option (Prop × St)} {s : Nat} (hC1 : CtxOK P C1) (hstp1 : StpOK P C1 stp1) (hC2 : ∀ q, CtxOK P (C2 q)) (hstp2 : ∀ q, StpOK P (C2 q) (stp2 q))
    (hp : C1.pin = none) (hnp : ∀ q, (C2 q).np = ⟨C1.N, some s, q⟩) {L1 : List LoopI} {L2 : Nat → List LoopI} :
    ∀ (fl : List Bool) (c : Code) {k : Nat} {st : St} {Qn : St → Prop} {Qx : Nat → St → Prop} {Qr : St → Prop} {Q : Exit → Act → World → Prop} {a : Act} {w : World}, wpJ C1 stp1 C2 stp2 s L1 L2 fl c k st Qn Qx Qr → Inv P C1.np w0 F0 H st a w →
      (∀ st a w, Qn st → Inv P C1.np w0 F0 H st a w → Q .normal a w) → (∀ i st a w, Qx i st → Inv P C1.np w0 F0 H st a w → Q (.exit i) a w) → (∀ st a w, Qr st → Inv P C1.np w0 F0 H st a w → Q .ret a w) → c.wp P Q a w
  | true :: fl, .seq x y, k, st, Qn, Qx, Qr, Q, a, w, h, hi, hn, hx, hr => by
    simp only [wpJ] at h
    refine wp_seq (wpI_ok hC1 hstp1 x h hi ?_ ?_ ?_)
    · intro st1 a1 w1 h1 hi1
      exact wpJ_ok hC1 hstp1 hC2 hstp2 hp hnp fl y h1 hi1 hn hx hr
    · exact hx
    · exact hr
  | false :: fl, .block id b, k, st, Qn, Qx, Qr, Q, a, w, h, hi, hn, hx, hr => by
    simp only [wpJ] at h
    refine wp_block (wpJ_ok hC1 hstp1 hC2 hstp2 hp hnp fl b h hi hn ?_ hr)
    intro i st1 a1 w1 h1 hi1
    simp only [Exit.inBlock]
    cases hb : Nat.beq i id
    · rw [hb] at h1
      have : i ≠ id := fun e => by subst e; rw [Nat.beq_refl] at hb; cases hb
      rw [if_neg this]
      exact hx _ _ _ _ h1 hi1
    · rw [hb] at h1
      rw [if_pos (nbeq_iff.1 hb)]
      exact hn _ _ _ h1 hi1
  | [], c, k, st, Qn, Qx, Qr, Q, a, w, h, hi, hn, hx, hr => by
    simp only [wpJ] at h
    split at h
    · rename_i τ m x hs
      obtain ⟨F, S, hi⟩ := hi
      obtain ⟨q, hq⟩ := hi.rebase hs
      have hN : C1.np.p = none := hp
      have e1 : (C2 q).np = ⟨C1.np.n, some s, q⟩ := hnp q
      have back : ∀ st2 a2 w2, Inv P (C2 q).np w F (fun b => ∃ t, S t b) st2 a2 w2 → Inv P C1.np w0 F0 H st2 a2 w2 := by
        rintro st2 a2 w2 ⟨F2, S2, h2⟩
        rw [e1] at h2
        exact ⟨F2, S2, hi.unbase hN h2⟩
      refine wpI_ok (hC2 q) (hstp2 q) c (h q) ⟨F, S, by rw [e1]; exact hq⟩ ?_ ?_ ?_
      · intro st2 a2 w2 h2 hi2; exact hn _ _ _ h2 (back _ _ _ hi2)
      · intro i st2 a2 w2 h2 hi2; exact hx _ _ _ _ h2 (back _ _ _ hi2)
      · intro st2 a2 w2 h2 hi2; exact hr _ _ _ h2 (back _ _ _ hi2)
    · cases h
  | true :: _, .skip, _, _, _, _, _, _, _, _, h, _, _, _, _ => by simp [wpJ] at h
  | true :: _, .region _ _ _, _, _, _, _, _, _, _, _, h, _, _, _, _ => by simp [wpJ] at h
  | true :: _, .cond _ _ _, _, _, _, _, _, _, _, _, h, _, _, _, _ => by simp [wpJ] at h
  | true :: _, .block _ _, _, _, _, _, _, _, _, _, h, _, _, _, _ => by simp [wpJ] at h
  | true :: _, .loop _, _, _, _, _, _, _, _, _, h, _, _, _, _ => by simp [wpJ] at h
  | true :: _, .rangeFunc _ _ _ _, _, _, _, _, _, _, _, _, h, _, _, _, _ => by simp [wpJ] at h
  | true :: _, .exit _, _, _, _, _, _, _, _, _, h, _, _, _, _ => by simp [wpJ] at h
  | true :: _, .scope _, _, _, _, _, _, _, _, _, h, _, _, _, _ => by simp [wpJ] at h
  | true :: _, .label _, _, _, _, _, _, _, _, _, h, _, _, _, _ => by simp [wpJ] at h
  | true :: _, .goto _, _, _, _, _, _, _, _, _, h, _, _, _, _ => by simp [wpJ] at h
  | true :: _, .ret, _, _, _, _, _, _, _, _, h, _, _, _, _ => by simp [wpJ] at h
  | true :: _, .refuse _, _, _, _, _, _, _, _, _, h, _, _, _, _ => by simp [wpJ] at h
  | false :: _, .skip, _, _, _, _, _, _, _, _, h, _, _, _, _ => by simp [wpJ] at h
  | false :: _, .region _ _ _, _, _, _, _, _, _, _, _, h, _, _, _, _ => by simp [wpJ] at h
  | false :: _, .seq _ _, _, _, _, _, _, _, _, _, h, _, _, _, _ => by simp [wpJ] at h
  | false :: _, .cond _ _ _, _, _, _, _, _, _, _, _, h, _, _, _, _ => by simp [wpJ] at h
  | false :: _, .loop _, _, _, _, _, _, _, _, _, h, _, _, _, _ => by simp [wpJ] at h
  | false :: _, .rangeFunc _ _ _ _, _, _, _, _, _, _, _, _, h, _, _, _, _ => by simp [wpJ] at h
  | false :: _, .exit _, _, _, _, _, _, _, _, _, h, _, _, _, _ => by simp [wpJ] at h
  | false :: _, .scope _, _, _, _, _, _, _, _, _, h, _, _, _, _ => by simp [wpJ] at h
  | false :: _, .label _, _, _, _, _, _, _, _, _, h, _, _, _, _ => by simp [wpJ] at h
  | false :: _, .goto _, _, _, _, _, _, _, _, _, h, _, _, _, _ => by simp [wpJ] at h
  | false :: _, .ret, _, _, _, _, _, _, _, _, h, _, _, _, _ => by simp [wpJ] at h
  | false :: _, .refuse _, _, _, _, _, _, _, _, _, h, _, _, _, _ => by simp [wpJ] at h

/-- A function computes what its specification says, if its body's proposition holds, in two parts. -/
theorem FOk.introJ {C1 : Ctx} {C2 : Nat → Ctx} {stp1 : St → Oper → Option (Prop × St)} {stp2 : Nat → St → Oper → Option (Prop × St)} {t : Nat} {fl : List Bool} (hC1 : CtxOK P C1) (hstp1 : StpOK P C1 stp1) (hC2 : ∀ q, CtxOK P (C2 q)) (hstp2 : ∀ q, StpOK P (C2 q) (stp2 q))
    {f : FuncId} {s : FSpec} {fn : Func} (hdef : FnDef P f) (hf : P.funcs[f]? = some fn) (hN : C1.np = ⟨fn.ntmps, none, 0⟩) (hnp : ∀ q, (C2 q).np = ⟨fn.ntmps, some t, q⟩)
    (hlen : Nat.ble s.args.length fn.ntmps = true) (L1 : kdens s.args → List LoopI) (L2 : Nat → kdens s.args → List LoopI) (h : funJ C1 stp1 C2 stp2 t fl s L1 L2 fn) : FOk P f s := by
  refine ⟨hdef, ?_⟩
  intro w F vs xs hF ha hp
  unfold funJ at h
  split at h
  · rename_i c hb
    have hl := ArgsOK.len ha
    have hlen' : s.args.length ≤ fn.ntmps := Nat.le_of_ble_eq_true hlen
    have hst := Inv0.start (P := P) (N := C1.np) hF ha (by rw [hN]; show vs.length ≤ fn.ntmps; omega) (by rw [hN])
    have e1 : C1.N = fn.ntmps := by have : C1.np.n = fn.ntmps := by rw [hN]
                                    exact this
    have e2 : C1.pin = none := by have : C1.np.p = none := by rw [hN]
                                  exact this
    refine calls_of_wp hf hb ?_
    rw [show C1.np.n = fn.ntmps by rw [hN]] at hst
    refine wpJ_ok hC1 hstp1 hC2 hstp2 e2 (fun q => by rw [hnp, e1]) fl c (h xs hp (factsK_ok ha)) ⟨F, _, by simpa using hst⟩ ?_ (fun _ _ _ _ h => h.elim) ?_
    · intro st a w' hq hi
      obtain ⟨v, h1, h2⟩ := retP_ok hC1 hq hi
      obtain ⟨_, _, hi⟩ := hi
      exact ⟨hi.defers, v, h1, h2⟩
    · intro st a w' hq hi
      obtain ⟨v, h1, h2⟩ := retP_ok hC1 hq hi
      obtain ⟨_, _, hi⟩ := hi
      exact ⟨hi.defers, v, h1, h2⟩
  · cases h
end
end Go.Lf
