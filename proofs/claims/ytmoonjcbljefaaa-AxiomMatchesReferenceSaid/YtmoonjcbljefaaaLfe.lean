/- One operation of a region, in whatever order it comes up. A region, by value. A region, by value: the whole. Owners that become shared. Stores into variables that the region itself makes, in whatever order they come up. What is known of a value by its type alone. Code, by value: one proposition for a body. -/
import Derived.Test.YtmoonjcbljefaaaLfd
set_option linter.unusedVariables false
set_option linter.unusedSimpArgs false
namespace Go.Lf

/-- The row that stands at i is what the i-th operation gives. -/
def Tab (pd : Bool) (C : Ctx) (env0 : St) (ops : Array Oper) (rows : List Row) : Prop :=
  ∀ i r, rows[i]? = some r → ∃ o c, ops[i]? = some o ∧ genRow pd C env0 (rows.take i) o = some (c, r) ∧ c

theorem isNilL_iff {α : Type} {l : List α} : isNilL l = true ↔ l = [] := by cases l <;> simp [isNilL]
theorem isNone_iff {α : Type} {x : Option α} : isNone x = true ↔ x = none := by cases x <;> simp [isNone]

structure RowFacts (pd : Bool) (C : Ctx) (env0 : St) (l : List Row) (o : Oper) (r : Row) : Prop where
  guard : ∃ gs, guardR l o.guard = some (r.gb, r.ch, gs) ∧ r.rs = gs ++ slotsE (stR false l env0) o.op.operands.toList
  dst : o.dst = some r.d
  op : (∃ c, opE C o (viewO (stR false l env0)) = some (c, r.e, r.used) ∧ (r.gb = true → c) ∧ r.pd = none) ∨
    (∃ c r0 p0, pd = true ∧ pendE C o (viewO (stR false l env0)) = some (c, r.e, r.used, r0, p0) ∧ c ∧ r.pd = some (r0, p0))
  fresh : (env0 r.d).isOwner = false
  new : lookR l r.d = none
  cond : r.ch = [] ∨ (r.used = [] ∧ r.e.isOwner = false)
  opd : chB l r.ch o.op = true

theorem genRow_ok {pd : Bool} {C : Ctx} {env0 : St} {l : List Row} {o : Oper} {c : Prop} {r : Row} (h : genRow pd C env0 l o = some (c, r)) (hc : c) : RowFacts pd C env0 l o r := by
  unfold genRow at h
  split at h
  · rename_i gb ch gs d c0 e used hg hd ho
    cases hb : (!(env0 d).isOwner && isNone (lookR l d) && (isNilL ch || (isNilL used && !e.isOwner)) && chB l ch o.op)
    · rw [hb] at h; cases h
    rw [hb] at h
    simp only [cond_true, Option.some.injEq, Prod.mk.injEq] at h
    obtain ⟨rfl, rfl⟩ := h
    simp only [Bool.and_eq_true, Bool.not_eq_true', Bool.or_eq_true, isNilL_iff, isNone_iff] at hb
    obtain ⟨⟨⟨h1, h2⟩, h3⟩, h4⟩ := hb
    refine ⟨⟨gs, hg, rfl⟩, hd, .inl ⟨c0, ho, ?_, rfl⟩, h1, h2, h3, h4⟩
    intro hgb
    cases hch : isNilL ch
    · rw [hch] at hc; exact hc hgb
    · rw [hch] at hc; exact hc
  · rename_i gb ch gs d hg hd ho
    cases pd with
    | false => cases h
    | true =>
      simp only [cond_true] at h
      split at h
      · rename_i c0 e used r0 p0 hp
        cases hb : (!(env0 d).isOwner && isNone (lookR l d) && isNilL ch && chB l ch o.op)
        · rw [hb] at h; cases h
        rw [hb] at h
        simp only [cond_true, Option.some.injEq, Prod.mk.injEq] at h
        obtain ⟨rfl, rfl⟩ := h
        simp only [Bool.and_eq_true, Bool.not_eq_true', isNilL_iff, isNone_iff] at hb
        obtain ⟨⟨⟨h1, h2⟩, h3⟩, h4⟩ := hb
        exact ⟨⟨gs, hg, rfl⟩, hd, .inr ⟨c0, r0, p0, rfl, hp, hc, rfl⟩, h1, h2, .inl h3, h4⟩
      · cases h
  · cases h

theorem genRows_ok {pd : Bool} {C : Ctx} {env0 : St} {ops : Array Oper} : ∀ (os : List Oper) (l : List Row) {c : Prop} {rows : List Row} {t : List Oper}, genRows pd C env0 os l = (c, rows, t) → c →
    (∀ j, os[j]? = ops[l.length + j]?) → Tab pd C env0 ops l → Tab pd C env0 ops rows ∧ ∀ j, t[j]? = ops[rows.length + j]?
  | [], l, c, rows, t, h, hc, hl, ht => by
    simp only [genRows, Prod.mk.injEq] at h
    obtain ⟨rfl, rfl, rfl⟩ := h
    exact ⟨ht, hl⟩
  | o :: os, l, c, rows, t, h, hc, hl, ht => by
    simp only [genRows] at h
    split at h
    · rename_i c1 r hr
      simp only [Prod.mk.injEq] at h
      obtain ⟨rfl, rfl, rfl⟩ := h
      refine genRows_ok os (l ++ [r]) (c := (genRows pd C env0 os (l ++ [r])).1) rfl hc.2 (fun j => ?_) ?_
      · have := hl (j + 1)
        simpa [Nat.add_assoc, Nat.add_comm 1 j] using this
      · intro i q hq
        rcases Nat.lt_trichotomy i l.length with hi | hi | hi
        · rw [List.getElem?_append_left hi] at hq
          obtain ⟨o', c2, g1, g2, g3⟩ := ht i q hq
          exact ⟨o', c2, g1, by rw [List.take_append_of_le_length (by omega)]; exact g2, g3⟩
        · subst hi
          simp at hq; subst hq
          exact ⟨o, c1, by simpa using (hl 0).symm, by rw [List.take_left']; exact hr; rfl, hc.1⟩
        · rw [List.getElem?_append_right (by omega), List.getElem?_eq_none (by simp; omega)] at hq; cases hq
    · simp only [Prod.mk.injEq] at h
      obtain ⟨rfl, rfl, rfl⟩ := h
      exact ⟨ht, hl⟩

section
variable {pd : Bool} {C : Ctx} {env0 : St} {ops : Array Oper} {rows : List Row}

theorem Tab.facts (ht : Tab pd C env0 ops rows) {i : Nat} {r : Row} (h : rows[i]? = some r) : ∃ o, ops[i]? = some o ∧ RowFacts pd C env0 (rows.take i) o r := by
  obtain ⟨o, c, h1, h2, h3⟩ := ht i r h
  exact ⟨o, h1, genRow_ok h2 h3⟩

theorem Tab.inj (ht : Tab pd C env0 ops rows) {i j : Nat} {r q : Row} (h1 : rows[i]? = some r) (h2 : rows[j]? = some q) (h : r.d = q.d) : i = j := by
  have aux : ∀ {i j : Nat} {r q : Row}, rows[i]? = some r → rows[j]? = some q → r.d = q.d → i < j → False := by
    intro i j r q h1 h2 h hij
    obtain ⟨o, _, hf⟩ := ht.facts h2
    have hm : r ∈ rows.take j := by
      refine List.mem_iff_getElem?.2 ⟨i, ?_⟩
      rw [List.getElem?_take, if_pos hij]; exact h1
    have hn := hf.new
    have : lookR (rows.take j) r.d = none := by rw [h]; exact hn
    have h3 : ∀ (l : List Row), r ∈ l → lookR l r.d ≠ none := by
      intro l
      induction l with
      | nil => intro h; cases h
      | cons x l ih =>
        intro hx
        simp only [lookR]
        cases hb : Nat.beq x.d r.d
        · simp only [cond_false]
          rcases List.mem_cons.1 hx with rfl | hx
          · rw [Nat.beq_refl] at hb; cases hb
          · exact ih hx
        · simp
    exact h3 _ hm this
  rcases Nat.lt_trichotomy i j with hij | hij | hij
  · exact (aux h1 h2 h hij).elim
  · exact hij
  · exact (aux h2 h1 h.symm hij).elim

/-- No slot is written twice. -/
def UD (rows : List Row) : Prop := ∀ (i j : Nat) (r q : Row), rows[i]? = some r → rows[j]? = some q → r.d = q.d → i = j
theorem Tab.ud (ht : Tab pd C env0 ops rows) : UD rows := fun _ _ _ _ h1 h2 h => ht.inj h1 h2 h

theorem UD.look (ht : UD rows) {T : Nat → Bool} {i : Nat} {r : Row} (h : rows[i]? = some r) (hT : T i = true) : lookR (sel rows T 0) r.d = some r := by
  refine lookR_some_of (sel_mem rows 0 h (by simpa using hT)) ?_
  intro q hq hd
  obtain ⟨j, h1, _⟩ := mem_sel rows 0 hq
  have := ht _ _ _ _ h1 h hd
  subst this
  rw [h] at h1; injection h1 with h1; exact h1.symm

theorem UD.look_none (ht : UD rows) {T : Nat → Bool} {i : Nat} {r : Row} (h : rows[i]? = some r) (hT : T i = false) : lookR (sel rows T 0) r.d = none := by
  refine lookR_none ?_
  intro q hq hd
  obtain ⟨j, h1, h2⟩ := mem_sel rows 0 hq
  have := ht _ _ _ _ h1 h hd
  subst this
  simp only [Nat.zero_add] at h2
  rw [hT] at h2; cases h2

def Holds (rows : List Row) (x : Nat × Bool) : Prop := ∃ r, rows[x.1]? = some r ∧ r.e = .shr .bool x.2

theorem bbeq_iff {a b : Bool} : bbeq a b = true ↔ a = b := by cases a <;> cases b <;> simp [bbeq]

theorem Tab.gb (ht : Tab pd C env0 ops rows) : ∀ (i : Nat) {r : Row}, rows[i]? = some r → (r.gb = true ↔ ∀ x ∈ r.ch, Holds rows x) := by
  intro i
  induction i using Nat.strongRecOn with
  | _ i ih =>
    intro r hr
    obtain ⟨o, _, hf⟩ := ht.facts hr
    obtain ⟨gs, hg, _⟩ := hf.guard
    cases hog : o.guard with
    | none =>
      rw [hog] at hg
      simp only [guardR, Option.some.injEq, Prod.mk.injEq] at hg
      obtain ⟨h1, h2, _⟩ := hg
      rw [← h1, ← h2]; simp
    | some gb =>
      obtain ⟨g, b⟩ := gb
      rw [hog] at hg
      simp only [guardR] at hg
      split at hg
      · rename_i q hq
        split at hg
        · rename_i p hp
          cases hu : usedR (rows.take i) q.d
          · rw [hu] at hg
            simp only [cond_false, Option.some.injEq, Prod.mk.injEq] at hg
            obtain ⟨h1, h2, _⟩ := hg
            have hgi : g < i := by
              rw [List.getElem?_take] at hq
              split at hq
              · assumption
              · cases hq
            rw [List.getElem?_take, if_pos hgi] at hq
            have ih' := ih g hgi hq
            rw [← h1, ← h2]
            simp only [Bool.and_eq_true, List.mem_cons, forall_eq_or_imp, bbeq_iff, ih']
            constructor
            · rintro ⟨h3, rfl⟩
              exact ⟨⟨q, hq, hp⟩, h3⟩
            · rintro ⟨⟨q', h4, h5⟩, h6⟩
              refine ⟨h6, ?_⟩
              simp only at h4 h5
              rw [hq] at h4; injection h4 with h4; subst h4
              rw [hp] at h5; injection h5 with _ h5
          · rw [hu] at hg; cases hg
        · cases hg
      · cases hg

theorem memC_iff {l : List (Nat × Bool)} {x : Nat × Bool} : memC l x = true ↔ x ∈ l := by
  induction l with
  | nil => simp [memC]
  | cons y l ih =>
    simp only [memC]
    cases h : (Nat.beq y.1 x.1 && bbeq y.2 x.2)
    · simp only [cond_false, ih, List.mem_cons]
      constructor
      · exact .inr
      · rintro (rfl | h')
        · rw [Nat.beq_refl, (bbeq_iff (a := x.2) (b := x.2)).2 rfl] at h; simp at h
        · exact h'
    · simp only [cond_true, true_iff, List.mem_cons]
      simp only [Bool.and_eq_true, nbeq_iff, bbeq_iff] at h
      exact .inl (Prod.ext h.1 h.2).symm

theorem subC_iff {l m : List (Nat × Bool)} : subC l m = true ↔ ∀ x ∈ l, x ∈ m := by
  induction l with
  | nil => simp [subC]
  | cons y l ih => simp [subC, memC_iff, ih]

/-- What an operand's slot holds is there, if the chain's guards hold. -/
def FillOK (l : List Row) : Operand → Prop
  | .tmp s => ∀ r, lookR l s = some r → r.gb = true
  | _ => True

theorem Tab.fill (ht : Tab pd C env0 ops rows) {i : Nat} {ch : List (Nat × Bool)} {z : Operand} (h : opdB (rows.take i) ch z = true) (hch : ∀ x ∈ ch, Holds rows x) : FillOK (rows.take i) z := by
  cases z with
  | tmp s =>
    intro r hr
    simp only [opdB, hr] at h
    obtain ⟨hm, _⟩ := lookR_mem hr
    obtain ⟨j, hj⟩ := List.mem_iff_getElem?.1 hm
    have hj' : rows[j]? = some r := by
      rw [List.getElem?_take] at hj
      split at hj
      · exact hj
      · cases hj
    exact (ht.gb j hj').2 (fun x hx => hch x (subC_iff.1 h x hx))
  | _ => trivial

theorem idxR_ok {s : Nat} : ∀ {l : List Row} {k j : Nat} {r : Row}, idxR l k s = some (j, r) → k ≤ j ∧ l[j - k]? = some r ∧ lookR l s = some r
  | [], _, _, _, h => by cases h
  | q :: l, k, j, r, h => by
    simp only [idxR] at h
    cases hd : Nat.beq q.d s
    · rw [hd] at h
      obtain ⟨h1, h2, h3⟩ := idxR_ok h
      refine ⟨by omega, ?_, by simp only [lookR, hd, cond_false]; exact h3⟩
      rw [show j - k = (j - (k + 1)) + 1 from by omega]; simpa using h2
    · rw [hd] at h
      simp only [cond_true, Option.some.injEq, Prod.mk.injEq] at h
      obtain ⟨rfl, rfl⟩ := h
      exact ⟨Nat.le_refl _, by simp, by simp only [lookR, hd, cond_true]⟩

theorem allB_ok {l : List Row} {ch : List (Nat × Bool)} : ∀ {zs : List Operand}, allB l ch zs = true → ∀ z ∈ zs, opdB l ch z = true
  | [], _, _, h => by cases h
  | y :: zs, h, z, hz => by
    simp only [allB, Bool.and_eq_true] at h
    rcases List.mem_cons.1 hz with rfl | hz
    · exact h.1
    · exact allB_ok h.2 z hz

theorem slotsE_mem {st : St} {s : Nat} : ∀ {l : List Operand}, Operand.tmp s ∈ l → s ∈ slotsE st l ∧ ∀ q, (st s).root = some q → q ∈ slotsE st l
  | y :: l, h => by
    rcases List.mem_cons.1 h with h | h
    · subst h
      simp only [slotsE]
      cases hr : (st s).root with
      | none => exact ⟨by simp, fun q hq => by cases hq⟩
      | some r => exact ⟨by simp, fun q hq => by injection hq with hq; subst hq; simp⟩
    · obtain ⟨h1, h2⟩ := slotsE_mem (st := st) h
      cases y with
      | tmp u =>
        simp only [slotsE]
        cases hr : (st u).root with
        | none => exact ⟨by simp [h1], fun q hq => by simp [h2 q hq]⟩
        | some r => exact ⟨by simp [h1], fun q hq => by simp [h2 q hq]⟩
      | _ => exact ⟨by simpa [slotsE] using h1, fun q hq => by simpa [slotsE] using h2 q hq⟩
end

section
variable {P : Program} {C : Ctx} {w0 : World} {F0 H : NSet} {env0 : St} {a : Act} {w : World} {F : NSet} {S : Nat → NSet}

/-- Two lists of rows say the same of a slot. -/
def Same (L l : List Row) (s : Nat) : Prop := lookR L s = lookR l s ∧ usedR L s = usedR l s

theorem viewT_ok {L l : List Row} {N : NP} (hi : Inv0 P N w0 F0 H (stR true L env0) a w F S) {z : Operand} (hf : FillOK l z)
    (hs : ∀ s, z = .tmp s → Same L l s ∧ ∀ q, (stR false l env0 s).root = some q → Same L l q) :
    ViewOK P F w (stR true L env0) (fun t => a.tmps.getD t undef) S (a.eval z) (viewO (stR false l env0) z) := by
  cases z with
  | tmp s =>
    obtain ⟨⟨e1, e2⟩, e3⟩ := hs s rfl
    rcases stR_cases false l env0 s with h | ⟨h, h2, h3⟩
    · simp only [viewO, h]
      exact ⟨fun _ _ _ => trivial, fun h => (by cases h), rfl⟩
    · have hb : baseR true L env0 s = baseR false l env0 s := by
        unfold baseR
        rw [e1]
        cases hl : lookR l s with
        | none => rfl
        | some r => simp only [Row.ent, cond_true, cond_false, hf r hl]
      have hT : stR true L env0 s = stR false l env0 s := by
        rw [h, ← hb]
        refine stR_base (e2.trans h2) ?_
        rw [hb]
        intro q hq
        have := (e3 q (by rw [h]; exact hq)).2
        rw [this]; exact h3 q hq
      have hroot : rootE (stR true L env0) (stR true L env0 s) = rootE (stR false l env0) (stR false l env0 s) := by
        rw [hT]
        unfold rootE
        cases hr : (stR false l env0 s).root with
        | none => rfl
        | some q =>
          simp only []
          have ho := (hi.ent s).root_owner (r := q) (by rw [hT]; exact hr)
          obtain ⟨g1, g2⟩ := e3 q hr
          rcases stR_cases true L env0 q with k | ⟨k, k2, k3⟩
          · rw [k] at ho; cases ho
          · have hb2 : baseR true L env0 q = baseR false l env0 q := by
              unfold baseR
              rw [k] at ho
              unfold baseR at ho
              rw [g1] at ho ⊢
              cases hl : lookR l q with
              | none => rfl
              | some r =>
                rw [hl] at ho
                simp only [Row.ent, cond_true, cond_false] at ho ⊢
                cases hg : r.gb
                · rw [hg] at ho; cases ho
                · rfl
            rw [k, hb2]
            symm
            refine stR_base (g2 ▸ k2) ?_
            intro q' hq'
            rw [k, hb2] at ho
            rw [Ent.owner_root ho] at hq'; cases hq'
      have := viewO_ok hi (.tmp s)
      simp only [viewO] at this ⊢
      rw [hT] at hroot
      rw [hT, hroot] at this
      exact this
  | const v => exact viewO_ok hi (.const v)
  | global g => exact viewO_ok hi (.global g)
  | func f => exact viewO_ok hi (.func f)

def InvT (P : Program) (C : Ctx) (w0 : World) (F0 H : NSet) (env0 : St) (rows : List Row) (T : Nat → Bool) (a : Act) (w : World) : Prop :=
  ∃ F S, Inv0 P C.np w0 F0 H (stR true (sel rows T 0) env0) a w F S ∧ ∀ j q, rows[j]? = some q → T j = true → q.gb = false → a.tmps.getD q.d undef = undef

/-- One more has been executed. -/
theorem step_weaken {rows : List Row} (ht : UD rows) {N : NP} {T : Nat → Bool} {i : Nat} {r : Row} (hr : rows[i]? = some r) (hTi : T i = false) (hfr : (env0 r.d).isOwner = false) {w : World} {a : Act}
    (hi : Inv0 P N w0 F0 H (put (dropAll (stR true (sel rows T 0) env0) r.used) r.d (r.ent true)) a w F S) :
    Inv0 P N w0 F0 H (stR true (sel rows (addT T i) 0) env0) a w F S := by
  have hTi' : addT T i i = true := by simp [addT]
  have hlk : ∀ t, t ≠ r.d → lookR (sel rows (addT T i) 0) t = lookR (sel rows T 0) t := by
    intro t htd
    refine lookR_congr rows 0 ?_
    intro j q hq hd
    by_cases hj : j = i
    · subst hj; rw [hr] at hq; injection hq with hq; subst hq; exact absurd hd.symm htd
    · simp [addT, nbeq_ne hj]
  have hus : ∀ t, usedR (sel rows (addT T i) 0) t = false → t ∉ r.used ∧ usedR (sel rows T 0) t = false := by
    intro t h
    have hn : ∀ q ∈ sel rows (addT T i) 0, t ∉ q.used := by
      intro q hq htq
      have := usedR_mem.2 ⟨q, hq, htq⟩
      rw [h] at this; cases this
    refine ⟨hn r (sel_mem rows 0 hr (by simpa using hTi')), ?_⟩
    cases hu : usedR (sel rows T 0) t
    · rfl
    · obtain ⟨q, hq, htq⟩ := usedR_mem.1 hu
      obtain ⟨j, g1, g2⟩ := mem_sel rows 0 hq
      exact absurd htq (hn q (sel_mem rows 0 g1 (by simp only [addT]; simp only [Nat.zero_add] at g2 ⊢; rw [g2]; simp)))
  have hdn : (dropAll (stR true (sel rows T 0) env0) r.used r.d).isOwner = false := by
    rcases dropAll_cases r.used (stR true (sel rows T 0) env0) r.d with h | h
    · rw [h]; rfl
    · rw [h]
      rcases stR_cases true (sel rows T 0) env0 r.d with k | ⟨k, _, _⟩
      · rw [k]; rfl
      · rw [k]; unfold baseR; rw [ht.look_none hr hTi]; exact hfr
  have hput : ∀ t, put (dropAll (stR true (sel rows T 0) env0) r.used) r.d (r.ent true) t = if t = r.d then r.ent true else dropAll (stR true (sel rows T 0) env0) r.used t := by
    intro t
    unfold put
    rw [hdn]
    simp only [cond_false]
    by_cases h : t = r.d
    · subst h; rw [upd_same, if_pos rfl]
    · rw [upd_ne _ _ h, if_neg h]
  have hb : ∀ t, baseR true (sel rows (addT T i) 0) env0 t = if t = r.d then r.ent true else baseR true (sel rows T 0) env0 t := by
    intro t
    by_cases h : t = r.d
    · subst h; unfold baseR; rw [ht.look hr hTi', if_pos rfl]
    · unfold baseR; rw [hlk t h, if_neg h]
  -- what is known behind it is what is known by the step
  have key : ∀ t, stR true (sel rows (addT T i) 0) env0 t = put (dropAll (stR true (sel rows T 0) env0) r.used) r.d (r.ent true) t ∨ stR true (sel rows (addT T i) 0) env0 t = .dead := by
    intro t
    rcases stR_cases true (sel rows (addT T i) 0) env0 t with k | ⟨k, k2, k3⟩
    · exact .inr k
    · left
      rw [k, hput, hb]
      by_cases h : t = r.d
      · rw [if_pos h, if_pos h]
      · rw [if_neg h, if_neg h]
        rw [hb, if_neg h] at k3
        have e1 : stR true (sel rows T 0) env0 t = baseR true (sel rows T 0) env0 t := stR_base (hus t k2).2 (fun q hq => (hus q (k3 q hq)).2)
        rw [dropAll_keep r.used _ t (hus t k2).1 (fun q hq => (hus q (k3 q (e1 ▸ hq))).1), e1]
  refine hi.weaken key ?_
  intro t q hq
  rcases key t with h | h
  · have ho := (hi.ent t).root_owner (r := q) (by rw [← h]; exact hq)
    have hu : usedR (sel rows (addT T i) 0) q = false := by
      rcases stR_cases true (sel rows (addT T i) 0) env0 t with k | ⟨k, k2, k3⟩
      · rw [k] at hq; cases hq
      · exact k3 q (by rw [← k]; exact hq)
    have hbq : baseR true (sel rows (addT T i) 0) env0 q = put (dropAll (stR true (sel rows T 0) env0) r.used) r.d (r.ent true) q := by
      rw [hb, hput]
      rw [hput] at ho
      by_cases hqd : q = r.d
      · rw [if_pos hqd, if_pos hqd]
      · rw [if_neg hqd, if_neg hqd]
        rw [if_neg hqd] at ho
        rcases dropAll_cases r.used (stR true (sel rows T 0) env0) q with h' | h'
        · rw [h'] at ho; cases ho
        · rw [h'] at ho ⊢
          rcases stR_cases true (sel rows T 0) env0 q with k | ⟨k, _, _⟩
          · rw [k] at ho; cases ho
          · exact k.symm
    rw [← hbq]
    refine stR_base hu ?_
    intro q' hq'
    rw [hbq, Ent.owner_root ho] at hq'; cases hq'
  · rw [h] at hq; cases hq
end
end Go.Lf
namespace Go.Lf

section
variable {pd : Bool} {P : Program} {C : Ctx} {w0 : World} {F0 H : NSet} {env0 : St} {ops : Array Oper} {rows : List Row} {Q : Exit → Act → World → Prop}

theorem View.val_bool {v : View} {b : Bool} {p : Bool} (h : v.val = some ⟨.bool, b⟩) (he : v.e = .shr .bool p) : p = b := by
  unfold View.val at h
  rw [he] at h
  simp only [Option.some.injEq] at h
  injection h with _ h

theorem VOK_of {F : NSet} {w : World} {env : St} {a : Act} {S : Nat → NSet} {op : Op} {f : Operand → View} (hp : ∀ c x y, op ≠ .pick c x y)
    (h : ∀ z ∈ op.operands, ViewOK P F w env (fun t => a.tmps.getD t undef) S (a.eval z) (f z)) : VOK P F w env a S op f := by
  unfold VOK
  split
  · exact absurd rfl (hp _ _ _)
  · exact h

theorem chB_of {l : List Row} {ch : List (Nat × Bool)} {op : Op} (hp : ∀ c x y, op ≠ .pick c x y) (h : chB l ch op = true) : allB l ch op.operands.toList = true := by
  unfold chB at h
  split at h
  · exact absurd rfl (hp _ _ _)
  · exact h

theorem pendE_wr {o : Oper} {d : Nat} {f : Operand → View} {x : Prop × Ent × List Nat × Nat × Path} (hd : o.dst = some d) (h : pendE C o f = some x) : Wr C.np d := by
  unfold pendE at h
  split at h
  · rename_i d' q hd' hop
    rw [hd] at hd'; injection hd' with hd'; subst hd'
    split at h
    · cases hb : wrB C d
      · rw [hb] at h; cases h
      · exact wrB_iff hb
    · cases h
  · cases h

/-- append on an alias, in whatever order it comes up. -/
theorem pendE_ok (hC : CtxOK P C) {env : St} {a : Act} {w : World} {F : NSet} {S : Nat → NSet} (hi : Inv0 P C.np w0 F0 H env a w F S) {o : Oper} {d : Nat} (hd : o.dst = some d) {f : Operand → View} (hv : VOK P F w env a S o.op f)
    {c : Prop} {e : Ent} {l : List Nat} {r : Nat} {p : Path} (h : pendE C o f = some (c, e, l, r, p)) (hc : c) (hok : ∀ t, allowP r p (dropAll env l t)) : StepOK P C.np w0 F0 H a w o d (put (dropAll env l) d e) := by
  have hwr := pendE_wr hd h
  unfold pendE at h
  split at h
  · rename_i d' q hd' hop
    rw [hd] at hd'; injection hd' with hd'; subst hd'
    rw [hop] at hv
    obtain ⟨callee, args, ts⟩ := q
    split at h
    · rename_i x y T T2 hcal hargs hts
      cases hb : wrB C d
      · rw [hb] at h; cases h
      rw [hb] at h
      simp only [cond_true] at h
      have e1 : args = #[x, y] := by apply Array.ext'; simpa using hargs
      have e2 : ts = #[T, T2] := by apply Array.ext'; simpa using hts
      subst e1; subst e2; subst hcal
      have hv : ∀ z ∈ Op.operands (.call { callee := .builtin .append, args := #[x, y], argTypes := #[T, T2] }), ViewOK P F w env (fun t => a.tmps.getD t undef) S (a.eval z) (f z) := hv
      have hx := hv x (by simp [Op.operands, Call.operands])
      have hy := hv y (by simp [Op.operands, Call.operands])
      split at h
      · rename_i e e2 r p al hT hT2 he hs
        obtain ⟨σ, z, μ, pl, S0, cs, pl', cs', hA, hrd, hvv⟩ := sub?_ok hi hx hs
        split at h
        · rename_i e' xs' me hg hm
          split at h
          · rename_i xs ys l hcast hsrc
            cases hn : (nodupN (al.r :: l) && !Nat.beq d al.r)
            · rw [hn] at h; cases h
            rw [hn] at h
            simp only [cond_true, Option.some.injEq, Prod.mk.injEq] at h
            obtain ⟨rfl, rfl, rfl, rfl, rfl⟩ := h
            simp only [Bool.and_eq_true, Bool.not_eq_true'] at hn
            have hdr : d ≠ al.r := fun h => by rw [nbeq_iff.2 h] at hn; exact absurd hn.2 (by simp)
            obtain ⟨rfl, rfl⟩ := castD_slice hcast
            have e3 := hA.get.symm.trans hg
            simp only [Option.some.injEq, Sigma.mk.injEq] at e3
            obtain ⟨rfl, e3⟩ := e3; cases e3
            have e4 := hA.mode.symm.trans hm
            simp only [Option.some.injEq] at e4; subst e4
            obtain ⟨ao2, n2, cap2, cs2, Si2, me', q2, hm2⟩ := srcE_ok hi hy hsrc
            obtain ⟨v, w', F2, S2, k1, k2⟩ := appE_coreN (ty := o.type) hC hi hwr hT hT2 hA hrd (q2.fix hm2) hn.1 hdr (by simpa using hc) hok
            intro K Q hK
            unfold Oper.wp
            have hrun : (execOp a.eval o).run P w = .ok (.value v) w' := by
              simp only [execOp, hop, resolve, invoke, builtin, Sem.run_bind, Sem.run_pure, Result.andThen, List.map_toArray, List.map_cons, List.map_nil]
              rw [hvv, k1]
            rw [hrun, Oper.upon_value, hd]
            exact hK v w' F2 S2 k2
          · cases h
        · cases h
      · cases h
    · cases h
  · cases h

/-- The second table says what the first one does, but for some slots that the row does not read. -/
structure Pat (rows rows' : List Row) (i : Nat) (r : Row) : Prop where
  len : rows'.length = rows.length
  same : ∀ (j : Nat) (q q' : Row), rows[j]? = some q → rows'[j]? = some q' → q'.d = q.d ∧ q'.used = q.used ∧ q'.gb = q.gb ∧ (q.d ∈ r.rs → q' = q)

theorem Pat.refl (rows : List Row) (i : Nat) (r : Row) : Pat rows rows i r :=
  ⟨rfl, fun j q q' h h' => by rw [h] at h'; injection h' with h'; subst h'; exact ⟨rfl, rfl, rfl, fun _ => rfl⟩⟩
theorem Pat.get {rows rows' : List Row} {i : Nat} {r : Row} (h : Pat rows rows' i r) {j : Nat} {q : Row} (hq : rows[j]? = some q) : ∃ q', rows'[j]? = some q' ∧ q'.d = q.d ∧ q'.used = q.used ∧ q'.gb = q.gb ∧ (q.d ∈ r.rs → q' = q) := by
  have hj : j < rows'.length := by
    rw [h.len]
    rcases Nat.lt_or_ge j rows.length with h | h
    · exact h
    · rw [List.getElem?_eq_none h] at hq; cases hq
  exact ⟨rows'[j], List.getElem?_eq_getElem hj, h.same j q _ hq (List.getElem?_eq_getElem hj)⟩
theorem Pat.back {rows rows' : List Row} {i : Nat} {r : Row} (h : Pat rows rows' i r) {j : Nat} {q' : Row} (hq : rows'[j]? = some q') : ∃ q, rows[j]? = some q ∧ q'.d = q.d ∧ q'.used = q.used ∧ q'.gb = q.gb := by
  have hj : j < rows.length := by
    rw [← h.len]
    rcases Nat.lt_or_ge j rows'.length with h | h
    · exact h
    · rw [List.getElem?_eq_none h] at hq; cases hq
  have := h.same j _ q' (List.getElem?_eq_getElem hj) hq
  exact ⟨rows[j], List.getElem?_eq_getElem hj, this.1, this.2.1, this.2.2.1⟩
theorem Pat.ud {rows rows' : List Row} {i : Nat} {r : Row} (h : Pat rows rows' i r) (hu : UD rows) : UD rows' := by
  intro a b x y hx hy hd
  obtain ⟨x', h1, h2, _⟩ := h.back hx
  obtain ⟨y', h3, h4, _⟩ := h.back hy
  exact hu a b x' y' h1 h3 (by rw [← h2, ← h4]; exact hd)

theorem wanted_ok {rows' : List Row} (ht : Tab pd C env0 ops rows) {T : Nat → Bool} {i : Nat} {r : Row} {o : Oper} (hr : rows[i]? = some r) (hf : RowFacts pd C env0 (rows.take i) o r) (hg : ∀ g b, o.guard = some (g, b) → T g = true)
    (hpat : Pat rows rows' i r) (hsame : ∀ s ∈ r.rs, Same (sel rows' T 0) (rows.take i) s) {a : Act} {w : World} {F : NSet} {S : Nat → NSet} (hi : Inv0 P C.np w0 F0 H (stR true (sel rows' T 0) env0) a w F S)
    (hund : ∀ j q, rows'[j]? = some q → T j = true → q.gb = false → a.tmps.getD q.d undef = undef) : Region.wanted o (yielded ops a.tmps) = r.gb := by
  obtain ⟨gs, h1, hrs⟩ := hf.guard
  unfold Region.wanted
  cases hog : o.guard with
  | none =>
    rw [hog] at h1
    simp only [guardR, Option.some.injEq, Prod.mk.injEq] at h1
    exact h1.1
  | some gb =>
    obtain ⟨g, b⟩ := gb
    rw [hog] at h1
    simp only [guardR] at h1
    split at h1
    · rename_i q hq
      split at h1
      · rename_i p hp
        cases hu : usedR (rows.take i) q.d
        · rw [hu] at h1
          simp only [cond_false, Option.some.injEq, Prod.mk.injEq] at h1
          obtain ⟨e1, e2, e3⟩ := h1
          have hgi : g < i := by
            rw [List.getElem?_take] at hq
            split at hq
            · assumption
            · cases hq
          rw [List.getElem?_take, if_pos hgi] at hq
          obtain ⟨og, hog2, hfg⟩ := ht.facts hq
          have hTg := hg g b hog
          have hqr : q.d ∈ r.rs := by rw [hrs, ← e3]; simp
          have hs : Same (sel rows' T 0) (rows.take i) q.d := hsame q.d hqr
          have hq' : rows'[g]? = some q := by
            obtain ⟨q', g1, _, _, _, g2⟩ := hpat.get hq
            rw [← g2 hqr]; exact g1
          have hlook := (hpat.ud ht.ud).look hq' hTg
          have hy : yielded ops a.tmps g = match a.tmps.getD q.d undef with
            | .bool b => some b
            | _ => none := by
            unfold yielded
            rw [hog2]
            simp only [Option.bind_some, hfg.dst, Array.getD_eq_getD_getElem?]
            cases ht' : a.tmps[q.d]? with
            | none => rfl
            | some v => cases v <;> rfl
          simp only []
          rw [hy]
          cases hqg : q.gb
          · rw [hund g q hq' hTg hqg]
            rw [← e1, hqg]; rfl
          · have hst : stR true (sel rows' T 0) env0 q.d = .shr .bool p := by
              have hb : baseR true (sel rows' T 0) env0 q.d = .shr .bool p := by
                unfold baseR; rw [hlook]; simp only [Row.ent, cond_true, hqg, hp]
              rw [stR_base (hs.2.trans hu) (by rw [hb]; intro q hq; cases hq), hb]
            have he := hi.ent q.d
            rw [hst] at he
            have he : OwnV F w .bool .shr none' (a.tmps.getD q.d undef) p := he
            rw [he.bool_eq, ← e1, hqg]
            cases p <;> cases b <;> rfl
        · rw [hu] at h1; cases h1
      · cases h1
    · cases h1

theorem row_okP {rows' : List Row} (hC : CtxOK P C) (ht : Tab pd C env0 ops rows) {T : Nat → Bool} {i : Nat} {r : Row} {o : Oper} (hr : rows[i]? = some r) (hTi : T i = false) (ho : ops[i]? = some o) (hg : ∀ g b, o.guard = some (g, b) → T g = true)
    (hpat : Pat rows rows' i r) (hr' : rows'[i]? = some r) (hall : ∀ r0 p0, r.pd = some (r0, p0) → ∀ t, allowP r0 p0 (stR true (sel rows' T 0) env0 t)) (hag : ∀ s ∈ r.rs, ∀ j q, rows[j]? = some q → q.d = s ∨ s ∈ q.used → T j = Nat.blt j i) :
    ∀ a w, InvT P C w0 F0 H env0 rows' T a w → wpOp P ops Q i (InvT P C w0 F0 H env0 rows' (addT T i)) a w := by
  intro a w hJ
  obtain ⟨F, S, hi, hund⟩ := hJ
  obtain ⟨o', ho', hf⟩ := ht.facts hr
  rw [ho] at ho'; injection ho' with ho'; subst ho'
  have hsame : ∀ s ∈ r.rs, Same (sel rows' T 0) (rows.take i) s := by
    intro s hs
    rw [sel_take rows i 0]
    refine ⟨(lookR_congr2 rows rows' 0 hpat.len fun j q q' hq hq' => ?_).symm, (usedR_congr2 rows rows' 0 hpat.len fun j q q' hq hq' => ?_).symm⟩
    · obtain ⟨g1, g2, g3, g4⟩ := hpat.same j q q' hq hq'
      exact ⟨g1, fun hd => ⟨by have := hag s hs j q hq (.inl hd); simpa using this.symm, g4 (hd ▸ hs)⟩⟩
    · obtain ⟨g1, g2, g3, g4⟩ := hpat.same j q q' hq hq'
      exact ⟨g2, fun hd => by have := hag s hs j q hq (.inr hd); simpa using this.symm⟩
  have hud := hpat.ud ht.ud
  have hw := wanted_ok ht hr hf hg hpat hsame hi hund
  obtain ⟨gs, hgd, hrs⟩ := hf.guard
  -- the frame's other facts
  have hund' : ∀ (v : Value), (r.gb = false → v = undef) → Wr C.np r.d → ∀ j q, rows'[j]? = some q → addT T i j = true → q.gb = false → (a.put (some r.d) v).tmps.getD q.d undef = undef := by
    intro v hv hd j q hq hT hqg
    rw [Act.getD_put (by rw [hi.slots.size]; exact hd.1)]
    by_cases hj : j = i
    · subst hj
      rw [hr'] at hq; injection hq with hq; subst hq
      rw [if_pos rfl]; exact hv hqg
    · have : q.d ≠ r.d := fun h => hj (hud _ _ _ _ hq hr' h)
      rw [if_neg this]
      simp only [addT, nbeq_ne hj, Bool.false_or] at hT
      exact hund j q hq hT hqg
  have hdN : Wr C.np r.d := by
    rcases hf.op with ⟨c, hop, _⟩ | ⟨c, r0, p0, _, hop, _⟩
    · unfold opE at hop
      rw [hf.dst] at hop
      simp only [] at hop
      cases hb : wrB C r.d
      · rw [hb] at hop; cases hop
      · exact wrB_iff hb
    · exact pendE_wr hf.dst hop
  unfold wpOp
  rw [ho]
  simp only []
  rw [hw]
  cases hgb : r.gb
  · simp only [Bool.false_eq_true, if_false]
    rw [hf.dst]
    refine ⟨F, _, step_weaken hud hr' hTi hf.fresh (S := fun t => if t = r.d then none' else S t) ?_, hund' undef (fun _ => rfl) hdN⟩
    have hch : r.ch ≠ [] := by
      intro h
      have := (ht.gb i hr).2 (by rw [h]; intro x hx; cases hx)
      rw [hgb] at this; cases this
    have hus : r.used = [] := (hf.cond.resolve_left hch).1
    have he : r.ent true = .dead := by simp [Row.ent, hgb]
    rw [hus, he]
    exact hi.putSimple hdN rfl (fun h => by cases h) trivial
  · simp only [if_true]
    left
    have hHolds : ∀ x ∈ r.ch, Holds rows x := (ht.gb i hr).1 hgb
    have hview : ∀ z, (∀ s, z = .tmp s → .tmp s ∈ o.op.operands) → FillOK (rows.take i) z →
        ViewOK P F w (stR true (sel rows' T 0) env0) (fun t => a.tmps.getD t undef) S (a.eval z) (viewO (stR false (rows.take i) env0) z) := by
      intro z hz hfill
      refine viewT_ok hi hfill ?_
      intro s hs
      have hm := slotsE_mem (st := stR false (rows.take i) env0) (s := s) (l := o.op.operands.toList) (by simpa using hz s hs)
      exact ⟨hsame s (by rw [hrs]; simp [hm.1]), fun q hq => hsame q (by rw [hrs]; simp [hm.2 q hq])⟩
    have hv : VOK P F w (stR true (sel rows' T 0) env0) a S o.op (viewO (stR false (rows.take i) env0)) := by
      by_cases hp : ∃ c x y, o.op = .pick c x y
      · obtain ⟨c, x, y, hp⟩ := hp
        have hB := hf.opd
        rw [hp] at hB
        simp only [chB, pickB, Bool.and_eq_true, Bool.or_eq_true] at hB
        obtain ⟨hc, hxy⟩ := hB
        have hz : ∀ z, z = c ∨ z = x ∨ z = y → ∀ s, z = .tmp s → Operand.tmp s ∈ o.op.operands := by
          intro z hz s hs
          rw [hp]
          simp only [Op.operands, List.mem_toArray, List.mem_cons, List.not_mem_nil, or_false]
          subst hs
          rcases hz with rfl | rfl | rfl <;> simp
        rw [hp]
        refine ⟨hview c (hz c (.inl rfl)) (ht.fill hc hHolds), ?_, ?_⟩
        · intro b hb hbt
          refine hview x (hz x (.inr (.inl rfl))) ?_
          rcases hxy with hxy | hxy
          · exact ht.fill hxy.1 hHolds
          · split at hxy
            · rename_i s
              split at hxy
              · rename_i j q hq
                split at hxy
                · rename_i p hpe
                  obtain ⟨_, q2, q3⟩ := idxR_ok hq
                  simp only [Bool.and_eq_true] at hxy
                  refine ht.fill hxy.1 ?_
                  intro u hu
                  rcases List.mem_cons.1 hu with rfl | hu
                  · refine ⟨q, ?_, ?_⟩
                    · simp only [Nat.sub_zero, List.getElem?_take] at q2
                      split at q2
                      · exact q2
                      · cases q2
                    · rcases stR_cases false (rows.take i) env0 s with k | ⟨k, _, _⟩
                      · simp only [viewO, k, View.val] at hb; cases hb
                      · have : stR false (rows.take i) env0 s = .shr .bool p := by
                          rw [k]; unfold baseR; rw [q3]; simp only [Row.ent, cond_false, hpe]
                        have := View.val_bool hb this
                        rw [hpe, this, hbt]
                  · exact hHolds u hu
                · cases hxy
              · cases hxy
            · cases hxy
        · intro b hb hbt
          refine hview y (hz y (.inr (.inr rfl))) ?_
          rcases hxy with hxy | hxy
          · exact ht.fill hxy.2 hHolds
          · split at hxy
            · rename_i s
              split at hxy
              · rename_i j q hq
                split at hxy
                · rename_i p hpe
                  obtain ⟨_, q2, q3⟩ := idxR_ok hq
                  simp only [Bool.and_eq_true] at hxy
                  refine ht.fill hxy.2 ?_
                  intro u hu
                  rcases List.mem_cons.1 hu with rfl | hu
                  · refine ⟨q, ?_, ?_⟩
                    · simp only [Nat.sub_zero, List.getElem?_take] at q2
                      split at q2
                      · exact q2
                      · cases q2
                    · rcases stR_cases false (rows.take i) env0 s with k | ⟨k, _, _⟩
                      · simp only [viewO, k, View.val] at hb; cases hb
                      · have : stR false (rows.take i) env0 s = .shr .bool p := by
                          rw [k]; unfold baseR; rw [q3]; simp only [Row.ent, cond_false, hpe]
                        have := View.val_bool hb this
                        rw [hpe, this, hbt]
                  · exact hHolds u hu
                · cases hxy
              · cases hxy
            · cases hxy
      · have hp' : ∀ c x y, o.op ≠ .pick c x y := fun c x y h => hp ⟨c, x, y, h⟩
        refine VOK_of hp' ?_
        intro z hz
        have hB := allB_ok (chB_of hp' hf.opd) z (by simpa using hz)
        exact hview z (fun s hs => hs ▸ hz) (ht.fill hB hHolds)
    have he : r.ent true = r.e := by simp [Row.ent, hgb]
    rcases hf.op with ⟨c, hop, hc, _⟩ | ⟨c, r0, p0, _, hop, hc, hpd⟩
    · obtain ⟨d, hd1, hd2, hstep⟩ := opE_ok hC hi hv hop (hc hgb)
      rw [hf.dst] at hd1; injection hd1 with hd1; subst hd1
      refine hstep _ Q ?_
      intro v w' F2 S2 h2
      refine ⟨F2, S2, step_weaken hud hr' hTi hf.fresh ?_, hund' v (fun h => by rw [hgb] at h; cases h) hdN⟩
      rw [he]; exact h2
    · refine pendE_ok hC hi hf.dst hv hop hc ?_ _ Q ?_
      · intro t
        rcases dropAll_cases r.used (stR true (sel rows' T 0) env0) t with h | h
        · rw [h]; trivial
        · rw [h]; exact hall r0 p0 hpd t
      · intro v w' F2 S2 h2
        refine ⟨F2, S2, step_weaken hud hr' hTi hf.fresh ?_, hund' v (fun h => by rw [hgb] at h; cases h) hdN⟩
        rw [he]; exact h2

theorem row_ok (hC : CtxOK P C) (ht : Tab pd C env0 ops rows) {T : Nat → Bool} {i : Nat} {r : Row} {o : Oper} (hr : rows[i]? = some r) (hTi : T i = false) (ho : ops[i]? = some o) (hg : ∀ g b, o.guard = some (g, b) → T g = true)
    (hall : ∀ r0 p0, r.pd = some (r0, p0) → ∀ t, allowP r0 p0 (stR true (sel rows T 0) env0 t)) (hag : ∀ s ∈ r.rs, ∀ j q, rows[j]? = some q → q.d = s ∨ s ∈ q.used → T j = Nat.blt j i) :
    StepJ P ops Q (InvT P C w0 F0 H env0 rows) T i := row_okP hC ht hr hTi ho hg (.refl rows i r) hr hall hag
end
end Go.Lf
namespace Go.Lf

/-- What is known behind the table: of what is guarded, nothing. -/
def stF (rows : List Row) (env0 : St) : St := fun t => match lookR rows t with
  | some r => bif isNilL r.ch then stR false rows env0 t else .dead
  | none => stR false rows env0 t

def tailE (stp : St → Oper → Option (Prop × St)) : St → List Oper → Option (Prop × St)
  | st, [] => some (True, st)
  | st, o :: l => bif isNone o.guard then (match stp st o with
    | some (c, st1) => match tailE stp st1 l with
      | some (c', st2) => some (c ∧ c', st2)
      | none => none
    | none => none) else none

def andP (c : Prop) : Option (Prop × St) → Option (Prop × St)
  | some (c', st) => some (c ∧ c', st)
  | none => none

def drawB (ops : List Oper) (anc : List Nat) (rows : List Row) (tail : List Oper) : Bool :=
  lowB ops 0 && gdB anc ops 0 && raceB anc rows rows 0 && tailB anc tail rows.length

def regionE (C : Ctx) (stp : St → Oper → Option (Prop × St)) (draw : Bool) (st : St) (ops : List Oper) : Option (Prop × St) :=
  match genRows false C st ops [] with
  | (c, rows, tail) => bif !draw || drawB ops (ancB ops) rows tail then andP c (tailE stp (stF rows st) tail) else none

/-- A step of a tail is sound. -/
def StpOK (P : Program) (C : Ctx) (stp : St → Oper → Option (Prop × St)) : Prop :=
  ∀ {w0 : World} {F0 H : NSet} {env env' : St} {a : Act} {w : World} {o : Oper} {c : Prop}, Inv P C.np w0 F0 H env a w → stp env o = some (c, env') → c →
    ∀ (K : Act → World → Prop) (Q : Exit → Act → World → Prop), (∀ a' w', Inv P C.np w0 F0 H env' a' w' → K a' w') → o.wp P a w K Q

section
variable {pd : Bool} {P : Program} {C : Ctx} {w0 : World} {F0 H : NSet} {env0 : St} {ops : Array Oper} {rows : List Row} {Q : Exit → Act → World → Prop}

theorem raceB1_ok {anc : List Nat} {r : Row} {i : Nat} : ∀ {l : List Row} {k : Nat}, raceB1 anc r i l k = true → ∀ j q, l[j]? = some q → touchB q r.rs = true →
    k + j = i ∨ (anc.getD i 0).testBit (k + j) = true ∨ (anc.getD (k + j) 0).testBit i = true
  | [], _, _, j, q, h, _ => by simp at h
  | p :: l, k, h, j, q, hq, ht => by
    simp only [raceB1, Bool.and_eq_true, Bool.or_eq_true, Bool.not_eq_true'] at h
    cases j with
    | zero =>
      simp at hq; subst hq
      simp only [Nat.add_zero]
      rcases h.1 with ((h1 | h1) | h1) | h1
      · exact .inl (nbeq_iff.1 h1)
      · rw [ht] at h1; cases h1
      · exact .inr (.inl h1)
      · exact .inr (.inr h1)
    | succ j =>
      have := raceB1_ok h.2 j q (by simpa using hq) ht
      simpa [Nat.add_assoc, Nat.add_comm 1 j] using this

theorem raceB_ok {anc : List Nat} {rows : List Row} : ∀ {l : List Row} {k : Nat}, raceB anc rows l k = true → ∀ i r, l[i]? = some r → raceB1 anc r (k + i) rows 0 = true
  | [], _, _, i, r, h => by simp at h
  | p :: l, k, h, i, r, hr => by
    simp only [raceB, Bool.and_eq_true] at h
    cases i with
    | zero => simp at hr; subst hr; simpa using h.1
    | succ i =>
      have := raceB_ok h.2 i r (by simpa using hr)
      simpa [Nat.add_assoc, Nat.add_comm 1 i] using this

theorem gdB_ok {anc : List Nat} : ∀ {l : List Oper} {k : Nat}, gdB anc l k = true → ∀ i o g b, l[i]? = some o → o.guard = some (g, b) → (anc.getD (k + i) 0).testBit g = true
  | [], _, _, i, o, g, b, h, _ => by simp at h
  | p :: l, k, h, i, o, g, b, ho, hg => by
    simp only [gdB, Bool.and_eq_true] at h
    cases i with
    | zero =>
      simp at ho; subst ho
      have := h.1
      rw [hg] at this
      simpa using this
    | succ i =>
      have := gdB_ok h.2 i o g b (by simpa using ho) hg
      simpa [Nat.add_assoc, Nat.add_comm 1 i] using this

theorem tailB_ok {anc : List Nat} : ∀ {l : List Oper} {k : Nat}, tailB anc l k = true → ∀ i, i < l.length → ∀ j, j < k + i → (anc.getD (k + i) 0).testBit j = true
  | [], _, _, i, hi, _, _ => by simp at hi
  | p :: l, k, h, i, hi, j, hj => by
    simp only [tailB, Bool.and_eq_true] at h
    cases i with
    | zero =>
      simp only [Nat.add_zero] at hj ⊢
      have h1 := nbeq_iff.1 h.1
      have h2 : (2 ^ k - 1).testBit j = true := by rw [Nat.testBit_two_pow_sub_one]; exact decide_eq_true hj
      rw [← h1] at h2
      have h3 : ((anc.getD k 0) &&& (2 ^ k - 1)).testBit j = true := h2
      rw [Nat.testBit_and, Bool.and_eq_true] at h3
      exact h3.1
    | succ i =>
      have := tailB_ok h.2 i (by simpa using hi) j (by omega)
      simpa [Nat.add_assoc, Nat.add_comm 1 i] using this

theorem touchB_of {q : Row} {s : Nat} : ∀ {l : List Nat}, s ∈ l → (q.d = s ∨ s ∈ q.used) → touchB q l = true
  | x :: l, h, hq => by
    simp only [touchB, Bool.or_eq_true]
    rcases List.mem_cons.1 h with rfl | h
    · exact .inl (hq.imp nbeq_iff.2 memN_mem.2)
    · exact .inr (touchB_of h hq)

theorem reach_lt (hlow : ∀ i k, Waits ops i k → k < i) {i k : Nat} (h : Reach ops i k) : k < i := by
  induction h with
  | one h => exact hlow _ _ h
  | more h _ ih => exact Nat.lt_trans ih (hlow _ _ h)

/-- Behind the table. -/
theorem InvT.doneG (hg1 : ∀ (i : Nat) (r : Row), rows[i]? = some r → r.ch = [] → r.gb = true) (hg2 : ∀ (i : Nat) (r : Row), rows[i]? = some r → r.ch = [] ∨ r.e.isOwner = false) {T : Nat → Bool} (hT : ∀ j, j < rows.length → T j = true) {a : Act} {w : World} (h : InvT P C w0 F0 H env0 rows T a w) : Inv P C.np w0 F0 H (stF rows env0) a w := by
  obtain ⟨F, S, hi, _⟩ := h
  rw [sel_all rows 0 (fun j hj => by simpa using hT j hj)] at hi
  refine ⟨F, S, ?_⟩
  have hfact : ∀ (t : Nat) (r : Row), lookR rows t = some r → ∃ i : Nat, rows[i]? = some r ∧ r.d = t := by
    intro t r h
    obtain ⟨h1, h2⟩ := lookR_mem h
    obtain ⟨i, hi⟩ := List.mem_iff_getElem?.1 h1
    exact ⟨i, hi, h2⟩
  have hgb : ∀ (t : Nat) (r : Row), lookR rows t = some r → isNilL r.ch = true → r.ent true = r.ent false := by
    intro t r h hch
    obtain ⟨i, h1, h2⟩ := hfact t r h
    have : r.gb = true := hg1 i r h1 (isNilL_iff.1 hch)
    simp [Row.ent, this]
  have hfalse : ∀ t, (∀ r, lookR rows t = some r → isNilL r.ch = true) → stR false rows env0 t = stR true rows env0 t := by
    intro t h
    have : baseR false rows env0 t = baseR true rows env0 t := by
      unfold baseR
      cases hl : lookR rows t with
      | none => rfl
      | some r => exact (hgb t r hl (h r hl)).symm
    unfold stR
    rw [this]
  have key : ∀ t, stF rows env0 t = stR true rows env0 t ∨ stF rows env0 t = .dead := by
    intro t
    unfold stF
    cases hl : lookR rows t with
    | none => simp only []; exact .inl (hfalse t (fun r h => by rw [hl] at h; cases h))
    | some r =>
      simp only []
      cases hch : isNilL r.ch
      · exact .inr rfl
      · exact .inl (hfalse t (fun r' h => by rw [hl] at h; injection h with h; subst h; exact hch))
  refine hi.weaken key ?_
  intro t q hq
  have ho : (stR true rows env0 q).isOwner = true := by
    rcases key t with h | h
    · exact (hi.ent t).root_owner (r := q) (by rw [← h]; exact hq)
    · rw [h] at hq; cases hq
  have hch : ∀ r, lookR rows q = some r → isNilL r.ch = true := by
    intro r hl
    obtain ⟨i, h1, h2⟩ := hfact q r hl
    rcases hg2 i r h1 with h | h
    · exact isNilL_iff.2 h
    · exfalso
      rcases stR_cases true rows env0 q with k | ⟨k, _, _⟩
      · rw [k] at ho; cases ho
      · rw [k] at ho
        unfold baseR at ho
        rw [hl] at ho
        simp only [Row.ent, cond_true] at ho
        cases hg : r.gb
        · rw [hg] at ho; cases ho
        · rw [hg] at ho; simp only [cond_true] at ho; rw [h] at ho; cases ho
  unfold stF
  cases hl : lookR rows q with
  | none => simp only []; exact hfalse q hch
  | some r => simp only [hch r hl, cond_true]; exact hfalse q hch

theorem InvT.done (ht : Tab pd C env0 ops rows) {T : Nat → Bool} (hT : ∀ j, j < rows.length → T j = true) {a : Act} {w : World} (h : InvT P C w0 F0 H env0 rows T a w) : Inv P C.np w0 F0 H (stF rows env0) a w := by
  refine h.doneG (fun i r hr hch => (ht.gb i hr).2 (by rw [hch]; intro x hx; cases hx)) (fun i r hr => ?_) hT
  obtain ⟨o, _, hf⟩ := ht.facts hr
  exact hf.cond.imp id (fun h => h.2)

theorem tailE_cons {stp : St → Oper → Option (Prop × St)} {st st' : St} {o : Oper} {l : List Oper} {c : Prop} (h : tailE stp st (o :: l) = some (c, st')) (hc : c) :
    o.guard = none ∧ ∃ c1 st1 c2, stp st o = some (c1, st1) ∧ c1 ∧ tailE stp st1 l = some (c2, st') ∧ c2 := by
  simp only [tailE] at h
  cases hg : isNone o.guard
  · rw [hg] at h; cases h
  rw [hg] at h
  simp only [cond_true] at h
  split at h
  · rename_i c1 st1 h1
    split at h
    · rename_i c2 st2 h2
      simp only [Option.some.injEq, Prod.mk.injEq] at h
      obtain ⟨rfl, rfl⟩ := h
      exact ⟨isNone_iff.1 hg, c1, st1, c2, h1, hc.1, h2, hc.2⟩
    · cases h
  · cases h

theorem region_core (hC : CtxOK P C) {stp : St → Oper → Option (Prop × St)} (hstp : StpOK P C stp) {id : Nat} {draw : Bool} {c1 c2 : Prop} {rows : List Row} {tail : List Oper} {st2 : St}
    (hgen : genRows pd C env0 ops.toList [] = (c1, rows, tail)) (hc1 : c1) (hB : (!draw || drawB ops.toList (ancB ops.toList) rows tail) = true) (htl : tailE stp (stF rows env0) tail = some (c2, st2)) (hc2 : c2)
    (hall : ∀ i r r0 p0, rows[i]? = some r → r.pd = some (r0, p0) → ∀ T : Nat → Bool, T i = false → ∀ t, allowP r0 p0 (stR true (sel rows T 0) env0 t))
    {a : Act} {w : World} (hi : Inv P C.np w0 F0 H env0 a w) (hQ : ∀ a' w', Inv P C.np w0 F0 H st2 a' w' → Q .normal a' w') : (Code.region id ops draw).wp P Q a w := by
    obtain ⟨ht, htail⟩ := genRows_ok (ops := ops) ops.toList [] hgen hc1 (by simp) (fun i r hr => by simp at hr)
    have htd : tail = ops.toList.drop rows.length := by
      apply List.ext_getElem?
      intro j
      rw [htail j]; simp
    have hlen : rows.length ≤ ops.size := by
      rcases Nat.lt_or_ge ops.size rows.length with h | h
      · obtain ⟨o, ho, _⟩ := ht.facts (List.getElem?_eq_getElem h)
        simp at ho
      · exact h
    have hdB : draw = true → lowB ops.toList 0 = true ∧ gdB (ancB ops.toList) ops.toList 0 = true ∧ raceB (ancB ops.toList) rows rows 0 = true ∧ tailB (ancB ops.toList) tail rows.length = true := by
      intro hd
      subst hd
      simp only [Bool.not_true, Bool.false_or, drawB, Bool.and_eq_true] at hB
      exact ⟨hB.1.1.1, hB.1.1.2, hB.1.2, hB.2⟩
    have hlow : draw = true → ∀ i k, Waits ops i k → k < i := fun hd i k hw => lowB_ok ops.toList 0 (by simp) (hdB hd).1 i k (Nat.zero_le i) hw
    have hanc : ∀ {j k : Nat}, ((ancB ops.toList).getD j 0).testBit k = true → Reach ops j k := by
      intro j k h
      have := ancB_ok h
      simpa using this
    let J : (Nat → Bool) → Act → World → Prop := fun T a w =>
      ((∀ j, rows.length ≤ j → T j = false) ∧ InvT P C w0 F0 H env0 rows T a w) ∨
      ∃ k st1 c1, rows.length ≤ k ∧ (∀ j, j < ops.size → (T j = true ↔ j < k)) ∧ Inv P C.np w0 F0 H st1 a w ∧ tailE stp st1 (ops.toList.drop k) = some (c1, st2) ∧ c1
    -- a step of the tail
    have htstep : ∀ {T : Nat → Bool} {k : Nat} {st1 : St} {c1 : Prop} {a : Act} {w : World}, k < ops.size → rows.length ≤ k → (∀ j, j < ops.size → (T j = true ↔ j < k)) → Inv P C.np w0 F0 H st1 a w →
        tailE stp st1 (ops.toList.drop k) = some (c1, st2) → c1 → wpOp P ops Q k (J (addT T k)) a w := by
      intro T k st1 c1 a w hk hmk hTk hinv hte hcc
      have hdrop : ops.toList.drop k = ops[k] :: ops.toList.drop (k + 1) := by
        rw [List.drop_eq_getElem_cons (by simpa using hk)]; simp
      rw [hdrop] at hte
      obtain ⟨hg, c3, st3, c4, h1, h2, h3, h4⟩ := tailE_cons hte hcc
      unfold wpOp
      rw [Array.getElem?_eq_getElem hk]
      simp only []
      have hwant : Region.wanted ops[k] (yielded ops a.tmps) = true := by unfold Region.wanted; rw [hg]
      rw [hwant]
      simp only [if_true]
      left
      refine hstp hinv h1 h2 _ Q ?_
      intro a' w' hinv'
      refine .inr ⟨k + 1, st3, c4, by omega, ?_, hinv', h3, h4⟩
      intro j hj
      unfold addT
      rw [Bool.or_eq_true, nbeq_iff, hTk j hj]
      omega
    refine wp_region_run hC.mixed J hlow ?_ ?_ ?_
    · intro T i hin hTi hdr hnd
      intro a w hJ
      have hwait : ∀ k, rows.length ≤ i → k < i → T k = true := by
        intro k hmi hki
        cases draw with
        | true =>
          obtain ⟨hcl, hw⟩ := hdr rfl
          have := tailB_ok (hdB rfl).2.2.2 (i - rows.length) (by rw [htd]; simp; omega) k (by omega)
          rw [show rows.length + (i - rows.length) = i from by omega] at this
          exact reach_of_ready hcl hw (hanc this)
        | false => rw [hnd rfl k]; exact blt_iff.2 hki
      rcases hJ with ⟨hpre, hI⟩ | ⟨k, st1, c1, hmk, hTk, hinv, hte, hcc⟩
      · by_cases him : i < rows.length
        · have hr : rows[i]? = some rows[i] := List.getElem?_eq_getElem him
          have ho : ops[i]? = some ops[i] := Array.getElem?_eq_getElem hin
          obtain ⟨o', ho', hf⟩ := ht.facts hr
          rw [ho] at ho'; injection ho' with ho'; subst ho'
          have hgd : ∀ g b, ops[i].guard = some (g, b) → T g = true := by
            intro g b hgb
            cases draw with
            | true =>
              obtain ⟨hcl, hw⟩ := hdr rfl
              have := gdB_ok (hdB rfl).2.1 i ops[i] g b (by simp [hin]) hgb
              rw [Nat.zero_add] at this
              exact reach_of_ready hcl hw (hanc this)
            | false =>
              rw [hnd rfl g]
              obtain ⟨gs, hg, _⟩ := hf.guard
              rw [hgb] at hg
              simp only [guardR] at hg
              split at hg
              · rename_i q hq
                rw [List.getElem?_take] at hq
                split at hq
                · rename_i hgi; exact blt_iff.2 hgi
                · cases hq
              · cases hg
          have hag : ∀ s ∈ rows[i].rs, ∀ j q, rows[j]? = some q → q.d = s ∨ s ∈ q.used → T j = Nat.blt j i := by
            intro s hs j q hq hd
            cases draw with
            | true =>
              obtain ⟨hcl, hw⟩ := hdr rfl
              have h1 := raceB_ok (hdB rfl).2.2.1 i _ hr
              rw [Nat.zero_add] at h1
              have h2 := raceB1_ok h1 j q hq (touchB_of hs hd)
              rw [Nat.zero_add] at h2
              rcases h2 with h2 | h2 | h2
              · subst h2; rw [hTi, blt_self]
              · rw [reach_of_ready hcl hw (hanc h2), blt_iff.2 (reach_lt (hlow rfl) (hanc h2))]
              · have hlt := reach_lt (hlow rfl) (hanc h2)
                have e1 : Nat.blt j i = false := by
                  cases hb : Nat.blt j i
                  · rfl
                  · have := blt_iff.1 hb; omega
                rw [e1]
                cases hTj : T j
                · rfl
                · have := hcl.reach (hanc h2) hTj
                  rw [hTi] at this; cases this
            | false => exact hnd rfl j
          refine wpOp_mono ?_ (row_ok hC ht hr hTi ho hgd (fun r0 p0 h => hall i _ r0 p0 hr h T hTi) hag a w hI)
          intro a' w' hI'
          refine .inl ⟨?_, hI'⟩
          intro j hj
          simp only [addT, nbeq_ne (show j ≠ i by omega), Bool.false_or]
          exact hpre j hj
        · have him' : i = rows.length := by
            rcases Nat.lt_or_ge rows.length i with h | h
            · have h1 := hwait rows.length (by omega) h
              rw [hpre rows.length (Nat.le_refl _)] at h1; cases h1
            · omega
          subst him'
          have hall : ∀ j, j < rows.length → T j = true := fun j hj => hwait j (Nat.le_refl _) hj
          refine htstep hin (Nat.le_refl _) ?_ (hI.done ht hall) (by rw [← htd]; exact htl) hc2
          intro j hj
          constructor
          · intro h
            rcases Nat.lt_or_ge j rows.length with h' | h'
            · exact h'
            · rw [hpre j h'] at h; cases h
          · exact hall j
      · have hki : k ≤ i := by
          rcases Nat.lt_or_ge i k with h | h
          · have := (hTk i hin).2 h
            rw [hTi] at this; cases this
          · exact h
        have hik : i = k := by
          rcases Nat.lt_or_ge k i with h | h
          · have h1 := hwait k (by omega) h
            have := (hTk k (by omega)).1 h1
            omega
          · omega
        subst hik
        exact htstep hin hmk hTk hinv hte hcc
    · intro T a w hT hJ
      rcases hJ with ⟨hpre, hI⟩ | ⟨k, st1, c1, hmk, hTk, hinv, hte, hcc⟩
      · have hm : ops.size ≤ rows.length := by
          rcases Nat.lt_or_ge rows.length ops.size with h | h
          · have := hT rows.length h
            rw [hpre _ (Nat.le_refl _)] at this; cases this
          · exact h
        have hnil : tail = [] := by rw [htd]; simp; omega
        rw [hnil] at htl
        simp only [tailE, Option.some.injEq, Prod.mk.injEq] at htl
        obtain ⟨_, rfl⟩ := htl
        exact hQ a w (hI.done ht (fun j hj => hT j (by omega)))
      · have hk : ops.size ≤ k := by
          rcases Nat.lt_or_ge k ops.size with h | h
          · have := (hTk k h).1 (hT k h); omega
          · exact h
        have hnil : ops.toList.drop k = [] := by simp; omega
        rw [hnil] at hte
        simp only [tailE, Option.some.injEq, Prod.mk.injEq] at hte
        obtain ⟨_, rfl⟩ := hte
        exact hQ a w hinv
    · intro w' hh hos htp hout
      obtain ⟨F, S, hi⟩ := hi
      refine .inl ⟨fun _ _ => rfl, F, S, ?_, fun j q _ h => by cases h⟩
      have hs : ∀ (l : List Row) (k : Nat), sel l (fun _ => false) k = [] := by
        intro l
        induction l with
        | nil => intro k; rfl
        | cons r l ih => intro k; simp only [sel, cond_false]; exact ih (k + 1)
      rw [hs]
      have he : stR true [] env0 = env0 := by
        funext t
        unfold stR baseR
        simp only [usedR, cond_false, lookR]
        cases (env0 t).root <;> rfl
      rw [he]
      exact hi.world hos htp hout (by rw [hh]; exact Nat.le_refl _) (fun b _ => by rw [hh]) (fun k _ _ => by rw [hh])

theorem region_ok (hC : CtxOK P C) {stp : St → Oper → Option (Prop × St)} (hstp : StpOK P C stp) {id : Nat} {draw : Bool} {st' : St} {c : Prop} (h : regionE C stp draw env0 ops.toList = some (c, st')) (hc : c)
    {a : Act} {w : World} (hi : Inv P C.np w0 F0 H env0 a w) (hQ : ∀ a' w', Inv P C.np w0 F0 H st' a' w' → Q .normal a' w') : (Code.region id ops draw).wp P Q a w := by
  unfold regionE at h
  generalize hgen : genRows false C env0 ops.toList [] = g at h
  obtain ⟨c1, rows, tail⟩ := g
  simp only [] at h
  cases hB : (!draw || drawB ops.toList (ancB ops.toList) rows tail)
  · rw [hB] at h; cases h
  rw [hB] at h
  simp only [cond_true] at h
  generalize htl : tailE stp (stF rows env0) tail = g at h
  cases g with
  | none => cases h
  | some q =>
    obtain ⟨c2, st2⟩ := q
    simp only [andP, Option.some.injEq, Prod.mk.injEq] at h
    obtain ⟨rfl, rfl⟩ := h
    obtain ⟨hc1, hc2⟩ := hc
    refine region_core hC hstp hgen hc1 hB htl hc2 ?_ hi hQ
    intro i r r0 p0 hr hpd
    obtain ⟨ht, _⟩ := genRows_ok (ops := ops) ops.toList [] hgen hc1 (by simp) (fun i r hr => by simp at hr)
    obtain ⟨o, _, hf⟩ := ht.facts hr
    rcases hf.op with ⟨_, _, _, h⟩ | ⟨_, _, _, h, _⟩
    · rw [h] at hpd; cases hpd
    · cases h

/-- What lies beyond the frame's slots is forgotten. -/
def clip (n : Nat) (env : St) : St := fun t => bif Nat.blt t n then (match (env t).root with
  | some q => bif Nat.blt q n then env t else .dead
  | none => env t) else .dead

def allowRow (r0 : Nat) (p0 : Path) (i : Nat) : List Row → Nat → Prop
  | [], _ => True
  | q :: l, j => (bif Nat.beq j i then True else allowP r0 p0 q.e) ∧ allowRow r0 p0 i l (j + 1)
def allowEnv (r0 : Nat) (p0 : Path) (env : St) : Nat → Prop
  | 0 => True
  | n + 1 => allowP r0 p0 (env n) ∧ allowEnv r0 p0 env n
def allowAll (n : Nat) (env : St) (rows : List Row) : List Row → Nat → Prop
  | [], _ => True
  | q :: l, i => (match q.pd with
    | some (r0, p0) => allowRow r0 p0 i rows 0 ∧ allowEnv r0 p0 env n
    | none => True) ∧ allowAll n env rows l (i + 1)

/-- A region in which something is appended on an alias, in whatever order. -/
def regionP (C : Ctx) (stp : St → Oper → Option (Prop × St)) (draw : Bool) (st : St) (ops : List Oper) : Option (Prop × St) :=
  match genRows true C (clip C.N st) ops [] with
  | (c, rows, tail) => bif !draw || drawB ops (ancB ops) rows tail then andP (c ∧ allowAll C.N (clip C.N st) rows rows 0) (tailE stp (stF rows (clip C.N st)) tail) else none

theorem allowRow_ok {r0 : Nat} {p0 : Path} {i : Nat} : ∀ {l : List Row} {k : Nat}, allowRow r0 p0 i l k → ∀ j q, l[j]? = some q → k + j ≠ i → allowP r0 p0 q.e
  | [], _, _, j, q, h, _ => by simp at h
  | x :: l, k, h, j, q, hq, hne => by
    cases j with
    | zero =>
      simp only [List.getElem?_cons_zero, Option.some.injEq] at hq
      subst hq
      have := h.1
      rw [nbeq_ne (by simpa using hne)] at this
      exact this
    | succ j => exact allowRow_ok h.2 j q (by simpa using hq) (by omega)
theorem allowEnv_ok {r0 : Nat} {p0 : Path} {env : St} : ∀ {n : Nat}, allowEnv r0 p0 env n → ∀ t, t < n → allowP r0 p0 (env t)
  | n + 1, h, t, ht => by
    rcases Nat.lt_or_ge t n with h' | h'
    · exact allowEnv_ok h.2 t h'
    · rw [show t = n from by omega]; exact h.1
theorem allowAll_ok {n : Nat} {env : St} {rows : List Row} : ∀ {l : List Row} {k : Nat}, allowAll n env rows l k → ∀ j q r0 p0, l[j]? = some q → q.pd = some (r0, p0) → allowRow r0 p0 (k + j) rows 0 ∧ allowEnv r0 p0 env n
  | [], _, _, j, q, _, _, h, _ => by simp at h
  | x :: l, k, h, j, q, r0, p0, hq, hp => by
    cases j with
    | zero =>
      simp only [List.getElem?_cons_zero, Option.some.injEq] at hq
      subst hq
      have := h.1
      rw [hp] at this
      exact this
    | succ j =>
      have := allowAll_ok h.2 j q r0 p0 (by simpa using hq) hp
      rw [show k + (j + 1) = k + 1 + j from by omega]; exact this

theorem clip_inv {N : NP} {n : Nat} {a : Act} {w : World} (hi : Inv P N w0 F0 H env0 a w) : Inv P N w0 F0 H (clip n env0) a w := by
  obtain ⟨F, S, hi⟩ := hi
  refine ⟨F, S, hi.weaken (fun t => ?_) (fun t r hr => ?_)⟩
  · unfold clip
    cases Nat.blt t n
    · exact .inr rfl
    · simp only [cond_true]
      split
      · rename_i q _
        cases Nat.blt q n
        · exact .inr rfl
        · exact .inl rfl
      · exact .inl rfl
  · unfold clip at hr
    cases hb : Nat.blt t n
    · rw [hb] at hr; cases hr
    rw [hb] at hr
    simp only [cond_true] at hr
    split at hr
    · rename_i q hq
      cases hb2 : Nat.blt q n
      · rw [hb2] at hr; cases hr
      rw [hb2] at hr
      simp only [cond_true] at hr
      rw [hq] at hr; injection hr with hr; subst hr
      have ho := (hi.ent t).root_owner (r := q) hq
      unfold clip
      rw [hb2]
      simp only [cond_true, Ent.owner_root ho]
    · rename_i hq
      rw [hq] at hr; cases hr

theorem regionP_ok (hC : CtxOK P C) {stp : St → Oper → Option (Prop × St)} (hstp : StpOK P C stp) {id : Nat} {draw : Bool} {st' : St} {c : Prop} (h : regionP C stp draw env0 ops.toList = some (c, st')) (hc : c)
    {a : Act} {w : World} (hi : Inv P C.np w0 F0 H env0 a w) (hQ : ∀ a' w', Inv P C.np w0 F0 H st' a' w' → Q .normal a' w') : (Code.region id ops draw).wp P Q a w := by
  unfold regionP at h
  generalize hgen : genRows true C (clip C.N env0) ops.toList [] = g at h
  obtain ⟨c1, rows, tail⟩ := g
  simp only [] at h
  cases hB : (!draw || drawB ops.toList (ancB ops.toList) rows tail)
  · rw [hB] at h; cases h
  rw [hB] at h
  simp only [cond_true] at h
  generalize htl : tailE stp (stF rows (clip C.N env0)) tail = g at h
  cases g with
  | none => cases h
  | some q =>
    obtain ⟨c2, st2⟩ := q
    simp only [andP, Option.some.injEq, Prod.mk.injEq] at h
    obtain ⟨rfl, rfl⟩ := h
    obtain ⟨⟨hc1, hca⟩, hc2⟩ := hc
    refine region_core hC hstp hgen hc1 hB htl hc2 ?_ (clip_inv hi) hQ
    intro i r r0 p0 hr hpd T hTi t
    obtain ⟨h1, h2⟩ := allowAll_ok hca i r r0 p0 hr hpd
    rw [Nat.zero_add] at h1
    have henv : ∀ t, allowP r0 p0 (clip C.N env0 t) := by
      intro t
      rcases Nat.lt_or_ge t C.N with h | h
      · exact allowEnv_ok h2 t h
      · have : clip C.N env0 t = .dead := by
          unfold clip
          have : Nat.blt t C.N = false := by
            cases hb : Nat.blt t C.N
            · rfl
            · have := blt_iff.1 hb; omega
          rw [this]; rfl
        rw [this]; trivial
    rcases stR_cases true (sel rows T 0) (clip C.N env0) t with h | ⟨h, _, _⟩
    · rw [h]; trivial
    · rw [h]
      unfold baseR
      cases hl : lookR (sel rows T 0) t with
      | none => exact henv t
      | some q =>
        obtain ⟨j, e1, e2⟩ := mem_sel _ 0 (lookR_mem hl).1
        rw [Nat.zero_add] at e2
        have hji : 0 + j ≠ i := by
          intro h; rw [Nat.zero_add] at h; rw [h, hTi] at e2; cases e2
        simp only [Row.ent, cond_true]
        cases q.gb
        · trivial
        · exact allowRow_ok h1 j q e1 hji
end
end Go.Lf
namespace Go.Lf
/-- What an owner holds becomes shared; what hung on it is forgotten. -/
def frzO (st : St) (r : Nat) : St :=
  match st r with
  | .own τ _ x => upd (kill st r) r (.shr τ x)
  | .box τ _ x => upd (kill st r) r (.saddr τ x)
  | _ => st
def frzA (st : St) : List Nat → St
  | [] => st
  | r :: l => frzA (frzO st r) l
section
variable {P : Program} {N : NP} {w0 : World} {F0 H : NSet} {env : St} {a : Act} {w : World} {F : NSet} {S : Nat → NSet}
theorem Inv0.freezeE (hi : Inv0 P N w0 F0 H env a w F S) {r : Nat} {e : Ent} (hr : (env r).isOwner = true)
    (he : EntOK P (fun b => F b ∨ S r b) w (upd (kill env r) r e) (fun t => a.tmps.getD t undef) (fun t => if t = r then none' else S t) r e) :
    Inv0 P N w0 F0 H (upd (kill env r) r e) a w (fun b => F b ∨ S r b) (fun t => if t = r then none' else S t) := by
  have hap : ∀ t b, t ≠ r → S t b → ¬ S r b := fun t b h h1 h2 => hi.sd t r h b h1 h2
  refine ⟨hi.os, hi.tape, hi.output, hi.size, hi.block, ?_, fun b hb => .inl (hi.f0 b hb), ?_, ?_, ?_, ?_, hi.defers, hi.slots⟩
  · rintro b (hb | hb)
    · exact hi.fb b hb
    · exact (hi.sb r b hb).2.1
  · rintro b (hb | hb) hn
    · exact hi.fn b hb hn
    · exact (hi.sb r b hb).1
  · intro t b ht
    by_cases h : t = r
    · simp only [h, if_true] at ht; exact ht.elim
    · simp only [h, if_false] at ht
      obtain ⟨g1, g2, g3⟩ := hi.sb t b ht
      exact ⟨g1, g2, fun hF => hF.elim g3 (hap t b h ht)⟩
  · intro t u htu b h1 h2
    by_cases h : t = r
    · simp only [h, if_true] at h1; exact h1
    · simp only [h, if_false] at h1
      by_cases h' : u = r
      · simp only [h', if_true] at h2; exact h2
      · simp only [h', if_false] at h2
        exact hi.sd t u htu b h1 h2
  · intro t
    by_cases h : t = r
    · subst h
      rw [upd_same]
      exact he
    · rw [upd_ne _ _ h]
      rcases kill_cases env r t with h' | ⟨h', hne⟩
      · rw [h']; trivial
      · rw [h']
        refine EntOK.keep (fun b hb => .inl hb) (fun _ _ => rfl) rfl ?_ ?_ (hi.ent t)
        · intro q hq
          have hqr : q ≠ r := fun e => hne (e ▸ hq)
          refine ⟨fun ho => ?_, fun _ => rfl, by simp [hqr], fun _ _ => rfl, ?_, fun b hb => (hi.sb q b hb).2.2⟩
          · rw [upd_ne _ _ hqr]; unfold kill killE; rw [Ent.owner_root ho]
          · rintro b (h1 | h1) h2
            · exact absurd h1 h2
            · exact fun h3 => hap q b hqr h3 h1
        · intro _
          refine ⟨by simp [h], fun _ _ => rfl, ?_⟩
          rintro b (h1 | h1) h2
          · exact absurd h1 h2
          · exact fun h3 => hap t b h h3 h1
theorem frzO_ok {r : Nat} (h : Inv P N w0 F0 H env a w) : Inv P N w0 F0 H (frzO env r) a w := by
  obtain ⟨F, S, hi⟩ := h
  unfold frzO
  split
  · rename_i τ m x hr
    refine ⟨_, _, hi.freezeE (by rw [hr]; rfl) ?_⟩
    have h1 := hi.ent r
    rw [hr] at h1
    obtain ⟨pl, S0, cs, h1⟩ := h1
    obtain ⟨_, _, _, hS0, hv⟩ := h1.own_inj
    exact ⟨cs, hv, (Own.freeze (S' := none') h1.2.2).mono (fun k hk => hk.imp id (fun hk => by rw [hS0] at hk; exact hk)) (fun _ h => h)⟩
  · rename_i τ m x hr
    refine ⟨_, _, hi.freezeE (by rw [hr]; rfl) ?_⟩
    have h1 := hi.ent r
    rw [hr] at h1
    obtain ⟨pl, S0, cs, h1⟩ := h1
    obtain ⟨_, _, b, rfl, hS0, hval, hsb⟩ := h1.box_inj
    obtain ⟨q1, q2, row, T0, q3, q4, q5⟩ := h1.2.1
    refine ⟨b, 0, row, T0, (0, 0), hval, .inr hsb, q3, q4, ?_⟩
    rw [q5]
    exact (Own.freeze (S' := none') h1.2.2).mono (fun k hk => hk.imp id (fun hk => h1.sub k hk)) (fun _ h => h)
  · exact ⟨F, S, hi⟩
theorem frzA_ok : ∀ {l : List Nat} {env : St}, Inv P N w0 F0 H env a w → Inv P N w0 F0 H (frzA env l) a w
  | [], _, h => h
  | r :: l, _, h => frzA_ok (l := l) (frzO_ok h)
end
end Go.Lf
namespace Go.Lf

/-- An owner's entry with another content. -/
def reown (e : Ent) (τ : Ty) (m : Md) (x : τ.den) : Ent := match e with
  | .box _ _ _ => .box τ m x
  | _ => .own τ m x

section
variable {P : Program} {C : Ctx} {N : NP} {w0 : World} {F0 H : NSet} {env : St} {a : Act} {w : World} {F : NSet} {S : Nat → NSet} {d : Nat}

/-- An owner's memory has been written. -/
theorem Inv0.setRoot (hi : Inv0 P N w0 F0 H env a w F S) {r : Nat} (hr : (env r).isOwner = true) {w' : World} {Sr : NSet} {E : Ent} (hE : E.isOwner = true)
    (h1 : w'.os = w.os) (h2 : w'.tape = w.tape) (h3 : w'.output = w.output) (h4 : w.heap.size ≤ w'.heap.size) (h6 : ∀ k, k < w0.heap.size → ¬ H k → w'.heap[k]? = w.heap[k]?)
    (h5 : ∀ b, F b ∨ (∃ t, t ≠ r ∧ S t b) → w'.heap[b]? = w.heap[b]?) (hS : ∀ b, Sr b → (w0.heap.size ≤ b ∨ H b) ∧ b < w'.heap.size ∧ ¬ F b ∧ ∀ t, t ≠ r → ¬ S t b)
    (he : EntOK P F w' (upd (kill env r) r E) (fun t => a.tmps.getD t undef) (fun t => if t = r then Sr else S t) r E) :
    Inv0 P N w0 F0 H (upd (kill env r) r E) a w' F (fun t => if t = r then Sr else S t) := by
  refine ⟨h1.trans hi.os, h2.trans hi.tape, h3.trans hi.output, Nat.le_trans hi.size h4, fun k hk hH => (h6 k hk hH).trans (hi.block k hk hH), fun b hb => Nat.lt_of_lt_of_le (hi.fb b hb) h4, hi.f0, hi.fn, ?_, ?_, ?_, hi.defers, hi.slots⟩
  · intro t b ht
    by_cases h : t = r
    · simp only [h, if_true] at ht
      exact ⟨(hS b ht).1, (hS b ht).2.1, (hS b ht).2.2.1⟩
    · simp only [h, if_false] at ht
      obtain ⟨g1, g2, g3⟩ := hi.sb t b ht
      exact ⟨g1, Nat.lt_of_lt_of_le g2 h4, g3⟩
  · intro t u htu b hb1 hb2
    by_cases h : t = r
    · simp only [h, if_true] at hb1
      by_cases h' : u = r
      · exact htu (h.trans h'.symm)
      · simp only [h', if_false] at hb2
        exact (hS b hb1).2.2.2 u h' hb2
    · simp only [h, if_false] at hb1
      by_cases h' : u = r
      · simp only [h', if_true] at hb2
        exact (hS b hb2).2.2.2 t h hb1
      · simp only [h', if_false] at hb2
        exact hi.sd t u htu b hb1 hb2
  · intro t
    by_cases h : t = r
    · subst h
      rw [upd_same]; exact he
    · rw [upd_ne _ _ h]
      rcases kill_cases env r t with h' | ⟨h', hne⟩
      · rw [h']; trivial
      · rw [h']
        refine EntOK.keep (fun _ h => h) (fun b hb => h5 b (.inl hb)) rfl ?_ ?_ (hi.ent t)
        · intro q hq
          have hqr : q ≠ r := fun e => hne (e ▸ hq)
          refine ⟨fun ho => ?_, fun _ => rfl, by simp [hqr], fun b hb => h5 b (.inr ⟨q, hqr, hb⟩), fun b h1 h2 => absurd h1 h2, fun b hb => (hi.sb q b hb).2.2⟩
          rw [upd_ne _ _ hqr]; unfold kill killE; rw [Ent.owner_root ho]
        · intro _
          exact ⟨by simp [h], fun b hb => h5 b (.inr ⟨t, h, hb⟩), fun b h1 h2 => absurd h1 h2⟩


theorem late_store (hC : CtxOK P C) (hi : Inv0 P N w0 F0 H env a w F S) {T : TypeId} {z : Operand} {o : Oper} (ho : o.op = .store T (.tmp d) z) (hod : o.dst = none) {τ : Ty} {m : Md} {x y : τ.den}
    (he : env d = .box τ m x) (hf : τ.flat = true) (hT : look C.tys T = some τ) (hv : OwnV F w τ .shr none' (a.eval z) y) {K : Act → World → Prop} {Q : Exit → Act → World → Prop}
    (hK : ∀ w' F' S', Inv0 P N w0 F0 H (upd (kill env d) d (.box τ m y)) a w' F' S' → K a w') : o.wp P a w K Q := by
  have h1 := hi.ent d
  rw [he] at h1
  obtain ⟨pl, S0, cs, h1⟩ := h1
  obtain ⟨_, _, b, rfl, hS0, hval, hsb⟩ := h1.box_inj
  obtain ⟨q1, q2, row, T0, q3, q4, q5⟩ := h1.2.1
  obtain ⟨c', hc', hvo⟩ := hv
  obtain ⟨w', k1, k2, k3, k4, k5, k6, k7⟩ := (hC.types T _ hT).storeVar q3 q4 hvo.len hvo.one
  have hval' : a.eval (.tmp d) = .pointer (some ⟨b, 0, none⟩) := hval
  unfold Oper.wp
  have hrun : (execOp a.eval o).run P w = .ok .skip w' := by
    simp [execOp, ho, Instr.storeAt, hval', Instr.sureAddr, hc', k1]
  rw [hrun, Oper.upon_skip, hod]
  have hb := hi.sb d b hsb
  refine hK w' F (fun t => if t = d then S d else S t) ?_
  refine hi.setRoot (by rw [he]; rfl) rfl k5 k6 k7 (by omega) ?_ ?_ ?_ ?_
  · intro k hk hH
    refine k3 k ?_
    rintro rfl
    rcases hb.1 with h | h
    · omega
    · exact hH h
  · intro k hk
    refine k3 k ?_
    rintro rfl
    rcases hk with hk | ⟨t, g1, g2⟩
    · exact hb.2.2 hk
    · exact hi.sd t d g1 k g2 hsb
  · intro k hk
    obtain ⟨g1, g2, g3⟩ := hi.sb d k hk
    exact ⟨g1, by omega, g3, fun t ht hk' => hi.sd t d ht k hk' hk⟩
  · obtain ⟨e1, row', e2, T', e3, e4, e5, e6⟩ := k2
    refine ⟨.mem b 0, S0, c', .inr ⟨rfl, b, rfl, by simpa using hS0, hval, by simpa using hsb⟩, ⟨q1, q2, e2, T', e4, ?_, ?_⟩, hvo.flat hf⟩
    · have := congrArg List.length e6
      simp only [Array.length_toList, List.length_append, List.length_take, List.length_drop, e1] at this
      omega
    · rw [e6]
      simp only [List.take_zero, List.nil_append, seg, List.drop_zero]
      rw [List.take_append_of_le_length (by omega), List.take_of_length_le (by omega)]
end

def noRd : List Row → Nat → Bool
  | [], _ => true
  | r :: l, d => !memN r.rs d && !rootIs r.e d && noRd l d
def zOK (rows : List Row) (anc : List Nat) (draw : Bool) (k : Nat) : Operand → Bool
  | .tmp s => match idxR rows 0 s with
    | some (j, r) => isNilL r.ch && (!draw || (anc.getD k 0).testBit j)
    | none => true
  | _ => true
def zFree (ds : List Nat) : Operand → Bool
  | .tmp s => !memN ds s
  | _ => true

/-- The entry that a late store leaves. -/
def lateE (C : Ctx) (rows : List Row) (env0 : St) (anc : List Nat) (draw : Bool) (o : Oper) (k : Nat) : Option (Nat × Nat × Ent) :=
  match o.op, o.dst, o.guard with
  | .store T (.tmp d) z, none, none => match idxR rows 0 d with
    | some (j, r) => match r.e, (viewO (stR false rows env0) z).e with
      | .box τ m _, .shr σ y => match castD (τ := σ) (σ := τ) y with
        | some y' => bif isNilL r.ch && !usedR rows d && decide (look C.tys T = some τ) && τ.flat && noRd rows d && (!draw || (anc.getD k 0).testBit j) && zOK rows anc draw k z then some (k, d, .box τ m y') else none
        | none => none
      | _, _ => none
    | none => none
  | _, _, _ => none
def lateL (C : Ctx) (rows : List Row) (env0 : St) (anc : List Nat) (draw : Bool) : List Oper → Nat → Option (List (Nat × Nat × Ent))
  | [], _ => some []
  | o :: l, k => match lateE C rows env0 anc draw o k, lateL C rows env0 anc draw l (k + 1) with
    | some x, some xs => some (x :: xs)
    | _, _ => none
def zFreeL (ds : List Nat) : List Oper → Bool
  | [] => true
  | o :: l => (match o.op with
    | .store _ _ z => zFree ds z
    | _ => true) && zFreeL ds l
def tgts : List (Nat × Nat × Ent) → List Nat
  | [] => []
  | (_, d, _) :: l => d :: tgts l

def patE (T : Nat → Bool) : List (Nat × Nat × Ent) → Nat → Option Ent
  | [], _ => none
  | (k, d, e) :: l, t => bif Nat.beq d t && T k then some e else patE T l t
def patR (T : Nat → Bool) (ls : List (Nat × Nat × Ent)) (r : Row) : Row := match patE T ls r.d with
  | some e => { r with e := e }
  | none => r

/-- A region whose effects are all late stores. -/
def regionL (C : Ctx) (draw : Bool) (st : St) (ops : List Oper) : Option (Prop × St) :=
  match genRows false C st ops [] with
  | (c, rows, tail) => match lateL C rows st (ancB ops) draw tail rows.length with
    | some ls => bif nodupN (tgts ls) && zFreeL (tgts ls) tail && (!draw || (lowB ops 0 && gdB (ancB ops) ops 0 && raceB (ancB ops) rows rows 0)) then some (c, stF (rows.map (patR (fun _ => true) ls)) st) else none
    | none => none

/-- Both kinds of region. -/
def regionB (C : Ctx) (stp : St → Oper → Option (Prop × St)) (draw : Bool) (st : St) (ops : List Oper) : Option (Prop × St) :=
  match regionE C stp draw st ops with
  | some r => some r
  | none => match regionL C draw st ops with
    | some r => some r
    | none => regionP C stp draw (dropAll st C.ded) ops
/-- Where neither goes, what is named may become shared first. -/
def regionA (C : Ctx) (stp : St → Oper → Option (Prop × St)) (draw : Bool) (st : St) (ops : List Oper) : Option (Prop × St) :=
  match regionB C stp draw st ops with
  | some r => some r
  | none => regionB C stp draw (frzA st C.fzs) ops

section
variable {P : Program} {C : Ctx} {w0 : World} {F0 H : NSet} {env0 : St} {ops : Array Oper} {rows : List Row} {Q : Exit → Act → World → Prop}

structure LateF (C : Ctx) (rows : List Row) (env0 : St) (anc : List Nat) (draw : Bool) (o : Oper) (k d : Nat) (e : Ent) : Prop where
  ex : ∃ (T : TypeId) (z : Operand) (j : Nat) (r : Row) (τ : Ty) (m : Md) (x y : τ.den), o.op = .store T (.tmp d) z ∧ o.dst = none ∧ o.guard = none ∧ idxR rows 0 d = some (j, r) ∧ r.e = .box τ m x ∧
    (viewO (stR false rows env0) z).e = .shr τ y ∧ e = .box τ m y ∧ r.ch = [] ∧ usedR rows d = false ∧ look C.tys T = some τ ∧ τ.flat = true ∧ noRd rows d = true ∧
    (draw = true → (anc.getD k 0).testBit j = true) ∧ zOK rows anc draw k z = true

theorem lateE_ok {anc : List Nat} {draw : Bool} {o : Oper} {k k' d : Nat} {e : Ent} (h : lateE C rows env0 anc draw o k = some (k', d, e)) : k' = k ∧ LateF C rows env0 anc draw o k d e := by
  unfold lateE at h
  split at h
  · rename_i T d0 z h1 h2 h3
    split at h
    · rename_i j r hj
      split at h
      · rename_i τ m x σ y he hz
        split at h
        · rename_i y' hy
          cases hb : (isNilL r.ch && !usedR rows d0 && decide (look C.tys T = some τ) && τ.flat && noRd rows d0 && (!draw || (anc.getD k 0).testBit j) && zOK rows anc draw k z)
          · rw [hb] at h; cases h
          rw [hb] at h
          simp only [cond_true, Option.some.injEq, Prod.mk.injEq] at h
          obtain ⟨rfl, rfl, rfl⟩ := h
          simp only [Bool.and_eq_true, Bool.not_eq_true', decide_eq_true_eq, Bool.or_eq_true, isNilL_iff] at hb
          obtain ⟨⟨⟨⟨⟨⟨b1, b2⟩, b3⟩, b4⟩, b5⟩, b6⟩, b7⟩ := hb
          have := castD_some hy
          injection this with e1 e2
          subst e1; cases e2
          refine ⟨rfl, ⟨T, z, j, r, σ, m, x, y, h1, h2, h3, hj, he, hz, rfl, b1, b2, b3, b4, b5, fun hd => ?_, b7⟩⟩
          rcases b6 with b6 | b6
          · rw [hd] at b6; cases b6
          · exact b6
        · cases h
      · cases h
    · cases h
  · cases h

theorem lateL_ok {anc : List Nat} {draw : Bool} : ∀ {l : List Oper} {k : Nat} {ls : List (Nat × Nat × Ent)}, lateL C rows env0 anc draw l k = some ls →
    ls.length = l.length ∧ ∀ j x, ls[j]? = some x → x.1 = k + j ∧ ∃ o, l[j]? = some o ∧ LateF C rows env0 anc draw o (k + j) x.2.1 x.2.2
  | [], k, ls, h => by
    simp only [lateL, Option.some.injEq] at h
    subst h; exact ⟨rfl, fun j x h => by simp at h⟩
  | o :: l, k, ls, h => by
    simp only [lateL] at h
    split at h
    · rename_i x xs h1 h2
      simp only [Option.some.injEq] at h
      subst h
      obtain ⟨g1, g2⟩ := lateL_ok h2
      refine ⟨by simp [g1], fun j y hy => ?_⟩
      cases j with
      | zero =>
        simp only [List.getElem?_cons_zero, Option.some.injEq] at hy
        subst hy
        obtain ⟨k', d, e⟩ := x
        obtain ⟨q1, q2⟩ := lateE_ok h1
        exact ⟨q1, o, rfl, q2⟩
      | succ j =>
        obtain ⟨q1, o', q2, q3⟩ := g2 j y (by simpa using hy)
        exact ⟨by omega, o', by simpa using q2, by rw [show k + (j + 1) = k + 1 + j from by omega]; exact q3⟩
    · cases h

theorem noRd_ok {d : Nat} : ∀ {l : List Row}, noRd l d = true → ∀ r ∈ l, d ∉ r.rs ∧ r.e.root ≠ some d
  | q :: l, h, r, hr => by
    simp only [noRd, Bool.and_eq_true, Bool.not_eq_true'] at h
    rcases List.mem_cons.1 hr with rfl | hr
    · refine ⟨fun hm => ?_, rootIs_ne h.1.2⟩
      have := memN_mem.2 hm
      rw [h.1.1] at this; cases this
    · exact noRd_ok h.2 r hr

theorem patE_none {T : Nat → Bool} {t : Nat} : ∀ {ls : List (Nat × Nat × Ent)}, (∀ x ∈ ls, x.2.1 = t → T x.1 = false) → patE T ls t = none
  | [], _ => rfl
  | (k, d, e) :: l, h => by
    simp only [patE]
    have ih := patE_none (t := t) (T := T) (fun x hx => h x (List.mem_cons_of_mem _ hx))
    cases hb : Nat.beq d t
    · simpa using ih
    · have := h (k, d, e) (List.mem_cons_self) (nbeq_iff.1 hb)
      simp only at this
      simp only [this, Bool.and_false, cond_false]; exact ih
theorem patE_some {T : Nat → Bool} {t : Nat} {e : Ent} : ∀ {ls : List (Nat × Nat × Ent)}, patE T ls t = some e → ∃ x ∈ ls, x.2.1 = t ∧ T x.1 = true ∧ x.2.2 = e
  | (k, d, e') :: l, h => by
    simp only [patE] at h
    cases hb : (Nat.beq d t && T k)
    · rw [hb] at h
      obtain ⟨x, h1, h2⟩ := patE_some h
      exact ⟨x, List.mem_cons_of_mem _ h1, h2⟩
    · rw [hb] at h
      simp only [cond_true, Option.some.injEq] at h
      simp only [Bool.and_eq_true] at hb
      exact ⟨_, List.mem_cons_self, nbeq_iff.1 hb.1, hb.2, h⟩
theorem patE_congr {T T' : Nat → Bool} {t : Nat} : ∀ {ls : List (Nat × Nat × Ent)}, (∀ x ∈ ls, x.2.1 = t → T x.1 = T' x.1) → patE T ls t = patE T' ls t
  | [], _ => rfl
  | (k, d, e) :: l, h => by
    simp only [patE]
    rw [patE_congr (t := t) (T := T) (T' := T') (ls := l) (fun x hx => h x (List.mem_cons_of_mem _ hx))]
    cases hb : Nat.beq d t
    · rfl
    · have := h (k, d, e) (List.mem_cons_self) (nbeq_iff.1 hb)
      simp only at this
      rw [this]
theorem tgts_mem {ls : List (Nat × Nat × Ent)} {t : Nat} : t ∈ tgts ls ↔ ∃ x ∈ ls, x.2.1 = t := by
  induction ls with
  | nil => simp [tgts]
  | cons y l ih =>
    obtain ⟨k, d, e⟩ := y
    simp only [tgts, List.mem_cons, ih]
    constructor
    · rintro (rfl | ⟨x, h1, h2⟩)
      · exact ⟨_, .inl rfl, rfl⟩
      · exact ⟨x, .inr h1, h2⟩
    · rintro ⟨x, rfl | h1, h2⟩
      · exact .inl h2.symm
      · exact .inr ⟨x, h1, h2⟩
theorem patE_hit {T : Nat → Bool} : ∀ {ls : List (Nat × Nat × Ent)} {x : Nat × Nat × Ent}, nodupN (tgts ls) = true → x ∈ ls → T x.1 = true → patE T ls x.2.1 = some x.2.2
  | (k, d, e) :: l, x, hn, hx, hT => by
    simp only [patE]
    rcases List.mem_cons.1 hx with rfl | hx
    · simp only at hT
      simp only [Nat.beq_refl, hT, Bool.and_self, cond_true]
    · obtain ⟨g1, g2⟩ := nodup_cons (show nodupN (d :: tgts l) = true from hn)
      have hne : d ≠ x.2.1 := fun h => g1 (tgts_mem.2 ⟨x, hx, h.symm⟩)
      simp only [nbeq_ne hne, Bool.false_and, cond_false]
      exact patE_hit g2 hx hT
theorem tgts_inj : ∀ {ls : List (Nat × Nat × Ent)} {x y : Nat × Nat × Ent}, nodupN (tgts ls) = true → x ∈ ls → y ∈ ls → x.2.1 = y.2.1 → x = y
  | (k, d, e) :: l, x, y, hn, hx, hy, h => by
    obtain ⟨g1, g2⟩ := nodup_cons (show nodupN (d :: tgts l) = true from hn)
    rcases List.mem_cons.1 hx with rfl | hx
    · rcases List.mem_cons.1 hy with rfl | hy
      · rfl
      · exact absurd (tgts_mem.2 ⟨y, hy, h.symm⟩) g1
    · rcases List.mem_cons.1 hy with rfl | hy
      · exact absurd (tgts_mem.2 ⟨x, hx, h⟩) g1
      · exact tgts_inj g2 hx hy h

theorem patR_d {T : Nat → Bool} {ls : List (Nat × Nat × Ent)} {r : Row} : (patR T ls r).d = r.d ∧ (patR T ls r).used = r.used ∧ (patR T ls r).gb = r.gb ∧ (patR T ls r).ch = r.ch := by
  unfold patR
  split <;> exact ⟨rfl, rfl, rfl, rfl⟩
theorem patR_none {T : Nat → Bool} {ls : List (Nat × Nat × Ent)} {r : Row} (h : patE T ls r.d = none) : patR T ls r = r := by
  unfold patR; rw [h]

/-- A late store, whenever it comes up. -/
theorem late_ok (hC : CtxOK P C) (ht : Tab false C env0 ops rows) {ls : List (Nat × Nat × Ent)} (hnd : nodupN (tgts ls) = true) {anc : List Nat} {draw : Bool} {T : Nat → Bool} {k d : Nat} {e : Ent} (hx : (k, d, e) ∈ ls)
    (hk : rows.length ≤ k) (hkinj : ∀ u ∈ ls, ∀ v ∈ ls, u.1 = v.1 → u = v) {o : Oper} (ho : ops[k]? = some o) (hf : LateF C rows env0 anc draw o k d e) (hzf : ∀ T0 a0 z, o.op = .store T0 a0 z → zFree (tgts ls) z = true)
    (hTk : T k = false) (hanc : ∀ j, j < rows.length → (draw = true → (anc.getD k 0).testBit j = true) → T j = true) (hroot : ∀ t, (env0 t).root ≠ some d) (hbox : ∀ u ∈ ls, u.2.2.root ≠ some d) :
    ∀ a w, InvT P C w0 F0 H env0 (rows.map (patR T ls)) T a w → wpOp P ops Q k (InvT P C w0 F0 H env0 (rows.map (patR (addT T k) ls)) (addT T k)) a w := by
  intro a w ⟨F, S, hi, hund⟩
  obtain ⟨T0, z, j, r, τ, m, x, y, h1, h2, h3, h4, h5, h6, rfl, h7, h8, h9, h10, h11, h12, h13⟩ := hf.ex
  obtain ⟨_, g2, g3⟩ := idxR_ok h4
  simp only [Nat.sub_zero] at g2
  have hrd : r.d = d := (lookR_mem g3).2
  have hjl : j < rows.length := by
    rcases Nat.lt_or_ge j rows.length with h | h
    · exact h
    · rw [List.getElem?_eq_none h] at g2; cases g2
  have hTj : T j = true := hanc j hjl h12
  have hmap : ∀ {T : Nat → Bool} {i : Nat} {q : Row}, rows[i]? = some q → (rows.map (patR T ls))[i]? = some (patR T ls q) := by
    intro T i q hq; simp [hq]
  have hback : ∀ {T : Nat → Bool} {i : Nat} {q' : Row}, (rows.map (patR T ls))[i]? = some q' → ∃ q, rows[i]? = some q ∧ q' = patR T ls q := by
    intro T i q' hq
    simp only [List.getElem?_map, Option.map_eq_some_iff] at hq
    obtain ⟨q, e1, e2⟩ := hq
    exact ⟨q, e1, e2.symm⟩
  have hud : ∀ T, UD (rows.map (patR T ls)) := by
    intro T i i' q q' hq hq' hd
    obtain ⟨p, e1, rfl⟩ := hback hq
    obtain ⟨p', e2, rfl⟩ := hback hq'
    rw [patR_d.1, patR_d.1] at hd
    exact ht.ud i i' p p' e1 e2 hd
  -- the variable
  have hpn : patE T ls d = none := by
    refine patE_none fun u hu hd => ?_
    have := tgts_inj hnd hu hx hd
    rw [this]; exact hTk
  have hrj : (rows.map (patR T ls))[j]? = some r := by
    rw [hmap g2, patR_none (by rw [hrd]; exact hpn)]
  have hused : ∀ (T' T : Nat → Bool) t, usedR rows t = false → usedR (sel (rows.map (patR T' ls)) T 0) t = false := by
    intro T' T t h
    cases hu : usedR (sel (rows.map (patR T' ls)) T 0) t
    · rfl
    · obtain ⟨q, q1, q2⟩ := usedR_mem.1 hu
      obtain ⟨i, e1, _⟩ := mem_sel _ 0 q1
      obtain ⟨p, e2, rfl⟩ := hback e1
      rw [patR_d.2.1] at q2
      have := usedR_mem.2 ⟨p, List.mem_of_getElem? e2, q2⟩
      rw [h] at this; cases this
  have hgbr : r.gb = true := (ht.gb j g2).2 (by rw [h7]; intro x hx; cases hx)
  have henv : stR true (sel (rows.map (patR T ls)) T 0) env0 d = .box τ m x := by
    have hl := (hud T).look hrj hTj
    rw [hrd] at hl
    have hb : baseR true (sel (rows.map (patR T ls)) T 0) env0 d = .box τ m x := by
      unfold baseR; rw [hl]; simp only [Row.ent, cond_true, hgbr, h5]
    rw [stR_base (hused T T d h8) (by rw [hb]; intro q hq; cases hq), hb]
  -- the value
  have hval : OwnV F w τ .shr none' (a.eval z) y := by
    have hview : ViewOK P F w (stR true (sel (rows.map (patR T ls)) T 0) env0) (fun t => a.tmps.getD t undef) S (a.eval z) (viewO (stR false rows env0) z) := by
      refine viewT_ok hi ?_ ?_
      · cases z with
        | tmp s =>
          intro q hq
          simp only [zOK] at h13
          obtain ⟨hq1, hq2⟩ := lookR_mem hq
          cases hidx : idxR rows 0 s with
          | none =>
            exfalso
            have : ∀ (l : List Row) (n : Nat), idxR l n s = none → lookR l s = none := by
              intro l
              induction l with
              | nil => intro n _; rfl
              | cons p l ih =>
                intro n hn
                simp only [idxR] at hn
                cases hb : Nat.beq p.d s
                · rw [hb] at hn; simp only [lookR, hb, cond_false]; exact ih _ hn
                · rw [hb] at hn; cases hn
            rw [this rows 0 hidx] at hq; cases hq
          | some jr =>
            obtain ⟨jz, rz⟩ := jr
            rw [hidx] at h13
            simp only [Bool.and_eq_true, isNilL_iff] at h13
            obtain ⟨_, e1, e2⟩ := idxR_ok hidx
            simp only [Nat.sub_zero] at e1
            rw [hq] at e2; injection e2 with e2; subst e2
            exact (ht.gb jz e1).2 (by rw [h13.1]; intro x hx; cases hx)
        | _ => trivial
      · rintro s rfl
        have hst : stR false rows env0 s = .shr τ y := h6
        have hus : usedR rows s = false := by
          rcases stR_cases false rows env0 s with h | ⟨_, h, _⟩
          · rw [hst] at h; cases h
          · exact h
        refine ⟨⟨?_, by rw [hus]; exact hused T T s hus⟩, fun q hq => by rw [hst] at hq; cases hq⟩
        have hsn : s ∉ tgts ls := by
          have := hzf T0 _ _ h1
          simp only [zFree, Bool.not_eq_true'] at this
          intro hm
          have h' := memN_mem.2 hm
          rw [this] at h'; cases h'
        have hall : sel rows (fun _ => true) 0 = rows := sel_all rows 0 (fun _ _ => rfl)
        have h0 := lookR_congr2 (s := s) (T := fun _ => true) (T' := T) rows (rows.map (patR T ls)) 0 (by simp) (fun i q q' hq hq' => ?_)
        · rw [hall] at h0; exact h0.symm
        · obtain ⟨p, e1, rfl⟩ := hback hq'
          rw [hq] at e1; injection e1 with e1; subst e1
          refine ⟨patR_d.1, fun hd => ⟨?_, ?_⟩⟩
          · symm
            simp only [zOK] at h13
            have hil : i < rows.length := by
              rcases Nat.lt_or_ge i rows.length with h | h
              · exact h
              · rw [List.getElem?_eq_none h] at hq; cases hq
            have hidx : ∀ (l : List Row) (n : Nat), (∃ p ∈ l, p.d = s) → ∃ v, idxR l n s = some v := by
              intro l
              induction l with
              | nil => rintro n ⟨_, h, _⟩; cases h
              | cons p l ih =>
                rintro n ⟨p', hp', hd'⟩
                simp only [idxR]
                cases hb : Nat.beq p.d s
                · rcases List.mem_cons.1 hp' with rfl | hp'
                  · rw [nbeq_iff.2 hd'] at hb; cases hb
                  · exact ih _ ⟨p', hp', hd'⟩
                · exact ⟨_, rfl⟩
            obtain ⟨⟨jz, rz⟩, hv⟩ := hidx rows 0 ⟨q, List.mem_of_getElem? hq, hd⟩
            rw [hv] at h13
            simp only [Bool.and_eq_true, Bool.or_eq_true, Bool.not_eq_true'] at h13
            obtain ⟨_, e1, e2⟩ := idxR_ok hv
            simp only [Nat.sub_zero] at e1
            have : i = jz := ht.ud i jz q rz hq e1 (by rw [hd, (lookR_mem e2).2])
            subst this
            rw [Nat.zero_add]
            refine hanc i hil (fun hdr => ?_)
            rcases h13.2 with h | h
            · rw [hdr] at h; cases h
            · exact h
          · exact patR_none (patE_none fun u hu hd' => absurd (tgts_mem.2 ⟨u, hu, hd'.trans hd⟩) hsn)
    have := hview.ent (by rw [h6]; rfl) 0 (by rw [h6]; simp [Ent.root])
    rw [h6] at this
    exact this
  unfold wpOp
  rw [ho]
  simp only []
  have hw : Region.wanted o (yielded ops a.tmps) = true := by unfold Region.wanted; rw [h3]
  rw [hw]
  simp only [if_true]
  left
  refine late_store hC hi h1 h2 henv h10 h9 hval (Q := Q) ?_
  intro w' F' S' hinv
  refine ⟨F', S', ?_, ?_⟩
  · -- the table with the new content
    have hsame : ∀ t, t ≠ d → patE (addT T k) ls t = patE T ls t := by
      intro t htd
      refine patE_congr fun u hu hd => ?_
      by_cases huk : u.1 = k
      · have := hkinj u hu _ hx huk
        rw [this] at hd; exact absurd hd.symm htd
      · simp [addT, nbeq_ne huk]
    have hselT : sel (rows.map (patR (addT T k) ls)) (addT T k) 0 = sel (rows.map (patR (addT T k) ls)) T 0 := by
      have aux : ∀ (l : List Row) (n : Nat), n + l.length ≤ k → sel l (addT T k) n = sel l T n := by
        intro l
        induction l with
        | nil => intro n _; rfl
        | cons p l ih =>
          intro n hn
          simp only [List.length_cons] at hn
          have : addT T k n = T n := by simp [addT, nbeq_ne (show n ≠ k by omega)]
          simp only [sel, this]
          rw [ih (n + 1) (by omega)]
      exact aux _ 0 (by simpa using hk)
    rw [hselT]
    have hU : ∀ t, usedR (sel (rows.map (patR (addT T k) ls)) T 0) t = usedR (sel (rows.map (patR T ls)) T 0) t := by
      intro t
      refine usedR_congr2 _ _ 0 (by simp) fun i q q' hq hq' => ?_
      obtain ⟨p, e1, rfl⟩ := hback hq
      obtain ⟨p', e2, rfl⟩ := hback hq'
      rw [e1] at e2; injection e2 with e2; subst e2
      exact ⟨by rw [patR_d.2.1, patR_d.2.1], fun _ => rfl⟩
    have hB : ∀ t, t ≠ d → baseR true (sel (rows.map (patR (addT T k) ls)) T 0) env0 t = baseR true (sel (rows.map (patR T ls)) T 0) env0 t := by
      intro t htd
      have : lookR (sel (rows.map (patR (addT T k) ls)) T 0) t = lookR (sel (rows.map (patR T ls)) T 0) t := by
        refine lookR_congr2 _ _ 0 (by simp) fun i q q' hq hq' => ?_
        obtain ⟨p, e1, rfl⟩ := hback hq
        obtain ⟨p', e2, rfl⟩ := hback hq'
        rw [e1] at e2; injection e2 with e2; subst e2
        refine ⟨by rw [patR_d.1, patR_d.1], fun hd => ⟨rfl, ?_⟩⟩
        rw [patR_d.1] at hd
        unfold patR
        rw [hsame p.d (by rw [hd]; exact htd)]
      unfold baseR; rw [this]
    have hS : stR true (sel (rows.map (patR (addT T k) ls)) T 0) env0 = upd (kill (stR true (sel (rows.map (patR T ls)) T 0) env0) d) d (.box τ m y) := by
      funext t
      by_cases htd : t = d
      · subst htd
        rw [upd_same]
        have hl : lookR (sel (rows.map (patR (addT T k) ls)) T 0) r.d = some (patR (addT T k) ls r) := by
          have := (hud (addT T k)).look (hmap (T := addT T k) g2) hTj
          rw [patR_d.1] at this; exact this
        rw [hrd] at hl
        have hp : patE (addT T k) ls t = some (.box τ m y) := patE_hit hnd hx (by simp [addT])
        have hb : baseR true (sel (rows.map (patR (addT T k) ls)) T 0) env0 t = .box τ m y := by
          unfold baseR; rw [hl]
          unfold patR; rw [hrd, hp]
          simp only [Row.ent, cond_true, hgbr]
        rw [stR_base (hused _ _ t h8) (by rw [hb]; intro q hq; cases hq), hb]
      · rw [upd_ne _ _ htd]
        have hkill : ∀ (E : St), (E t).root ≠ some d → kill E d t = E t := by
          intro E hne
          unfold kill killE
          cases hr : (E t).root with
          | none => rfl
          | some q => simp only [nbeq_ne (fun h => hne (by rw [hr, h]) : q ≠ d), cond_false]
        rw [hkill]
        · unfold stR
          rw [hU, hB t htd]
          cases usedR (sel (rows.map (patR T ls)) T 0) t
          · simp only [cond_false]
            cases (baseR true (sel (rows.map (patR T ls)) T 0) env0 t).root with
            | none => rfl
            | some q => simp only [hU]
          · rfl
        · rcases stR_cases true (sel (rows.map (patR T ls)) T 0) env0 t with h | ⟨h, _, _⟩
          · rw [h]; intro h; cases h
          · rw [h]
            unfold baseR
            cases hl : lookR (sel (rows.map (patR T ls)) T 0) t with
            | none => exact hroot t
            | some q =>
              obtain ⟨i, e1, _⟩ := mem_sel _ 0 (lookR_mem hl).1
              obtain ⟨p, e2, rfl⟩ := hback e1
              simp only [Row.ent, cond_true]
              cases (patR T ls p).gb
              · intro h; cases h
              · simp only [cond_true]
                unfold patR
                split
                · rename_i e' he'
                  obtain ⟨u, hu, _, _, rfl⟩ := patE_some he'
                  exact hbox u hu
                · exact (noRd_ok h11 p (List.mem_of_getElem? e2)).2
    rw [hS]; exact hinv
  · intro i q hq hTi hqg
    obtain ⟨p, e1, rfl⟩ := hback hq
    have hil : i < rows.length := by
      rcases Nat.lt_or_ge i rows.length with h | h
      · exact h
      · rw [List.getElem?_eq_none h] at e1; cases e1
    have hik : i ≠ k := by omega
    simp only [addT, nbeq_ne hik, Bool.false_or] at hTi
    have := hund i _ (hmap e1) hTi (by rw [patR_d.2.2.1] at hqg ⊢; exact hqg)
    rw [patR_d.1] at this ⊢
    exact this

theorem regionL_ok (hC : CtxOK P C) {id : Nat} {draw : Bool} {st' : St} {c : Prop} (h : regionL C draw env0 ops.toList = some (c, st')) (hc : c)
    {a : Act} {w : World} (hi : Inv P C.np w0 F0 H env0 a w) (hQ : ∀ a' w', Inv P C.np w0 F0 H st' a' w' → Q .normal a' w') : (Code.region id ops draw).wp P Q a w := by
  unfold regionL at h
  generalize hgen : genRows false C env0 ops.toList [] = g at h
  obtain ⟨c1, rows, tail⟩ := g
  simp only [] at h
  split at h
  · rename_i ls hls
    cases hB : (nodupN (tgts ls) && zFreeL (tgts ls) tail && (!draw || (lowB ops.toList 0 && gdB (ancB ops.toList) ops.toList 0 && raceB (ancB ops.toList) rows rows 0)))
    · rw [hB] at h; cases h
    rw [hB] at h
    simp only [cond_true, Option.some.injEq, Prod.mk.injEq] at h
    obtain ⟨rfl, rfl⟩ := h
    simp only [Bool.and_eq_true, Bool.or_eq_true, Bool.not_eq_true'] at hB
    obtain ⟨⟨hnd, hzf⟩, hdr⟩ := hB
    obtain ⟨ht, htail⟩ := genRows_ok (ops := ops) ops.toList [] hgen hc (by simp) (fun i r hr => by simp at hr)
    have htd : tail = ops.toList.drop rows.length := by
      apply List.ext_getElem?
      intro j
      rw [htail j]; simp
    have hlen : rows.length ≤ ops.size := by
      rcases Nat.lt_or_ge ops.size rows.length with h | h
      · obtain ⟨o, ho, _⟩ := ht.facts (List.getElem?_eq_getElem h)
        simp at ho
      · exact h
    obtain ⟨hl1, hl2⟩ := lateL_ok hls
    have hnopd : ∀ (i : Nat) (r : Row) r0 p0, rows[i]? = some r → r.pd ≠ some (r0, p0) := by
      intro i r r0 p0 hr hpd
      obtain ⟨o, _, hf⟩ := ht.facts hr
      rcases hf.op with ⟨_, _, _, h⟩ | ⟨_, _, _, h, _⟩
      · rw [h] at hpd; cases hpd
      · cases h
    have hdB : draw = true → lowB ops.toList 0 = true ∧ gdB (ancB ops.toList) ops.toList 0 = true ∧ raceB (ancB ops.toList) rows rows 0 = true := by
      intro hd
      rcases hdr with h | h
      · rw [hd] at h; cases h
      · exact ⟨h.1.1, h.1.2, h.2⟩
    have hlow : draw = true → ∀ i k, Waits ops i k → k < i := fun hd i k hw => lowB_ok ops.toList 0 (by simp) (hdB hd).1 i k (Nat.zero_le i) hw
    have hancr : ∀ {j k : Nat}, ((ancB ops.toList).getD j 0).testBit k = true → Reach ops j k := by
      intro j k h
      have := ancB_ok h
      simpa using this
    have hmem : ∀ u ∈ ls, ∃ j, ls[j]? = some u := fun u hu => List.mem_iff_getElem?.1 hu
    have hkinj : ∀ u ∈ ls, ∀ v ∈ ls, u.1 = v.1 → u = v := by
      intro u hu v hv h
      obtain ⟨i, hi⟩ := hmem u hu
      obtain ⟨j, hj⟩ := hmem v hv
      have e1 := (hl2 i u hi).1
      have e2 := (hl2 j v hj).1
      have : i = j := by omega
      subst this
      rw [hi] at hj; injection hj
    have hks : ∀ u ∈ ls, rows.length ≤ u.1 := by
      intro u hu
      obtain ⟨i, hi⟩ := hmem u hu
      have := (hl2 i u hi).1
      omega
    have hbox : ∀ u ∈ ls, ∀ d, u.2.2.root ≠ some d := by
      intro u hu d
      obtain ⟨i, hi⟩ := hmem u hu
      obtain ⟨_, o, _, hf⟩ := hl2 i u hi
      obtain ⟨T, z, j, r, τ, m, x, y, _, _, _, _, _, _, he, _⟩ := hf.ex
      rw [he]; intro h; cases h
    have htgt : ∀ u ∈ ls, ∃ (j : Nat) (r : Row), rows[j]? = some r ∧ r.d = u.2.1 ∧ r.ch = [] ∧ noRd rows u.2.1 = true ∧ (draw = true → ((ancB ops.toList).getD u.1 0).testBit j = true) := by
      intro u hu
      obtain ⟨i, hi⟩ := hmem u hu
      obtain ⟨e1, o, _, hf⟩ := hl2 i u hi
      obtain ⟨T, z, j, r, τ, m, x, y, _, _, _, h4, _, _, _, h7, _, _, _, h11, h12, _⟩ := hf.ex
      obtain ⟨_, g2, g3⟩ := idxR_ok h4
      simp only [Nat.sub_zero] at g2
      exact ⟨j, r, g2, (lookR_mem g3).2, h7, h11, by rw [e1]; exact h12⟩
    have hroot : ∀ u ∈ ls, ∀ t, (env0 t).root ≠ some u.2.1 := by
      intro u hu t hr
      obtain ⟨j, r, e1, e2, _⟩ := htgt u hu
      obtain ⟨F, S, hi⟩ := hi
      have := (hi.ent t).root_owner (r := u.2.1) hr
      obtain ⟨o, _, hf⟩ := ht.facts e1
      have hfr := hf.fresh
      rw [e2, this] at hfr; cases hfr
    refine wp_region_run hC.mixed (fun T a w => InvT P C w0 F0 H env0 (rows.map (patR T ls)) T a w) hlow ?_ ?_ ?_
    · intro T i hin hTi hdrw hnd'
      intro a w hJ
      have hwaits : ∀ k, ((ancB ops.toList).getD i 0).testBit k = true → draw = true → T k = true := by
        intro k hk hd
        obtain ⟨hcl, hw⟩ := hdrw hd
        exact reach_of_ready hcl hw (hancr hk)
      by_cases him : i < rows.length
      · have hr : rows[i]? = some rows[i] := List.getElem?_eq_getElem him
        have ho : ops[i]? = some ops[i] := Array.getElem?_eq_getElem hin
        obtain ⟨o', ho', hf⟩ := ht.facts hr
        rw [ho] at ho'; injection ho' with ho'; subst ho'
        have hgd : ∀ g b, ops[i].guard = some (g, b) → T g = true := by
          intro g b hgb
          cases hdd : draw with
          | true =>
            have := gdB_ok (hdB hdd).2.1 i ops[i] g b (by simp [hin]) hgb
            rw [Nat.zero_add] at this
            exact hwaits g this hdd
          | false =>
            rw [hnd' hdd g]
            obtain ⟨gs, hg, _⟩ := hf.guard
            rw [hgb] at hg
            simp only [guardR] at hg
            split at hg
            · rename_i q hq
              rw [List.getElem?_take] at hq
              split at hq
              · rename_i hgi; exact blt_iff.2 hgi
              · cases hq
            · cases hg
        have hag : ∀ s ∈ rows[i].rs, ∀ j q, rows[j]? = some q → q.d = s ∨ s ∈ q.used → T j = Nat.blt j i := by
          intro s hs j q hq hd
          cases hdd : draw with
          | true =>
            obtain ⟨hcl, hw⟩ := hdrw hdd
            have h1 := raceB_ok (hdB hdd).2.2 i _ hr
            rw [Nat.zero_add] at h1
            have h2 := raceB1_ok h1 j q hq (touchB_of hs hd)
            rw [Nat.zero_add] at h2
            rcases h2 with h2 | h2 | h2
            · subst h2; rw [hTi, blt_self]
            · rw [reach_of_ready hcl hw (hancr h2), blt_iff.2 (reach_lt (hlow hdd) (hancr h2))]
            · have hlt := reach_lt (hlow hdd) (hancr h2)
              have e1 : Nat.blt j i = false := by
                cases hb : Nat.blt j i
                · rfl
                · have := blt_iff.1 hb; omega
              rw [e1]
              cases hTj : T j
              · rfl
              · have := hcl.reach (hancr h2) hTj
                rw [hTi] at this; cases this
          | false => exact hnd' hdd j
        have hpat : Pat rows (rows.map (patR T ls)) i rows[i] := by
          refine ⟨by simp, fun j q q' hq hq' => ?_⟩
          simp only [List.getElem?_map, hq, Option.map_some, Option.some.injEq] at hq'
          subst hq'
          refine ⟨patR_d.1, patR_d.2.1, patR_d.2.2.1, fun hqr => patR_none (patE_none fun u hu hd => ?_)⟩
          obtain ⟨_, _, _, _, _, hno, _⟩ := htgt u hu
          exact absurd (hd ▸ hqr) (noRd_ok hno _ (List.mem_of_getElem? hr)).1
        have hr' : (rows.map (patR T ls))[i]? = some rows[i] := by
          simp only [List.getElem?_map, hr, Option.map_some, Option.some.injEq]
          refine patR_none (patE_none fun u hu hd => ?_)
          obtain ⟨j, r, e1, e2, _, _, hanc⟩ := htgt u hu
          have hij : j = i := ht.ud j i r rows[i] e1 hr (e2.trans hd)
          subst hij
          have hku := hks u hu
          cases hdd : draw with
          | true =>
            obtain ⟨hcl, hw⟩ := hdrw hdd
            cases hTu : T u.1
            · rfl
            · have := hcl.reach (hancr (hanc hdd)) hTu
              rw [hTi] at this; cases this
          | false =>
            rw [hnd' hdd u.1]
            cases hb : Nat.blt u.1 j
            · rfl
            · have := blt_iff.1 hb; omega
        have hsame : rows.map (patR (addT T i) ls) = rows.map (patR T ls) := by
          refine List.map_congr_left fun q _ => ?_
          unfold patR
          rw [patE_congr (T := addT T i) (T' := T) fun u hu _ => ?_]
          have := hks u hu
          simp [addT, nbeq_ne (show u.1 ≠ i by omega)]
        refine wpOp_mono ?_ (row_okP hC ht hr hTi ho hgd hpat hr' (fun r0 p0 hpd => absurd hpd (hnopd i _ r0 p0 hr)) hag a w hJ)
        intro a' w' h'
        show InvT P C w0 F0 H env0 (rows.map (patR (addT T i) ls)) (addT T i) a' w'
        rw [hsame]; exact h'
      · have hil : i - rows.length < ls.length := by
          rw [hl1, htd]; simp; omega
        have hls' : ls[i - rows.length]? = some ls[i - rows.length] := List.getElem?_eq_getElem hil
        obtain ⟨e1, o, e2, hf⟩ := hl2 _ _ hls'
        rw [show rows.length + (i - rows.length) = i from by omega] at e1 hf
        have ho : ops[i]? = some o := by
          rw [htail] at e2
          rw [show rows.length + (i - rows.length) = i from by omega] at e2
          exact e2
        have hxm0 : ∀ x : Nat × Nat × Ent, ls[i - rows.length]? = some x → x.1 = i → (i, x.2.1, x.2.2) ∈ ls := by
          rintro ⟨k', d', e'⟩ hx hk'
          have hk' : k' = i := hk'
          rw [← hk']; exact List.mem_of_getElem? hx
        have hxm := hxm0 _ hls' e1
        refine late_ok hC ht hnd hxm (by omega) hkinj ho hf ?_ hTi ?_ (hroot (i, ls[i - rows.length].2.1, ls[i - rows.length].2.2) hxm) (fun u hu => hbox u hu _) a w hJ
        · intro T0 a0 z hz
          have aux : ∀ (l : List Oper) (n : Nat), zFreeL (tgts ls) l = true → l[n]? = some o → zFree (tgts ls) z = true := by
            intro l
            induction l with
            | nil => intro n _ h; simp at h
            | cons p l ih =>
              intro n h1 h2
              simp only [zFreeL, Bool.and_eq_true] at h1
              cases n with
              | zero =>
                simp only [List.getElem?_cons_zero, Option.some.injEq] at h2
                subst h2
                rw [hz] at h1; exact h1.1
              | succ n => exact ih n h1.2 (by simpa using h2)
          exact aux tail _ hzf e2
        · intro j hj hanc
          cases hdd : draw with
          | true => exact hwaits j (hanc hdd) hdd
          | false => rw [hnd' hdd j]; exact blt_iff.2 (by omega)
    · intro T a w hT hJ
      refine hQ a w ?_
      have hsame : rows.map (patR T ls) = rows.map (patR (fun _ => true) ls) := by
        refine List.map_congr_left fun q _ => ?_
        unfold patR
        rw [patE_congr (T := T) (T' := fun _ => true) fun u hu _ => ?_]
        obtain ⟨i, hi⟩ := hmem u hu
        have h1 := (hl2 i u hi).1
        have h2 : i < ls.length := by
          rcases Nat.lt_or_ge i ls.length with h | h
          · exact h
          · rw [List.getElem?_eq_none h] at hi; cases hi
        rw [hl1, htd] at h2
        simp at h2
        exact hT _ (by omega)
      have hJ : InvT P C w0 F0 H env0 (rows.map (patR T ls)) T a w := hJ
      rw [hsame] at hJ
      refine hJ.doneG ?_ ?_ (fun j hj => hT j (by simp at hj; omega))
      · intro i r hr hch
        simp only [List.getElem?_map, Option.map_eq_some_iff] at hr
        obtain ⟨p, e1, rfl⟩ := hr
        rw [patR_d.2.2.2] at hch
        rw [patR_d.2.2.1]
        exact (ht.gb i e1).2 (by rw [hch]; intro x hx; cases hx)
      · intro i r hr
        simp only [List.getElem?_map, Option.map_eq_some_iff] at hr
        obtain ⟨p, e1, rfl⟩ := hr
        obtain ⟨o, _, hf⟩ := ht.facts e1
        rw [patR_d.2.2.2]
        cases hp : patE (fun _ => true) ls p.d with
        | none => rw [patR_none hp]; exact hf.cond.imp (fun h => h) (fun h => h.2)
        | some e =>
          left
          obtain ⟨u, hu, hd, _, _⟩ := patE_some hp
          obtain ⟨j, r, g1, g2, g3, _⟩ := htgt u hu
          have := ht.ud i j p r e1 g1 (hd.symm.trans g2.symm)
          subst this
          rw [e1] at g1; injection g1 with g1; subst g1
          exact g3
    · intro w' hh hos htp hout
      obtain ⟨F, S, hi⟩ := hi
      refine ⟨F, S, ?_, fun j q _ h => by cases h⟩
      have hs : ∀ (l : List Row) (k : Nat), sel l (fun _ => false) k = [] := by
        intro l
        induction l with
        | nil => intro k; rfl
        | cons r l ih => intro k; simp only [sel, cond_false]; exact ih (k + 1)
      rw [hs]
      have he : stR true [] env0 = env0 := by
        funext t
        unfold stR baseR
        simp only [usedR, cond_false, lookR]
        cases (env0 t).root <;> rfl
      rw [he]
      exact hi.world hos htp hout (by rw [hh]; exact Nat.le_refl _) (fun b _ => by rw [hh]) (fun k _ _ => by rw [hh])
  · cases h

theorem regionB_ok (hC : CtxOK P C) {stp : St → Oper → Option (Prop × St)} (hstp : StpOK P C stp) {id : Nat} {draw : Bool} {st' : St} {c : Prop} (h : regionB C stp draw env0 ops.toList = some (c, st')) (hc : c)
    {a : Act} {w : World} (hi : Inv P C.np w0 F0 H env0 a w) (hQ : ∀ a' w', Inv P C.np w0 F0 H st' a' w' → Q .normal a' w') : (Code.region id ops draw).wp P Q a w := by
  unfold regionB at h
  split at h
  · rename_i r hr
    simp only [Option.some.injEq] at h
    subst h
    exact region_ok hC hstp hr hc hi hQ
  · split at h
    · rename_i r hr
      simp only [Option.some.injEq] at h
      subst h
      exact regionL_ok hC hr hc hi hQ
    · obtain ⟨F, S, hi⟩ := hi
      exact regionP_ok hC hstp h hc ⟨_, _, hi.dropAll' C.ded⟩ hQ
theorem regionA_ok (hC : CtxOK P C) {stp : St → Oper → Option (Prop × St)} (hstp : StpOK P C stp) {id : Nat} {draw : Bool} {st' : St} {c : Prop} (h : regionA C stp draw env0 ops.toList = some (c, st')) (hc : c)
    {a : Act} {w : World} (hi : Inv P C.np w0 F0 H env0 a w) (hQ : ∀ a' w', Inv P C.np w0 F0 H st' a' w' → Q .normal a' w') : (Code.region id ops draw).wp P Q a w := by
  unfold regionA at h
  split at h
  · rename_i r hr
    simp only [Option.some.injEq] at h
    subst h
    exact regionB_ok hC hstp hr hc hi hQ
  · exact regionB_ok hC hstp h hc (frzA_ok hi) hQ
end
end Go.Lf
namespace Go.Lf

def dFact : (τ : Ty) → τ.den → Prop
  | .int k, n => inK k n
  | .slice e, xs => List.length xs ≤ lim ∧ ∀ x, x ∈ (xs : List e.den) → dFact e x
  | .prod a b, x => dFact a x.1 ∧ dFact b x.2
  | .arr n e, xs => List.length xs = n ∧ ∀ x, x ∈ (xs : List e.den) → dFact e x
  | .bool, _ => True
  | .unit, _ => True
  | .str, s => List.length s ≤ lim

theorem Own.fact {F : NSet} {w : World} : ∀ {τ : Ty} {m : Md} {S : NSet} {cs : List Value} {x : τ.den}, Own F w τ m S cs x → dFact τ x
  | .int _, _, _, _, _, h => h.2
  | .bool, _, _, _, _, _ => trivial
  | .str, _, _, _, _, h => h.2
  | .unit, _, _, _, _, _ => trivial
  | .prod a b, m, S, cs, x, h => by
    obtain ⟨c1, c2, S1, S2, _, _, _, _, h1, h2⟩ := h
    exact ⟨Own.fact h1, Own.fact h2⟩
  | .slice e, m, S, cs, xs, h => by
    obtain ⟨ao, cap, _, hc, hl, h⟩ := h
    refine ⟨hl, ?_⟩
    intro x hx
    obtain ⟨i, hi⟩ := List.mem_iff_getElem?.1 hx
    cases m with
    | own me =>
      rcases h with ⟨_, h⟩ | ⟨b, off, row, T, Si, _, _, _, _, _, _, _, he⟩
      · have hl0 : xs.length ≤ 0 := by omega
        have := List.length_eq_zero_iff.1 (Nat.le_zero.1 hl0)
        rw [this] at hx; cases hx
      · exact Own.fact (he i x hi)
    | shr =>
      rcases h with h | ⟨b, off, row, T, fr, _, _, _, _, he⟩
      · rw [h] at hx; cases hx
      · exact Own.fact (he i x hi)
    | pair _ _ =>
      rcases h with h | ⟨b, off, row, T, fr, _, _, _, _, he⟩
      · rw [h] at hx; cases hx
      · exact Own.fact (he i x hi)
  | .arr n e, m, S, cs, xs, h => by
    obtain ⟨hn, _, Si, _, _, he⟩ := h
    refine ⟨hn, ?_⟩
    intro x hx
    obtain ⟨i, hi⟩ := List.mem_iff_getElem?.1 hx
    exact Own.fact (he i x hi)

theorem OwnV.fact {F S : NSet} {w : World} {τ : Ty} {m : Md} {v : Value} {x : τ.den} (h : OwnV F w τ m S v x) : dFact τ x := by
  obtain ⟨cs, _, h⟩ := h; exact h.fact

def entFact : Ent → Prop
  | .shr τ x => dFact τ x
  | .own τ _ x => dFact τ x
  | .box τ _ x => dFact τ x
  | .saddr τ x => dFact τ x
  | .full e x => dFact (.slice e) x
  | _ => True

theorem EntOK.fact {P : Program} {F : NSet} {w : World} {env : St} {V : Nat → Value} {S : Nat → NSet} {t : Nat} : ∀ {e : Ent}, EntOK P F w env V S t e → entFact e
  | .shr _ _, h => OwnV.fact h
  | .own _ _ _, ⟨_, _, _, h⟩ => h.2.2.fact
  | .box _ _ _, ⟨_, _, _, h⟩ => h.2.2.fact
  | .saddr _ _, ⟨_, _, _, _, _, _, _, _, _, h⟩ => h.fact
  | .full _ _, ⟨_, _, h⟩ => h.fact
  | .dead, _ => trivial
  | .sub _ _, _ => trivial
  | .addr _ _, _ => trivial
  | .pend _ _ _ _ _, _ => trivial
  | .rd _ _ _, _ => trivial
  | .raddr _ _ _, _ => trivial
  | .nilS, _ => trivial
  | .fn _ _ _, _ => trivial
  | .tup _ _ _, _ => trivial

def factsL : List (Nat × Ent) → List Nat → Prop
  | [], _ => True
  | (k, e) :: l, ks => (bif memN ks k then True else entFact e) ∧ factsL l (k :: ks)

theorem factsL_ok {P : Program} {N : NP} {w0 : World} {F0 H : NSet} {env : St} {a : Act} {w : World} (hi : Inv P N w0 F0 H env a w) {f : List (Nat × Ent)} (hf : ∀ t e, look f t = some e → env t = e) :
    ∀ (l : List (Nat × Ent)) (ks : List Nat), (∀ t e, memN ks t = false → look l t = some e → look f t = some e) → factsL l ks
  | [], _, _ => trivial
  | (k, e) :: l, ks, h => by
    obtain ⟨F, S, hi⟩ := hi
    refine ⟨?_, factsL_ok ⟨F, S, hi⟩ hf l (k :: ks) ?_⟩
    · cases hm : memN ks k
      · have h1 := h k e hm (by simp [look])
        have := hi.ent k
        rw [hf k e h1] at this
        exact this.fact
      · trivial
    · intro t e' ht hl
      simp only [memN] at ht
      cases hk : Nat.beq k t
      · rw [hk] at ht
        exact h t e' ht (by simp only [look, hk, cond_false]; exact hl)
      · rw [hk] at ht; cases ht

def factsK : (ks : List AK) → kdens ks → Prop
  | [], _ => True
  | .val τ :: ks, x => dFact τ x.1 ∧ factsK ks x.2
  | .sptr τ :: ks, x => dFact τ x.1 ∧ factsK ks x.2
  | .fn _ _ :: ks, x => factsK ks x.2

theorem factsK_ok {P : Program} {F : NSet} {w : World} : ∀ {ks : List AK} {vs : List Value} {x : kdens ks}, ArgsOK P F w ks vs x → factsK ks x
  | [], _, _, _ => trivial
  | .val τ :: ks, vs, x, ⟨v, r, _, h1, h2⟩ => ⟨OwnV.fact h1, factsK_ok h2⟩
  | .sptr τ :: ks, vs, x, ⟨v, r, _, h1, h2⟩ => by
    obtain ⟨_, _, _, _, _, _, _, _, _, h⟩ := h1
    exact ⟨h.fact, factsK_ok h2⟩
  | .fn _ _ :: ks, vs, x, ⟨v, r, _, _, h2⟩ => (factsK_ok h2 : factsK ks x.2)
end Go.Lf
namespace Go.Lf

/-- What is known may be replaced by less. -/
def leE : Ent → Ent → Prop
  | _, .dead => True
  | .shr τ x, .shr σ y => match castD (τ := τ) (σ := σ) x with
    | some z => z = y
    | none => False
  | .full e x, .shr σ y => match castD (τ := .slice e) (σ := σ) x with
    | some z => z = y
    | none => False
  | .full e x, .full e' y => match castD (τ := .slice e) (σ := .slice e') x with
    | some z => z = y
    | none => False
  | .own τ m x, .own σ m' y => bif decide (m = m') then (match castD (τ := τ) (σ := σ) x with
    | some z => z = y
    | none => False) else False
  | .box τ m x, .box σ m' y => bif decide (m = m') then (match castD (τ := τ) (σ := σ) x with
    | some z => z = y
    | none => False) else False
  | .saddr τ x, .saddr σ y => match castD (τ := τ) (σ := σ) x with
    | some z => z = y
    | none => False
  | .rd r τ x, .rd r' σ y => bif Nat.beq r r' then (match castD (τ := τ) (σ := σ) x with
    | some z => z = y
    | none => False) else False
  | .raddr r τ x, .raddr r' σ y => bif Nat.beq r r' then (match castD (τ := τ) (σ := σ) x with
    | some z => z = y
    | none => False) else False
  | .sub r p, .sub r' p' => bif Nat.beq r r' then p = p' else False
  | .addr r p, .addr r' p' => bif Nat.beq r r' then p = p' else False
  | .nilS, .nilS => True
  | .nilS, .shr (.slice _) y => y = []
  | .nilS, .own (.slice _) (.own _) y => y = []
  | .fn A R g, .fn A' R' g' => ∃ (h1 : A = A') (h2 : R = R'), (h1 ▸ h2 ▸ g : Fun A' R') = g'
  | _, _ => False

theorem leE_cases {e e' : Ent} (h : leE e e') : e' = .dead ∨ e' = e ∨ (e = .nilS ∧ ∃ τ, e' = .shr (.slice τ) ([] : List τ.den)) ∨ (e = .nilS ∧ ∃ τ me, e' = .own (.slice τ) (.own me) ([] : List τ.den)) ∨
    ∃ e0 x, e = .full e0 x ∧ e' = .shr (.slice e0) x := by
  have aux : ∀ {τ σ : Ty} {x : τ.den} {y : σ.den} {f : (τ : Ty) → τ.den → Ent}, (match castD (τ := τ) (σ := σ) x with | some z => z = y | none => False) → f σ y = f τ x := by
    intro τ σ x y f h
    split at h
    · rename_i z hz
      have := castD_some hz
      injection this with e1 e2
      subst e1; cases e2; subst h; rfl
    · cases h
  unfold leE at h
  split at h
  · exact .inl rfl
  · exact .inr (.inl (aux (f := .shr) h))
  · rename_i e x σ y
    right; right; right; right
    split at h
    · rename_i z hz
      have := castD_some hz
      injection this with e1 e2
      subst e1; cases e2; subst h
      exact ⟨e, x, rfl, rfl⟩
    · cases h
  · rename_i e x e' y
    right; left
    split at h
    · rename_i z hz
      have := castD_some hz
      injection this with e1 e2
      injection e1 with e1
      subst e1; cases e2; subst h; rfl
    · cases h
  · rename_i τ m x σ m' y
    cases hm : decide (m = m')
    · rw [hm] at h; cases h
    · rw [hm] at h
      have := of_decide_eq_true hm
      subst this
      exact .inr (.inl (aux (f := fun τ x => .own τ m x) h))
  · rename_i τ m x σ m' y
    cases hm : decide (m = m')
    · rw [hm] at h; cases h
    · rw [hm] at h
      have := of_decide_eq_true hm
      subst this
      exact .inr (.inl (aux (f := fun τ x => .box τ m x) h))
  · exact .inr (.inl (aux (f := .saddr) h))
  · rename_i r τ x r' σ y
    cases hm : Nat.beq r r'
    · rw [hm] at h; cases h
    · rw [hm] at h
      have := nbeq_iff.1 hm
      subst this
      exact .inr (.inl (aux (f := fun τ x => .rd r τ x) h))
  · rename_i r τ x r' σ y
    cases hm : Nat.beq r r'
    · rw [hm] at h; cases h
    · rw [hm] at h
      have := nbeq_iff.1 hm
      subst this
      exact .inr (.inl (aux (f := fun τ x => .raddr r τ x) h))
  · rename_i r p r' p'
    cases hm : Nat.beq r r'
    · rw [hm] at h; cases h
    · rw [hm] at h
      have := nbeq_iff.1 hm
      subst this
      simp only [cond_true] at h
      subst h
      exact .inr (.inl rfl)
  · rename_i r p r' p'
    cases hm : Nat.beq r r'
    · rw [hm] at h; cases h
    · rw [hm] at h
      have := nbeq_iff.1 hm
      subst this
      simp only [cond_true] at h
      subst h
      exact .inr (.inl rfl)
  · exact .inr (.inl rfl)
  · rename_i τ y
    subst h
    exact .inr (.inr (.inl ⟨rfl, τ, rfl⟩))
  · rename_i τ me y
    subst h
    exact .inr (.inr (.inr (.inl ⟨rfl, τ, me, rfl⟩)))
  · obtain ⟨h1, h2, h⟩ := h
    subst h1; subst h2; subst h
    exact .inr (.inl rfl)
  · cases h

theorem Inv0.le {P : Program} {N : NP} {w0 : World} {F0 H : NSet} {env : St} {a : Act} {w : World} {F : NSet} {S : Nat → NSet} (hi : Inv0 P N w0 F0 H env a w F S) {env2 : St}
    (h1 : ∀ t, leE (env t) (env2 t)) (h2 : ∀ t r, (env2 t).root = some r → (env2 r).isOwner = true) : Inv0 P N w0 F0 H env2 a w F S := by
  refine ⟨hi.os, hi.tape, hi.output, hi.size, hi.block, hi.fb, hi.f0, hi.fn, hi.sb, hi.sd, ?_, hi.defers, hi.slots⟩
  intro t
  have ht := hi.ent t
  rcases leE_cases (h1 t) with h | h | ⟨h, τ, h'⟩ | ⟨h, τ, me, h'⟩ | ⟨e0, x, h, h'⟩
  · rw [h]; trivial
  · rw [h]
    refine EntOK.keep (fun _ h => h) (fun _ _ => rfl) rfl ?_ (fun _ => ⟨rfl, fun _ _ => rfl, fun b h1 h2 => absurd h1 h2⟩) ht
    intro r hr
    refine ⟨fun ho => ?_, fun _ => rfl, rfl, fun _ _ => rfl, fun b h1 h2 => absurd h1 h2, fun b hb => (hi.sb r b hb).2.2⟩
    have ho2 := h2 t r (by rw [h]; exact hr)
    rcases leE_cases (h1 r) with k | k | ⟨k, _, k'⟩ | ⟨k, _, _, k'⟩ | ⟨_, _, k, k'⟩
    · rw [k] at ho2; cases ho2
    · exact k
    · rw [k] at ho; cases ho
    · rw [k] at ho; cases ho
    · rw [k] at ho; cases ho
  · rw [h] at ht
    rw [h']
    have ht : a.tmps.getD t undef = .slice none 0 0 := ht
    show OwnV F w (.slice τ) .shr none' (a.tmps.getD t undef) ([] : List τ.den)
    rw [ht]; exact .nil _ _ _ _ _
  · rw [h] at ht
    rw [h']
    have ht : a.tmps.getD t undef = .slice none 0 0 := ht
    obtain ⟨cs, q1, q2⟩ := OwnV.nil F w τ (.own me) (S t)
    exact ⟨.val cs, S t, cs, .inl ⟨rfl, rfl, rfl, ht.trans q1⟩, rfl, q2⟩
  · rw [h] at ht
    rw [h']
    obtain ⟨_, _, ht⟩ := ht
    exact ht

/-- A loop's invariant: what is known at its head, for some x. -/
structure LoopI where
  ι : Type
  inv : ι → Prop
  dec : ι → Nat
  ovr : ι → List (Nat × Ent)
  keep : List Nat
  sub : ι → List LoopI := fun _ => []

def stx (l : LoopI) (st : St) (x : l.ι) : St := fun t => match look (l.ovr x) t with
  | some e => e
  | none => bif memN l.keep t then st t else .dead

def keysL : List (Nat × Ent) → List Nat
  | [] => []
  | p :: l => p.1 :: keysL l

def leAll (st st' : St) : List Nat → Prop
  | [] => True
  | t :: l => leE (st t) (st' t) ∧ leAll st st' l
def rootsB (st : St) : List Nat → Bool
  | [] => true
  | t :: l => (match (st t).root with
    | some r => (st r).isOwner
    | none => true) && rootsB st l

/-- The loop's head is reached with x. -/
def atX (l : LoopI) (st : St) (x : l.ι) (st' : St) : Prop :=
  bif rootsB (stx l st x) (keysL (l.ovr x) ++ l.keep) then leAll st' (stx l st x) (keysL (l.ovr x) ++ l.keep) else False

def nl : Code → Nat
  | .loop b => 1
  | .seq a b => nl a + nl b
  | .cond _ a b => nl a + nl b
  | .block _ b => nl b
  | _ => 0

def wpI (C : Ctx) (stp : St → Oper → Option (Prop × St)) : List LoopI → Code → Nat → St → (St → Prop) → (Nat → St → Prop) → (St → Prop) → Prop
  | _, .skip, _, st, Qn, _, _ => Qn st
  | L, .region _ ops draw, _, st, Qn, _, _ => match regionA C stp draw st ops.toList with
    | some (c, st') => c ∧ Qn st'
    | none => False
  | L, .seq a b, k, st, Qn, Qx, Qr => wpI C stp L a k st (fun st' => wpI C stp L b (k + nl a) st' Qn Qx Qr) Qx Qr
  | L, .cond x a b, k, st, Qn, Qx, Qr => match (viewO st x).val with
    | some ⟨.bool, p⟩ => (p = true → wpI C stp L a k st Qn Qx Qr) ∧ (p = false → wpI C stp L b (k + nl a) st Qn Qx Qr)
    | _ => False
  | L, .block id b, k, st, Qn, Qx, Qr => wpI C stp L b k st Qn (fun i st' => bif Nat.beq i id then Qn st' else Qx i st') Qr
  | L, .loop b, k, st, _, Qx, Qr => match L[k]? with
    | some l => (∃ x, l.inv x ∧ atX l st x st) ∧ ∀ x, l.inv x → factsL (l.ovr x) [] → wpI C stp (l.sub x) b 0 (stx l st x) (fun st' => ∃ y, l.inv y ∧ l.dec y < l.dec x ∧ atX l st y st') Qx Qr
    | none => False
  | _, .exit id, _, st, _, Qx, _ => Qx id st
  | _, .ret, _, st, _, _, Qr => Qr st
  | _, _, _, _, _, _, _ => False

section
variable {P : Program} {C : Ctx} {w0 : World} {F0 H : NSet}

theorem look_keys : ∀ {l : List (Nat × Ent)} {t : Nat} {e : Ent}, look l t = some e → t ∈ keysL l
  | [], _, _, h => by cases h
  | (k, v) :: l, t, e, h => by
    simp only [look] at h
    cases hb : Nat.beq k t
    · rw [hb] at h; simp only [keysL, List.mem_cons]; exact .inr (look_keys h)
    · simp only [keysL, List.mem_cons]; exact .inl (nbeq_iff.1 hb).symm

theorem leAll_mem {st st' : St} : ∀ {l : List Nat} {t : Nat}, leAll st st' l → t ∈ l → leE (st t) (st' t)
  | x :: l, t, h, ht => by
    rcases List.mem_cons.1 ht with rfl | ht
    · exact h.1
    · exact leAll_mem h.2 ht
theorem rootsB_mem {st : St} : ∀ {l : List Nat} {t r : Nat}, rootsB st l = true → t ∈ l → (st t).root = some r → (st r).isOwner = true
  | x :: l, t, r, h, ht, hr => by
    simp only [rootsB, Bool.and_eq_true] at h
    rcases List.mem_cons.1 ht with rfl | ht
    · have := h.1; rw [hr] at this; exact this
    · exact rootsB_mem h.2 ht hr

theorem leE_dead (e : Ent) : leE e .dead := by cases e <;> trivial

theorem atX_ok {N : NP} {l : LoopI} {st st' : St} {x : l.ι} (h : atX l st x st') {a : Act} {w : World} (hi : Inv P N w0 F0 H st' a w) : Inv P N w0 F0 H (stx l st x) a w := by
  unfold atX at h
  cases hb : rootsB (stx l st x) (keysL (l.ovr x) ++ l.keep)
  · rw [hb] at h; cases h
  rw [hb] at h
  simp only [cond_true] at h
  obtain ⟨F, S, hi⟩ := hi
  have hkey : ∀ t, stx l st x t ≠ .dead → t ∈ keysL (l.ovr x) ++ l.keep := by
    intro t ht
    unfold stx at ht
    rw [List.mem_append]
    cases hl : look (l.ovr x) t with
    | some e => exact .inl (look_keys hl)
    | none =>
      rw [hl] at ht
      simp only [] at ht
      cases hm : memN l.keep t
      · rw [hm] at ht; exact absurd rfl ht
      · exact .inr (memN_mem.1 hm)
  refine ⟨F, S, hi.le ?_ ?_⟩
  · intro t
    by_cases ht : stx l st x t = .dead
    · rw [ht]; exact leE_dead _
    · exact leAll_mem h (hkey t ht)
  · intro t r hr
    exact rootsB_mem hb (hkey t (fun h => by rw [h] at hr; cases hr)) hr

/-- A loop with an invariant that says of some x what is known. -/
theorem wp_loop_x {c : Code} {ι : Type} (I : ι → Act → World → Prop) (dec : ι → Nat) {Q : Exit → Act → World → Prop} {a : Act} {w : World} (x : ι) (h0 : I x a w)
    (round : ∀ x a w, I x a w → c.wp P (Exit.then (fun a' w' => ∃ y, I y a' w' ∧ dec y < dec x) Q) a w) : (Code.loop c).wp P Q a w := by
  have hmin : ∀ (p : Nat → Prop) (n : Nat), p n → ∃ m, p m ∧ ∀ k, p k → m ≤ k := by
    intro p n
    induction n using Nat.strongRecOn with
    | _ n ih =>
      intro hn
      by_cases h : ∃ m, m < n ∧ p m
      · obtain ⟨m, h1, h2⟩ := h; exact ih m h1 h2
      · refine ⟨n, hn, fun k hk => ?_⟩
        rcases Nat.lt_or_ge k n with h' | h'
        · exact absurd ⟨k, h', hk⟩ h
        · exact h'
  let p : Act → World → Nat → Prop := fun a w n => ∃ x, I x a w ∧ dec x = n
  have hex : ∀ a w, ∃ m, (∃ n, p a w n) → p a w m ∧ ∀ k, p a w k → m ≤ k := by
    intro a w
    by_cases h : ∃ n, p a w n
    · obtain ⟨n, hn⟩ := h
      obtain ⟨m, h1, h2⟩ := hmin (p a w) n hn
      exact ⟨m, fun _ => ⟨h1, h2⟩⟩
    · exact ⟨0, fun h' => absurd h' h⟩
  let μ : Act → World → Nat := fun a w => Classical.choose (hex a w)
  have hμ : ∀ a w, (∃ n, p a w n) → p a w (μ a w) ∧ ∀ k, p a w k → μ a w ≤ k := fun a w => Classical.choose_spec (hex a w)
  refine wp_loop (fun a w => ∃ x, I x a w) μ ⟨x, h0⟩ ?_
  intro a w ⟨x, hx⟩
  obtain ⟨⟨y, hy, hd⟩, _⟩ := hμ a w ⟨_, x, hx, rfl⟩
  refine wp_mono (round y a w hy) ?_
  intro e a' w' h
  cases e with
  | normal =>
    obtain ⟨z, hz, hlt⟩ := h
    refine ⟨⟨z, hz⟩, ?_⟩
    have := (hμ a' w' ⟨_, z, hz, rfl⟩).2 _ ⟨z, hz, rfl⟩
    omega
  | _ => exact h

theorem wpI_ok (hC : CtxOK P C) {stp : St → Oper → Option (Prop × St)} (hstp : StpOK P C stp) :
    ∀ (c : Code) {L : List LoopI} {k : Nat} {st : St} {Qn : St → Prop} {Qx : Nat → St → Prop} {Qr : St → Prop} {Q : Exit → Act → World → Prop} {a : Act} {w : World}, wpI C stp L c k st Qn Qx Qr → Inv P C.np w0 F0 H st a w →
      (∀ st a w, Qn st → Inv P C.np w0 F0 H st a w → Q .normal a w) → (∀ i st a w, Qx i st → Inv P C.np w0 F0 H st a w → Q (.exit i) a w) → (∀ st a w, Qr st → Inv P C.np w0 F0 H st a w → Q .ret a w) → c.wp P Q a w
  | .skip, L, k, st, Qn, Qx, Qr, Q, a, w, h, hi, hn, hx, hr => wp_skip (hn _ _ _ h hi)
  | .region id ops draw, L, k, st, Qn, Qx, Qr, Q, a, w, h, hi, hn, hx, hr => by
    simp only [wpI] at h
    split at h
    · rename_i c st' hr'
      exact regionA_ok hC hstp hr' h.1 hi (fun a' w' hi' => hn _ _ _ h.2 hi')
    · cases h
  | .seq x y, L, k, st, Qn, Qx, Qr, Q, a, w, h, hi, hn, hx, hr => by
    simp only [wpI] at h
    refine wp_seq (wpI_ok hC hstp x h hi ?_ ?_ ?_)
    · intro st1 a1 w1 h1 hi1
      exact wpI_ok hC hstp y h1 hi1 hn hx hr
    · exact hx
    · exact hr
  | .cond z x y, L, k, st, Qn, Qx, Qr, Q, a, w, h, hi, hn, hx, hr => by
    simp only [wpI] at h
    split at h
    · rename_i p hv
      obtain ⟨F, S, hi0⟩ := hi
      have := (View.val_ok hi0 (viewO_ok hi0 z) hv).bool_eq
      refine wp_cond_split this (fun hp => wpI_ok hC hstp x (h.1 hp) ⟨F, S, hi0⟩ hn hx hr) (fun hp => wpI_ok hC hstp y (h.2 hp) ⟨F, S, hi0⟩ hn hx hr)
    · cases h
  | .block id b, L, k, st, Qn, Qx, Qr, Q, a, w, h, hi, hn, hx, hr => by
    simp only [wpI] at h
    refine wp_block (wpI_ok hC hstp b h hi hn ?_ hr)
    intro i st1 a1 w1 h1 hi1
    simp only [Exit.inBlock]
    cases hb : Nat.beq i id
    · rw [hb] at h1
      have : i ≠ id := fun e => by subst e; rw [Nat.beq_refl] at hb; cases hb
      rw [if_neg this]
      exact hx _ _ _ _ h1 hi1
    · rw [hb] at h1
      rw [if_pos (nbeq_iff.1 hb)]
      exact hn _ _ _ h1 hi1
  | .loop b, L, k, st, Qn, Qx, Qr, Q, a, w, h, hi, hn, hx, hr => by
    simp only [wpI] at h
    split at h
    · rename_i l hl
      obtain ⟨⟨x, h1, h2⟩, h3⟩ := h
      refine wp_loop_x (fun x a w => l.inv x ∧ Inv P C.np w0 F0 H (stx l st x) a w) l.dec x ⟨h1, atX_ok h2 hi⟩ ?_
      intro y a1 w1 ⟨g1, g2⟩
      refine wpI_ok hC hstp b (h3 y g1 (factsL_ok g2 (f := l.ovr y) (fun t e h => by simp only [stx, h]) (l.ovr y) [] (fun t e _ h => h))) g2 ?_ hx hr
      intro st2 a2 w2 ⟨z, k1, k2, k3⟩ hi2
      exact ⟨z, ⟨k1, atX_ok k3 hi2⟩, k2⟩
    · cases h
  | .exit id, L, k, st, Qn, Qx, Qr, Q, a, w, h, hi, hn, hx, hr => wp_exit (hx _ _ _ _ h hi)
  | .ret, L, k, st, Qn, Qx, Qr, Q, a, w, h, hi, hn, hx, hr => wp_ret (hr _ _ _ h hi)
  | .rangeFunc _ _ _ _, _, _, _, _, _, _, _, _, _, h, _, _, _, _ => by simp only [wpI] at h
  | .scope _, _, _, _, _, _, _, _, _, _, h, _, _, _, _ => by simp only [wpI] at h
  | .label _, _, _, _, _, _, _, _, _, _, h, _, _, _, _ => by simp only [wpI] at h
  | .goto _, _, _, _, _, _, _, _, _, _, h, _, _, _, _ => by simp only [wpI] at h
  | .refuse _, _, _, _, _, _, _, _, _, _, h, _, _, _, _ => by simp only [wpI] at h
end
end Go.Lf
